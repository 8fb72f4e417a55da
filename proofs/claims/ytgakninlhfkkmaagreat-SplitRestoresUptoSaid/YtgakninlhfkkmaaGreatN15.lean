/- A part of the proof (part 15 of 17). -/
import Derived.Test.YtgakninlhfkkmaaGreatN14
namespace Go.Proofs.YtgakninlhfkkmaaGreat.Sh
abbrev Yr:=@Aa.nrm_cells
open Proofs
set_option maxRecDepth 10000
def ZT (hp:AF->Prop) (L T:Nat):Nat->List AE->Prop
 | 0,_=>False
 | N+1,l=>l.length<=L/\Ap l<=T/\∀x∈l,hp x.head/\ZT hp L T N x.flow/\x.rows.length<=L/\∀r∈x.rows,hp r.head/\r.cells.length<=L/\∀c∈r.cells,hp c.head/\ZT hp L T N c.flow
def la (hp:AF->Prop) (L T N:Nat) (x:AE):Prop:=hp x.head/\ZT hp L T N x.flow/\x.rows.length<=L/\∀r∈x.rows,hp r.head/\r.cells.length<=L/\∀c∈r.cells,hp c.head/\ZT hp L T N c.flow
theorem J8 {hp:AF->Prop} {L T N:Nat} {l:List AE}:ZT hp L T (N+1) l↔l.length<=L/\Ap l<=T/\∀x∈l,la hp L T N x:=Iff.rfl
theorem gZ {hp:AF->Prop} {L T K:Nat} (f:L<=K) (h2:T<=K):∀{N:Nat} {l:List AE},ZT hp L T N l->Da hp K N l
 | N+1,l,H=>⟨by have:=H.1;omega,by have:=H.2.1;omega,λx g=>by
  obtain⟨a,b,c,d⟩:=H.2.2 x g;exact⟨a,gZ f h2 b,by omega,λr e=>⟨(d r e).1,by have:=(d r e).2.1;omega,λc hc=>⟨((d r e).2.2 c hc).1,gZ f h2 ((d r e).2.2 c hc).2⟩⟩⟩⟩
theorem gI {hp hp':AF->Prop} (e:∀x,hp x->hp' x) {L T g T':Nat} (h:L<=g) (h2:T<=T'):∀{N:Nat} {l:List AE},ZT hp L T N l->ZT hp' g T' N l
 | N+1,l,H=>⟨by have:=H.1;omega,by have:=H.2.1;omega,λx i=>by
  obtain⟨a,b,c,d⟩:=H.2.2 x i;exact⟨e _ a,gI e h h2 b,by omega,λr f=>⟨e _ (d r f).1,by have:=(d r f).2.1;omega,λc hc=>⟨e _ ((d r f).2.2 c hc).1,gI e h h2 ((d r f).2.2 c hc).2⟩⟩⟩⟩
theorem iv {hp:AF->Prop} {L T N:Nat} {x:AE} (H:la hp L T N x) (t:ByteArray):la hp L T N (.mk x.kind x.code x.id t x.head x.flow x.rows):=by cases x;exact H
theorem eR {hp:AF->Prop} {L T:Nat}:∀{N:Nat} {l:List AE},ZT hp L T N l->ZT hp L T N (Ac l)
 | N+1,l,H=>by
  rw[J8]at H ⊢;unfold Ac EM;rw[kM];refine⟨?_,?_,?_⟩;have:=LV (l.map AE.nrm) [];simp at this;omega;have:=QL (l.map AE.nrm) [];have e:Ap (l.map AE.nrm)=Ap l:=by simp only[Ap,Qw];congr 1;exact jT λx _=>by simp only[YP,(QP x).2.2.2.1]
  have k:Ap []=0:=rfl;rw[e,k]at this;omega;refine Mq (p:=la hp L T N) (λx t h=>iv h t) _ _ (λy g=>by cases g) λy g=>?_;obtain⟨x,s,rfl⟩:=qy.1 g;obtain⟨a,b,c,d⟩:=H.2.2 x s;obtain⟨_,_,_,_,m,n,i⟩:=QP x;refine⟨by rw[m];exact a,by rw[n];exact eR b,?_,?_⟩;rw[i];have:=qU (λr=>!decide (r.cells.length=0)) (x.rows.map Aa.nrm);simp only[qd]at this;omega;rw[i];intro r q;obtain⟨r0,h0,rfl⟩:=qy.1 (qW.1 q).1;obtain⟨u,v,w⟩:=d r0 h0;have f:(Aa.nrm r0).head=r0.head/\(Aa.nrm r0).cells=r0.cells.map Wl.nrm:=by cases r0;rw[Aa.nrm,Uo];exact⟨rfl,rfl⟩
  refine⟨by rw[f.1];exact u,by rw[f.2,qd];exact v,?_⟩;rw[f.2];intro c hc;obtain⟨c0,o,rfl⟩:=qy.1 hc;obtain⟨z,A⟩:=w c0 o;have j:(Wl.nrm c0).head=c0.head/\(Wl.nrm c0).flow=Ac c0.flow:=by cases c0;rw[Wl.nrm];exact⟨rfl,rfl⟩
  exact⟨by rw[j.1];exact z,by rw[j.2];exact eR A⟩
theorem gz {hp:AF->Prop} {L T N:Nat} {l:List AE} (cu:Int) (H:ZT hp L T (N+1) l):ZT hp L T (N+1) (Bj l cu).1/\ZT hp L T (N+1) (Bj l cu).2:=by
 rw[J8]at H;have h1:=EU l cu;have h2:=Mh l cu _ (qa _);have a:=LN (p:=la hp L T N) (λx t h=>iv h t) l cu H.2.2 _ (qa _);rw[qi]at h2;exact⟨⟨by omega,by have:=h2.1;unfold Bj;omega,a.1⟩,⟨by omega,by have:=h2.2;unfold Bj;omega,a.2⟩⟩
theorem gd {hp:AF->Prop} {L T N:Nat} {l:List AE} (a b:Int) (H:ZT hp L T (N+1) l):ZT hp L T (N+1) (Ad l a b).1:=by
 unfold Ad;split;exact eR (gz a (gz b H).1).2;exact⟨by simp,by simp[Ap],by simp⟩
theorem gW (l:List AE) (cu:Int):∀k,k<=l.length->Ap (DJ l cu k).1+Ap (DJ l cu k).2<=Ap (l.take k)
 | 0,_=>by simp[DJ,Ap]
 | k+1,h=>by
  rw[Gw l cu k h,qb h,Cq];have h1:=gW l cu k (by omega);have a:∀x:AE,Ap [x]=x.text.size:=by simp[Ap]
  rw[a];unfold Cb;dsimp only;split;dsimp only;rw[Cq,a];omega;split;dsimp only;rw[Cq,a];omega;dsimp only;rw[Cq,Cq,a,a];have e:∀(x:AE) t,(x.setText t).text=t:=λ_ _=>rfl;rw[e,e,ByteArray.size_extract,ByteArray.size_extract];omega
theorem fH {l:List AE} {n:Int} (h:∀k,k<=l.length->CI (l.take k)<=n):∀k,k<=l.length->DJ l n k=(l.take k,[])
 | 0,_=>by simp[DJ]
 | k+1,hk=>by
  rw[Gw l n k hk,fH h k (by omega)];have a:=h (k+1) hk;rw[qb hk,Gt]at a;simp only[CI]at a;unfold Cb;dsimp only;rw[if_pos (by omega),qb hk]
theorem fy (l:List AE) (k:Nat):CI (l.take k)<=CI l:=by
 have h1:=d9 (λ_=>false) (l.take k);have h2:=d9 (λ_=>false) l;have a:dh (λ_=>false) l=dh (λ_=>false) (l.take k)++dh (λ_=>false) (l.drop k):=by rw[<-db,ja]
 rw[a,qt]at h2;omega
theorem iw (l:List AE):Ap (Ac l)<=Ap l:=by
 have:=QL (l.map AE.nrm) [];have e:Ap (l.map AE.nrm)=Ap l:=by simp only[Ap,Qw];congr 1;exact jT λx _=>by simp only[YP,(QP x).2.2.2.1]
 have a:Ap []=0:=rfl;unfold Ac EM;rw[kM];rw[e,a]at this;omega
theorem i6 (l:List AE) (a b:Int) (hl:(A8 l).1=CI l):Ap (Ad l 0 a).1+Ap (Ad l a b).1+Ap (Ad l b (A8 l).1).1<=2*Ap l:=by
 have d:∀l cu,Ap (Bj l cu).1+Ap (Bj l cu).2<=Ap l:=λl cu=>by
  have:=gW l cu l.length (qa _);rw[qi]at this;exact this
 have c:(Bj l (A8 l).1).1=l:=by
  unfold Bj;rw[fH (λk _=>by rw[hl];exact fy l k) _ (qa _),qi]
 have s:∀a b,Ap (Ad l a b).1<=Ap (Bj (Bj l b).1 a).2:=λa b=>by
  unfold Ad;split;exact iw _;simp[Ap]
 have s1:=s 0 a;have s2:=s a b;have s3:=s b (A8 l).1;rw[c]at s3;have e1:=d l a;have e2:=d (Bj l a).1 0;have e3:=d l b;have e4:=d (Bj l b).1 a;omega
section
variable {hp hp' : AF → Prop} (g : Bool → AF → AF) (sc : Av)
theorem gK (it:Int->List AE->Bool->Unit->List AE×Unit) (mid:Bool) (l:List AE):Ap (l.map (eF g it mid))=Ap l:=by
 simp only[Ap,Qw];congr 1
theorem fT (o:∀h mid,hp h->hp' (g mid h)) (m:∀h,hp h->hp' h) {L T:Nat}:∀(N:Nat) (id:Int) (l:List AE) (mid:Bool),dX N l->ZT hp L T N l->ZT hp' (3*L) (2*T) N (Al (gF g) sc N id l mid ()).1
 | 0,_,_,_,h,_=>h.elim
 | N + 1, id, l, mid, i, H => by
  have P:∀mid l,dX (N+1) l->ZT hp L T (N+1) l->∀y∈l.map (eF g (Al (gF g) sc N) mid),la hp' (3*L) (2*T) N y:=λmid l i H y D=>by
   obtain⟨x,f,rfl⟩:=qy.1 D;obtain⟨a,b,c,d⟩:=H.2.2 x f;have u:(eF g (Al (gF g) sc N) mid x).rows=(if x.kind=7 then x.rows.map (fO g (Al (gF g) sc N) mid)else x.rows):=rfl;have a5:(eF g (Al (gF g) sc N) mid x).flow=(if x.kind=6 then(Al (gF g) sc N x.id x.flow mid ()).1 else x.flow):=rfl;refine⟨o _ _ a,?_,?_,λr q=>?_⟩;rw[a5];split;rename_i k;exact fT o m N _ _ _ ((i x f).2.1 k) b;exact gI m (by omega) (by omega) b;rw[u];split;rw[qd];omega;omega;rw[u]at q;split at q;rename_i k;obtain⟨r0,p,rfl⟩:=qy.1 q;obtain⟨s,B,n⟩:=d r0 p;have e:(fO g (Al (gF g) sc N) mid r0).cells=r0.cells.map (gr g (Al (gF g) sc N) mid):=rfl;refine⟨o _ _ s,by rw[e,qd];omega,λc hc=>?_⟩;rw[e]at hc;obtain⟨c0,j,rfl⟩:=qy.1 hc;exact⟨o _ _ (n c0 j).1,fT o m N _ _ _ (((i x f).2.2 k r0 p).2 c0 j) (n c0 j).2⟩;obtain⟨s,B,n⟩:=d r q;exact⟨m _ s,by omega,λc hc=>⟨m _ (n c hc).1,gI m (by omega) (by omega) (n c hc).2⟩⟩
  rw[Al];split;rename_i t;have C:mid=false:=by unfold EX at t;cases mid;rfl;simp at t
  subst C;obtain⟨_,w,k2,k3⟩:=(dn sc i).1 t;have v:=dP i;have z:=gd 0 sc.a H;have A:=gd sc.a sc.b H;have z3:=gd sc.b (A8 l).1 H;have E:=P false _ (dM 0 sc.a (by omega) w i) z;have F:=P true _ (dM sc.a sc.b w (by omega) i) A;have G:=P false _ (dM sc.b (A8 l).1 (by omega) (by rw[v];dsimp only;omega) i) z3;have ht:=i6 l sc.a sc.b (by rw[v]);have hT:=H.2.1;dsimp only;rw[dU,dU,dU];refine⟨?_,?_,λx f=>?_⟩;have:=z.1;have:=A.1;have:=z3.1;simp only[qt,qd];omega;rw[Cq,Cq,gK,gK,gK];omega;rcases qe.1 f with f|f;rcases qe.1 f with f|f;exact E x f;exact F x f;exact G x f;rw[dU];refine⟨by rw[qd];have:=H.1;omega,by rw[gK];have:=H.2.1;omega,P mid l i H⟩
end
theorem Q2 {l:List Az} {i:Nat} (h:i<l.length):HK l i∈l:=by
 have:HK l i=l[i]:=by simp[HK,List.getD,h]
 rw[this];exact ql h
theorem SU {l:List Az} {j:Nat} (h:j+1<l.length) (x:Az):x∈IQ l j↔x∈l:=by
 have b:HK l j=l[j]:=by simp[HK,List.getD,show j<l.length by omega]
 have c:HK l (j+1)=l[j+1]:=by simp[HK,List.getD,h]
 unfold IQ;have d1:l.getD j W7=l[j]:=b;have d2:l.getD (j+1) W7=l[j+1]:=c;constructor;intro a;rcases List.mem_or_eq_of_mem_set a with a|rfl;rcases List.mem_or_eq_of_mem_set a with a|rfl;exact a;exact Q2 (by omega);exact Q2 h;intro a;obtain⟨i,hi,rfl⟩:=ky.1 a;rw[List.mem_iff_getElem?];by_cases c1:i=j;subst c1;exact⟨i+1,by rw[List.getElem?_set_ne (by omega),List.getElem?_set_self (by omega)];exact congrArg some b⟩;by_cases d:i=j+1;subst d;exact⟨j,by rw[List.getElem?_set_self (by rw[List.length_set];omega)];exact congrArg some c⟩;exact⟨i,by rw[List.getElem?_set_ne (by omega),List.getElem?_set_ne (by omega)];simp[hi]⟩
theorem NS:∀(j:Nat) {l:List Az},j<l.length->∀x,x∈E8 l j↔x∈l
 | 0,_,_,x=>by rw[E8]
 | j+1,l,h,x=>by
  rw[E8];split;rw[NS j (by rw[KQ];omega),SU h];rfl
theorem KO (l:List Az):∀i,i<=l.length->∀x,x∈Cz l i↔x∈l
 | 0,_,x=>by rw[Cz]
 | i+1,h,x=>by rw[Cz,NS i (by rw[HH];omega),KO l i (by omega)]
theorem fV {h:AF} {r:Int}:r∈h.revs↔(h.ins≠0/\h.ins=r)\/(∃d∈h.dels,d.rev=r)\/∃y∈h.layers,y.rev=r:=by
 unfold AF.revs;by_cases e:h.ins=0;simp[e];simp[e,eq_comm]
section
variable {m2 : List Int} {rev nx : Int}
theorem gh {h:AF} {r:Int}:(∃d∈(Ji (λy=>y==rev) nx h).dels,d.rev=r)↔∃d∈h.dels,(if d.rev=rev then nx else d.rev)=r:=by
 have e:(Ji (λy=>y==rev) nx h).dels=Cz (h.dels.map (Bz (λy=>y==rev) nx)) h.dels.length:=rfl;rw[e];constructor;rintro⟨d,a,b⟩;rw[KO _ _ (by rw[qd];exact qa _)]at a;obtain⟨c,h0,rfl⟩:=qy.1 a;exact⟨c,h0,by simpa[Bz,Kl]using b⟩;rintro⟨d,a,b⟩;exact⟨Bz (λy=>y==rev) nx d,(KO _ _ (by rw[qd];exact qa _) _).2 (Kg a),by simpa[Bz,Kl]using b⟩
theorem fN {h:AF} {r:Int}:(∃d∈(Ji (λy=>y==rev) nx h).layers,d.rev=r)↔∃d∈h.layers,(if d.rev=rev then nx else d.rev)=r:=by
 have e:(Ji (λy=>y==rev) nx h).layers=h.layers.map (CE (λy=>y==rev) nx):=rfl;rw[e];constructor;rintro⟨d,a,b⟩;obtain⟨c,h0,rfl⟩:=qy.1 a;exact⟨c,h0,by simpa[CE,Kl]using b⟩;rintro⟨d,a,b⟩;exact⟨CE (λy=>y==rev) nx d,Kg a,by simpa[CE,Kl]using b⟩
theorem iN {h:AF}:(Ji (λy=>y==rev) nx h).ins=if h.ins≠0/\h.ins=rev then nx else h.ins:=by
 have e:(Ji (λy=>y==rev) nx h).ins=FV (λy=>y==rev) nx h.ins:=rfl;rw[e,FV];simp
theorem KU {h:AF} (H:J5 m2 h):J5 (nx::m2) (Ji (λy=>y==rev) nx h):=by
 obtain⟨a,H⟩:=H;have e:(Ji (λy=>y==rev) nx h).dels=Cz (h.dels.map (Bz (λy=>y==rev) nx)) h.dels.length:=rfl;have f:(Ji (λy=>y==rev) nx h).dels.length=h.dels.length:=by rw[e,HH,qd]
 have g:(Ji (λy=>y==rev) nx h).layers.length=h.layers.length:=qd _;refine⟨⟨a.props,by rw[f];exact a.dels,by rw[g];exact a.layers⟩,⟨?_,by rw[f];exact H.dlen,λx c=>?_,by rw[g];exact H.llen,λx c=>?_⟩⟩;rw[iN];split;exact .inr (by simp);rcases H.ins with e|e;exact .inl e;exact .inr (by simp[e]);obtain⟨d,b,h2⟩:=(gh (h:=h) (rev:=rev) (nx:=nx)).1 ⟨x,c,rfl⟩;rw[<-h2];split;simp;simp[H.dels d b];obtain⟨d,b,h2⟩:=(fN (h:=h) (rev:=rev) (nx:=nx)).1 ⟨x,c,rfl⟩;rw[<-h2];split;simp;simp[H.layers d b]
theorem O0 {h:AF} (H:J5 m2 h):J5 (nx::m2) h:=
 ⟨H.1,⟨H.2.ins.imp id λe=>by simp[e],H.2.dlen,λx a=>by simp[H.2.dels x a],H.2.llen,λx a=>by simp[H.2.layers x a]⟩⟩
end
section
variable (g : Bool → AF → AF) (sc : Av)
end
theorem K0 {c:Nat->Int} {k n:Nat} (a:∀m,m<k->c m<0) (h2:∀m,k<=m->m<n->¬c m<0):∀(d i j:Nat),j-i<=d->i<=k->k<=j->j<=n->Fd c i j=k
 | d,i,j,hd,hi,hj,hn=>by
  rw[Fd];split;rename_i hij;cases d with
  | zero=>omega
  | succ d=>
   split;rename_i hc;refine K0 a h2 d _ j (by omega) ?_ hj hn;rcases ji ((i+j) / 2) k with h|h;omega;exact absurd hc (h2 _ h (by omega));rename_i hc;refine K0 a h2 d i _ (by omega) hi ?_ (by omega);rcases ji ((i+j) / 2) k with h|h;exact absurd (a _ h) hc;exact h
  omega
theorem Sx {f:Nat->Int} {n:Nat} {x:Int} (d:∀i j,i<=j->j<n->f i<=f j) (s:∃j,j<n/\f j=x) {c:Nat->Int} (hc:∀i,i<n->(c i<0↔f i<x)/\(c i=0↔f i=x)):(BI c n).2=true:=by
 obtain⟨j,a,hfj⟩:=s;have key:∀j,j<n->x<=f j->∃k,k<=j/\x<=f k/\∀m,m<k->f m<x:=by
  intro j
  induction j with
  | zero=>intro _ h;exact⟨0,qa _,h,λm b=>by omega⟩
  | succ j ih=>
   intro a h;by_cases hc:x<=f j;obtain⟨k,o,p,g⟩:=ih (by omega) hc;exact⟨k,by omega,p,g⟩;exact⟨j+1,qa _,h,λm b=>by have:=d m j (by omega) (by omega);omega⟩
 obtain⟨k,o,p,g⟩:=key j a (by omega);have l:k<n:=by omega
 have e:f k=x:=by have:=d k j o a;omega
 have r:Fd c 0 n=k:=K0 (λm b=>(hc m (by omega)).1.2 (g m b)) (λm q h2=>by rw[(hc m h2).1];have:=d k m q h2;omega) n 0 n (by omega) (qg _) (by omega) (qa _);unfold BI;rw[r];simp only[decide_eq_true_eq];exact⟨l,(hc k l).2.2 e⟩
theorem Q_ {U:List Int} (g:U.Pairwise (· ≤ ·)) {x:Int} (l:x∈U):(BI (Nw U x) U.length).2=true:=by
 obtain⟨j,c,e⟩:=ky.1 l;refine Sx (f:=λi=>U.getD i 0) (x:=x) (λi k hik d=>?_) ⟨j,c,by simp[c,e]⟩ λi hi=>?_;have a:U.getD i 0=U[i]'(by omega):=by simp[List.getD,show i<U.length by omega]
 have h2:U.getD k 0=U[k]:=by simp[List.getD,d]
 rw[a,h2];rcases ji i k with h|h;exact jC.1 g i k (by omega) d h;have:i=k:=by omega
 subst this;omega;have a:U.getD i 0=U[i]:=by simp[List.getD,hi]
 rw[a];unfold Nw;rw[qf hi];dsimp only;by_cases c1:U[i]<x;rw[if_pos c1];omega;rw[if_neg c1];by_cases b:U[i]=x;rw[if_pos b];omega;rw[if_neg b];omega
theorem gB {d:AI} {x:Int} (h0:x≠0) (e:x∈AE.usL d.flow++d.«end».all):(BI (Nw (IS d) x) (IS d).length).2=true:=by
 refine Q_ ?_ ?_;unfold IS DI;have:=List.pairwise_mergeSort (le:=λx y:Int=>decide (x<=y)) (λa b c h1 h2=>by simp at *;omega) (λa b=>by simp;omega) ((Bd [] (AE.usL d.flow++d.«end».all)).filter λx=>decide (x≠0));exact this.imp λh=>by simpa using h
 unfold IS DI;rw[List.mem_mergeSort,qW];exact⟨(LA x _ _).2 (.inr e),by simpa using h0⟩
theorem II {L:List Ax} (h:Cd L=0):∀i j,(a:i<j)->(b:j<L.length)->(L[i]'(by omega)).id<L[j].id:=by
 have hl:¬256<L.length:=λg=>by rw[Cd,if_pos g]at h;cases h
 rw[Cd,if_neg hl]at h;have step:∀i,(hi:i+1<L.length)->(L[i]'(by omega)).id<L[i+1].id:=λi hi=>by
  have:=Jv h (i+1) hi;unfold E6 at this;rw[qf hi,Nat.add_sub_cancel,qf (show i<L.length by omega)]at this;dsimp only at this;by_cases e:CL L[i+1]=0;rw[if_pos e,if_neg (by omega)]at this;unfold Do at this;by_cases c1:L[i+1].id<(L[i]'(by omega)).id;simp[c1]at this;by_cases c:(L[i]'(by omega)).id<L[i+1].id;exact c;simp[c1,c]at this;rw[if_neg e]at this;exact absurd this e
 intro i j
 induction j with
 | zero=>intro a;omega
 | succ j ih=>
  intro a b;rcases ji i j with g|g;have:=ih g (by omega);have:=step j b;omega;have:i=j:=by omega
  subst this;exact step i b
theorem Lx {L:List Ax} {id:Int} (h:∃r∈L,r.id=id):(CA L id).2=true:=by
 unfold CA;by_cases hc:Cd L=0;rw[if_pos hc];have o:=II hc;obtain⟨r,c,e⟩:=h;obtain⟨j,l,n⟩:=ky.1 c;have:(BI (Gr L id) L.length).2=true:=by
  have g:∀i,(hi:i<L.length)->(L.getD i GV).id=L[i].id:=λi hi=>by simp[List.getD,hi]
  refine Sx (f:=λi=>(L.getD i GV).id) (x:=id) (λi k hik m=>?_) ⟨j,l,by rw[g j l,n,e]⟩ λi hi=>?_;rw[g i (by omega),g k m];rcases ji i k with q|q;have:=o i k q m;omega;have:i=k:=by omega
  subst this;omega;rw[g i hi];unfold Gr Do;rw[qf hi];dsimp only;by_cases c1:L[i].id<id;rw[if_pos c1];omega;rw[if_neg c1];by_cases d:id<L[i].id;rw[if_pos d];omega;rw[if_neg d];omega
 rw[if_pos this];rw[if_neg hc];obtain⟨r,c,e⟩:=h
 induction L with
 | nil=>cases c
 | cons a L ih =>
  clear hc;have:∀L:List Ax,r∈L->(GU id L).2=true:=λL=>by
   induction L with
   | nil=>intro h;cases h
   | cons b L ih=>
    intro h;rw[GU];split;rfl;rename_i hb;rcases qk.1 h with rfl|h;exact absurd e hb;exact ih h
  exact this _ c
set_option maxHeartbeats 4000000 in
theorem mJ (k:Nat):Vu (iV k) (k+2) 43 [] [.ptr (k+1) 0] lj (λh=>h.sized) where
 lt s o h:=by simp only[iV];rw[if_neg (by omega),if_neg (by omega)]
 dom s s' o h:=by
  simp only[iV]at h ⊢;by_cases L:o=k;rw[if_pos L]at h;cases h;by_cases A:o=k+1;rw[if_neg L,if_pos A]at h;cases h;rw[if_neg L,if_neg A]
 cl s o y h:=RI k s o y h
 call s p H n hp _ hn hs:=by
  refine Db Tryz.func43 rfl λZ=>?_;have a2:H (k+1)=some (.cells [.map k]):=hs (k+1) _ (by simp[iV]);obtain⟨U,D⟩:∃U:dq->Hp,∀s',U s'=Aj (iV k) s' H:=⟨_,λ_=>rfl⟩
  have G:∀s',U s' k=some (.map (dL s')):=λs'=>by rw[D];simp[Aj,iV]
  have C:∀s',U s' (k+1)=some (.cells [.map k]):=λs'=>by rw[D];simp[Aj,iV]
  have N:∀s' d,hset (U s') k (some (.map (dL d)))=U d:=λs' d=>by rw[D,D,Yh _ _ _ a2,Yh _ _ _ a2];funext j;simp only[hset];grind
  have F:U s=H:=by
   rw[D];funext j;simp only[Aj];split;rename_i y e;exact(hs j y e).symm;rfl
  have B:∀s',Es (U s') n:=λs' j y e=>by
   rw[D]at e;simp only[Aj]at e;split at e;rename_i z A;have:=RI k s' j z A;cases e;simp only[iV]at A;refine⟨?_,JL (by omega) this⟩;split at A;omega;split at A;omega;cases A;exact Z j y e
  have u:∀s' j y,U s' j=some y->j<n:=λs' j y e=>(B s' j y e).1;have M:∀d,Aj (iV k) d (U s)=U d:=λd=>by rw[F,D]
  rw[<-F];refine AY 1 [(1,.ptr (k+1) 0),(2,.iptr (p.head.flat++[.bool p.mid,AA p.units]))] (U s) n ?_ (λm Q=>?_);simp[go_sem,BW.enc,AF.flat,IO];refine⟨AV (AW (u s) (qa n)) (by simp[hset]),AJ (u s) AB⟩;have X:p.head.moves.length<=1048577:=by
   have K:=IY p.head.dels;have h2:=hp.dels;have h3:p.head.mv0.length<=1:=by unfold AF.mv0;split<;>simp
   simp only[AF.moves,qt];omega
  obtain⟨l,hl⟩:∃l,p.head.moves=l:=⟨_,rfl⟩
  have Y:lj s p=fx s (l.take l.length) p.mid:=by rw[qi,<-hl];rfl
  rw[hl]at X;refine Bc 0 [(1,.ptr (k+1) 0),(2,.iptr (p.head.flat++[.bool p.mid,AA p.units])),(8,.imm 2 (l.map B5) false),(9,AA l.length),(10,AA 0)] (U s) n (AH ?_) (λm Q=>?_);have c:=bF p.head hp;rw[hl]at c;simp[go_sem,AF.flat];refine qw (by simpa[AF.enc,AF.flat]using c) ?_;simp[go_sem,IO,Q];refine AR (BG 0 (α:=Nat) (λi=>[(1,.ptr (k+1) 0),(2,.iptr (p.head.flat++[.bool p.mid,AA p.units])),(8,.imm 2 (l.map B5) false),(9,AA l.length),(10,AA i)]) (λi=>U (fx s (l.take i) p.mid))
   (λi m=>i<=l.length/\n<=m) (λi=>l.length-i) 0 ⟨qg _,by omega⟩ ?_ ?_ ?_)
  simp[go_sem,Ai,IO];simp[fx];rintro i m ⟨hi,Q⟩;by_cases E:i<l.length
  . have w1:=wS i (by omega);obtain⟨x,W⟩:∃x,l[i]=x:=⟨_,rfl⟩
    have t:fx s (l.take (i+1)) p.mid=ex (fx s (l.take i) p.mid) x p.mid:=by
     rw[qb E,W];simp[fx]
    generalize hS:fx s (l.take i) p.mid=S at t;refine Bp 0 [(1,.ptr (k+1) 0),(2,.iptr (p.head.flat++[.bool p.mid,AA p.units])),(8,.imm 2 (l.map B5) false),(9,AA l.length),(10,AA i),(11,.bool true)] (U S) m ?_ (λm2 g=>?_);simp[go_sem,IO,E];subst g;refine Bp 0 [(1,.ptr (k+1) 0),(2,.iptr (p.head.flat++[.bool p.mid,AA p.units])),(8,.imm 2 (l.map B5) false),(9,AA l.length),(10,AA i)] (U S) m ?_ (λm2 g=>?_);simp[go_sem,IO];subst g;refine AT 0 (α:=Unit) (λ_=>[(1,.ptr (k+1) 0),(2,.iptr (p.head.flat++[.bool p.mid,AA p.units])),(8,.imm 2 (l.map B5) false),(9,AA l.length),(10,AA i)]) (λ_=>U (ex S x p.mid)) (λ_ m2=>m<=m2) (AR ?_) (λ_ m2 g=>?_)
    . have hb:∀j y,U S j=some y->j<m:=λj y e=>by have:=u S j y e;omega
      refine AY 1 [(1,.ptr (k+1) 0),(2,.iptr (p.head.flat++[.bool p.mid,AA p.units])),(8,.imm 2 (l.map B5) false),(9,AA l.length),(10,AA i),(4,.iptr [AA x.1,AA x.2])] (U S) m ?_ (λm2 g=>?_);simp[go_sem,IO,E,W,B5,AC];exact⟨AV (AW hb (qa _)) (AC _ _ _),AJ hb (AJ hb AB)⟩;have hmE:B5 x=.agg [.int .i64 x.1,.int .i64 x.2]:=rfl;obtain⟨v,r,f,J,I⟩:∃(v:Bool×Bool) (r:Option (Nat×SV)),F3 Tryz.prog 89 [.int .i64 x.1,.int .i64 x.2] (dL S) 0=some r/\(match r with|some pr=>pr.2|none=>BH Tryz.prog 90)=gC v/\
       (match r with|some pr=>HF (dL S) pr.1 (B5 x) (gC (fg v p.mid))|none=>dL S++[(B5 x,gC (fg v p.mid))])=dL (ex S x p.mid):=by
       rcases gk x.1 x.2 p.mid S 0 with⟨K,h2⟩|⟨j,w,K,h2⟩
       exact⟨(false,false),none,K,by simp[go_sem,gC],h2.symm⟩;exact⟨w,some (0+j,gC w),K,rfl,by rw[jc];exact h2.symm⟩
      refine AT 0 (α:=Nat) (λq=>[(1,.ptr (k+1) 0),(2,.iptr (p.head.flat++[.bool p.mid,AA p.units])),(8,.imm 2 (l.map B5) false),(9,AA l.length),(10,AA i),(4,.iptr [AA x.1,AA x.2]),(5,.ptr q 0)]) (λq=>hset (U S) q (some (.cells [.bool v.1,.bool v.2]))) (λq m2=>m<=q/\q<m2) (AH ?_) (λq m3 R=>?_);simp[go_sem,C];refine iO (q:=k) (a:=x.1) (b:=x.2) rfl (by simp[go_sem]) (G S) (by simp[go_sem]) J f ?_;simp[go_sem,IO,gC,AS,AC];exact⟨m2,⟨by omega,by omega⟩,IO,AB⟩;obtain⟨T,V⟩:=R;have hUq:U S q=none:=AW hb T;refine Bo 0 [(1,.ptr (k+1) 0),(2,.iptr (p.head.flat++[.bool p.mid,AA p.units])),(8,.imm 2 (l.map B5) false),(9,AA l.length),(10,AA i),(4,.iptr [AA x.1,AA x.2]),(5,.ptr q 0)] (hset (U S) q (some (.cells [.bool (v.1||p.mid),.bool (v.2 || !p.mid)]))) (λm2=>q<m2) (AH ?_) (λm4 hm4=>?_)
      . obtain⟨v1,v2⟩:=v;cases v1<;>cases v2<;>cases hmid:p.mid<;>simp[go_sem,AF.flat,AC,AS]
        all_goals (repeat first|refine nq ?_|refine sq ?_|refine aq ?_)
        all_goals exact V
      refine AH ?_;have P:k≠q:=by omega
      have O:k+1≠q:=by omega
      simp[go_sem,AD _ _ O,C,AC];refine gE (q:=k) (a:=x.1) (b:=x.2) rfl (by simp[go_sem]) (by rw[AD _ _ P];exact G S) (by simp[go_sem]) (Tn S) I f ?_;simp[go_sem,IO];refine⟨by omega,λj y e=>?_⟩;rw[<-N S]at e;simp only[hset]at e ⊢;have:=u S j y;grind
    refine AH ?_;simp[go_sem,w1,IO,-Int.natCast_add];exact⟨i+1,by omega,⟨by omega,by omega⟩,IO,by rw[t];exact AB⟩
  have:i=l.length:=by omega
  subst this;refine AH ?_;simp[go_sem];rw[M,Y,qi];exact B9 (B _) (by simp[closed,closedL]) AB
def zD:AI:=⟨[],z0,[],FG⟩
def eG (rev:Int) (e:(Int×Int)×(Bool×Bool)):Bool:=e.1.1==rev&&(e.2.1&&e.2.2)
def eT (d:AI) (r:Ax):Nat:=(BI (Gr d.revs r.id) d.revs.length).1
def da (d:AI) (rev:Int) (r:Ax) (c:Int×Int×Int) (S:dq) (R:AI):AI×Int:=
 if c.2.2≠0 then(zD,c.2.2)else if CL r≠0 then(zD,CL r)else if(CA d.revs r.id).2=true then(zD,7)else if 256<=d.revs.length then(zD,9)
 else if c.1=0\/c.2.1=0 then(zD,11)else if S.any (eG rev)=true then(zD,24)else(R,0)
theorem HT (n:Nat) (E:AI) (e:Int):closed n (.tup [E.enc,AA e])=true:=by
 simp[AI.enc,AF.flat,AK.flat,closed,closedL,AE.E.closedL,Er.E.closedL,Az.E.closedL,Am.E.closedL,Ax.E.closedL,A6.E.closedL,Fb.E.closedL,Au.E.closedL,Ft.E.closedL]
theorem Oz {a b:Int×Int} (h:B5 a=B5 b):a=b:=by
 simp only[B5,SV.agg.injEq,List.cons.injEq,SV.int.injEq,true_and,and_true]at h;exact Prod.ext h.1 h.2
theorem P_ {a b:Bool×Bool} (h:gC a=gC b):a=b:=by
 simp only[gC,SV.agg.injEq,List.cons.injEq,SV.bool.injEq,and_true]at h;exact Prod.ext h.1 h.2
theorem gD {α:Type} {l:List α} {i:Nat} {x:α} (hi:i<l.length) (h:x∈l) (a:x≠l[i]):x∈l.eraseIdx i:=by
 rw[List.eraseIdx_eq_take_drop_succ];have b:l=l.take i++l[i]::l.drop (i+1):=by rw[Q6,ja]
 rw[b]at h;simp only[qe,qk]at h ⊢;rcases h with h|h|h;exact .inl h;exact absurd h a;exact .inr h
def gj (S:dq) (rev:Int) (left:List (SV×SV)):Prop:=(∀p∈left,∃e∈S,p=(B5 e.1,gC e.2))/\∀e∈S,eG rev e=true->(B5 e.1,gC e.2)∈left
theorem gj.start (S:dq) (rev:Int):gj S rev (dL S):=⟨λp hp=>by obtain⟨e,a,rfl⟩:=qy.1 hp;exact⟨e,a,rfl⟩,λe a _=>qy.2 ⟨e,a,rfl⟩⟩
theorem gj.erase {S:dq} {rev:Int} {left:List (SV×SV)} (H:gj S rev left) {i:Nat} {e:(Int×Int)×(Bool×Bool)} (hw:left[i]? = some (B5 e.1,gC e.2)) (hb:eG rev e=false):gj S rev (left.eraseIdx i):=by
 obtain⟨d,c⟩:=qo.1 hw;refine⟨λp hp=>H.1 p (List.mem_of_mem_eraseIdx hp),λe' b a=>gD d (H.2 e' b a) λh=>?_⟩;rw[c]at h;have f:=Oz (congrArg Prod.fst h);have h2:=P_ (congrArg Prod.snd h);have:e'=e:=Prod.ext f h2;rw[this,hb]at a;cases a
theorem Tk {G:Hp} {n:Nat} (q:Nat) {y:Option BT} (hb:∀j z,G j=some z->j<n) (hq:n<=q):∀j z,G j=some z->hset G q y j=some z:=λj z e=>by
 have:=hb j z e;rw[AD _ _ (by omega)];exact e
set_option maxHeartbeats 8000000 in
theorem lm (d:AI) (rev:Int) (sc:Av) (r:Ax) (c:Int×Int×Int) (S:dq) (R:AI) (lZ:PC 13 [d.enc,AA rev,sc.enc] (.tup [AA c.1,AA c.2.1,AA c.2.2])) (hr:d.revs.length<=1048576)
 (cF:∀(k:Nat) (H:Hp) (n:Nat),k+2<=n->(∀o y,iV k [] o=some y->H o=some y)->BA Tryz.prog 36 [d.enc,sc.enc,.fn (.func 43) [] [.ptr (k+1) 0]] H n (λv h' n'=>v=.tup []/\h'=Aj (iV k) S H/\n'=n))
 (hv:Cd d.revs=0) (hne:c.2.2=0->d.revs≠[])
 (cG:∀(H:Hp) (n:Nat),BA Tryz.prog 49 [.fn (.func 46) [] [.iptr [AA r.id,.str r.author,AA r.time],.iptr [AA rev]],d.enc,sc.enc,Ao (F7 d.revs (eT d r) r)] H n (λv h' n'=>v=R.enc/\h'=H/\n'=n)):
 PC 15 [d.enc,AA rev,sc.enc,r.enc] (.tup [(da d rev r c S R).1.enc,AA (da d rev r c S R).2]):=by
 intro h n;refine Db Tryz.func15 rfl λD=>?_;have l:=D.lt;obtain⟨X,A⟩:∃X:SV,X=.iptr ([AG d.flow]++d.«end».flat++[Ao d.revs]++d.settings.flat):=⟨_,rfl⟩
 obtain⟨C,Q⟩:∃C:SV,C=.iptr [AA sc.id,AA sc.a,AA sc.b]:=⟨_,rfl⟩
 obtain⟨V,J⟩:∃V:SV,V=.iptr [AA r.id,.str r.author,AA r.time]:=⟨_,rfl⟩
 obtain⟨G,T⟩:∃G:Hp,G=hset h (n+4) (some (.cells C8)):=⟨_,rfl⟩
 have g:G (n+4)=some (.cells C8):=by rw[T,AC]
 have t:∀j y,G j=some y->j<n+5:=λj y e=>by
  rw[T]at e;simp only[hset]at e;split at e;omega;have:=l j y e;omega
 have x:∀j y,h j=some y->G j=some y:=λj y e=>by have:=l j y e;rw[T,AD _ _ (by omega)];exact e
 have fin:∀(h':Hp) (n':Nat) (e:Int),(∀j y,h j=some y->h' j=some y)->da d rev r c S R=(zD,e)->B8 n h' n' (.tup [.agg C8,AA e]) (Is (.tup [(da d rev r c S R).1.enc,AA (da d rev r c S R).2]) h n):=λh' n' e hh L=>by
  rw[L];refine Dy 3 D hh (.inr ⟨.inr ?_,IO,trivial⟩) (HT n zD e);exact⟨BC (by simp),BC (by simp),IO,IO,BC (by simp),BC (by simp),BC (by simp),BC (by simp),BC (by simp),BC (by simp),BC (by simp),trivial⟩
 have hz:hset G (n+4) (some (.cells C8))=G:=by funext j;simp only[hset];split;subst_vars;exact g.symm;rfl
 refine BP 1 [(4,X),(5,.iptr [AA rev]),(6,C),(7,V),(8,.ptr (n+4) 0)] G (λm=>n+5<=m) ?_ (λm f=>?_);rw[A,Q,J,T];simp[go_sem,Av.enc,AI.enc,Ax.enc,AF.flat,AK.flat,IO,qD,C8];refine⟨⟨AV (by simp[hset];exact D.none (by omega)) (by simp[hset]),AV (by simp[hset];exact D.none (by omega)) (by simp[hset]),AV (by simp[hset];exact D.none (by omega)) (by simp[hset]),AV (by simp[hset];exact D.none (by omega)) (by simp[hset])⟩,λj y=>?_⟩;have:=l j y;simp only[hset];grind;refine BP 0 [(4,X),(5,.iptr [AA rev]),(6,C),(7,V),(8,.ptr (n+4) 0),(10,AA c.1),(11,AA c.2.1),(12,AA c.2.2)] G (λm=>n+5<=m) ?_ (λm f=>?_);rw[A,Q];simp[go_sem,AF.flat,AK.flat];refine qw (by simpa[Av.enc,AI.enc,AF.flat,AK.flat]using lZ) ?_;simp[go_sem,IO,f];have keep:=AJ (m:=n+4) (y:=some (.cells C8)) (h:=h) (h':=G) (λj z e=>by have:=l j z e;omega) x;refine GI ?_;refine BP 0 [(4,X),(5,.iptr [AA rev]),(6,C),(7,V),(8,.ptr (n+4) 0),(10,AA c.1),(11,AA c.2.1),(12,AA c.2.2),(30,.bool (c.2.2 !=0))] G (λm=>n+5<=m) ?_ (λm f=>?_);simp[go_sem,IO,f];by_cases a1:c.2.2=0
 rotate_left
 refine Ah (b:=true) (by simp[go_sem,a1]) (AH ?_);simp[go_sem,g,C8,AC];exact fin _ _ _ keep (by simp[da,a1]);refine Ah (b:=false) (by simp[go_sem,a1]) ?_;simp only[qj,if_false];refine Gv ?_;rw[FB];refine GI ?_;refine BP 0 [(4,X),(5,.iptr [AA rev]),(6,C),(7,V),(8,.ptr (n+4) 0),(10,AA c.1),(11,AA c.2.1),(13,AA (CL r))] G (λm=>n+5<=m) ?_ (λm f=>?_);rw[J];simp[go_sem];refine qw (by simpa[Ax.enc]using W9 r) ?_;simp[go_sem,IO,f];refine BP 0 [(4,X),(5,.iptr [AA rev]),(6,C),(7,V),(8,.ptr (n+4) 0),(10,AA c.1),(11,AA c.2.1),(13,AA (CL r)),(36,.bool (CL r !=0))] G (λm=>n+5<=m) ?_ (λm f=>?_);simp[go_sem,IO,f];by_cases a2:CL r=0
 rotate_left
 refine Ah (b:=true) (by simp[go_sem,a2]) (AH ?_);simp[go_sem,g,C8,AC];exact fin _ _ _ keep (by simp[da,a1,a2]);refine Ah (b:=false) (by simp[go_sem,a2]) ?_;simp only[qj,if_false];refine Gv ?_;rw[FB];refine GI ?_;refine BP 0 [(4,X),(5,.iptr [AA rev]),(6,C),(7,V),(8,.ptr (n+4) 0),(10,AA c.1),(11,AA c.2.1),(15,.bool (CA d.revs r.id).2)] G (λm=>n+5<=m) ?_ (λm f=>?_);rw[A,J];simp[go_sem,AF.flat,AK.flat];refine qw (V4 d.revs hr r.id) ?_;simp[go_sem,IO,Ax.enc,AC,AS];exact⟨by omega,AJ (λj z e=>by have:=t j z e;omega) AB⟩;refine BP 0 [(4,X),(5,.iptr [AA rev]),(6,C),(7,V),(8,.ptr (n+4) 0),(10,AA c.1),(11,AA c.2.1),(47,.bool (CA d.revs r.id).2)] G (λm=>n+5<=m) ?_ (λm f=>?_);simp[go_sem,IO,f];cases a3:(CA d.revs r.id).2 with
 | true=>
  refine Ah (b:=true) (by simp[go_sem]) (AH ?_);simp[go_sem,g,C8,AC];exact fin _ _ _ keep (by simp[da,a1,a2,a3])
 | false=>
 refine Ah (b:=false) (by simp[go_sem]) ?_;simp only[qj,if_false];refine Gv ?_;rw[FB];refine GI (AR ?_);refine BP 0 [(4,X),(5,.iptr [AA rev]),(6,C),(7,V),(8,.ptr (n+4) 0),(10,AA c.1),(11,AA c.2.1),(49,.bool (decide ((256:Int)<=d.revs.length)))] G (λm=>n+5<=m) ?_ (λm f=>?_);rw[A];simp[go_sem,AF.flat,AK.flat,IO,f];by_cases a4:256<=d.revs.length;have u:(256:Int)<=d.revs.length:=by omega
 refine Ah (b:=true) (by simp[go_sem,u]) (AH ?_);simp[go_sem,g,C8,AC];exact fin _ _ _ keep (by simp[da,a1,a2,a3,a4]);have u:¬(256:Int)<=d.revs.length:=by omega
 refine Ah (b:=false) (by simp[go_sem,u]) ?_;simp only[qj,if_false];refine BP 0 [(4,X),(5,.iptr [AA rev]),(6,C),(7,V),(8,.ptr (n+4) 0),(55,.bool (decide (c.1=0\/c.2.1=0)))] G (λm=>n+5<=m) ?_ (λm f=>?_);by_cases b1:c.1=0;simp[go_sem,b1,IO,f];by_cases U:c.2.1=0;simp[go_sem,b1,U,IO,f];have e2:(c.2.1==0)=false:=by simpa using U
 simp[go_sem,b1,U,e2,IO,f];by_cases a5:c.1=0\/c.2.1=0;refine Ah (b:=true) (by simp[go_sem,a5]) (AH ?_);simp[go_sem,g,C8,AC];exact fin _ _ _ keep (by simp[da,a1,a2,a3,a4,a5]);refine Ah (b:=false) (by simp[go_sem,a5]) ?_;simp only[qj,if_false];refine Gv ?_;rw[UM,FB];refine BM 0 (α:=Nat) (λk=>[(4,X),(5,.iptr [AA rev]),(6,C),(7,V),(8,.ptr (n+4) 0),(16,.ptr (k+1) 0)]) (λk=>hset (hset G k (some (.map []))) (k+1) (some (.cells [.map k]))) (λk m=>n+5<=k/\k+1<m) ?_ (λk m f=>?_);simp[go_sem,IO,AS,AC];exact⟨m,⟨by omega,by omega⟩,rfl,AB⟩;obtain⟨hk1,hk2⟩:=f;have P:∀o y,iV k [] o=some y->hset (hset G k (some (.map []))) (k+1) (some (.cells [.map k])) o=some y:=λo y e=>by
  simp only[iV,dL,qS]at e;simp only[hset];grind
 have hup:Aj (iV k) S (hset (hset G k (some (.map []))) (k+1) (some (.cells [.map k])))=hset (hset G k (some (.map (dL S)))) (k+1) (some (.cells [.map k])):=by
  rw[Yh _ _ _ (AC _ _ _)];funext j;simp only[hset];grind
 refine BP 0 [(4,X),(5,.iptr [AA rev]),(6,C),(7,V),(8,.ptr (n+4) 0),(16,.ptr (k+1) 0)] (hset (hset G k (some (.map (dL S)))) (k+1) (some (.cells [.map k]))) (λm=>k+1<m) ?_ (λm f=>?_);rw[A,Q];have F:=cF k _ m (by omega) P;rw[hup]at F;simp[go_sem,AF.flat,AK.flat];refine qC (by simpa[Av.enc,AI.enc,AF.flat,AK.flat]using F) ?_;rintro v H' n' ⟨rfl,rfl,rfl⟩;simp[go_sem,IO,hk2];refine Bo 0 [(4,X),(5,.iptr [AA rev]),(6,C),(7,V),(8,.ptr (n+4) 0)] G (λm=>S.any (eG rev)=false/\n+5<=m) ?_ (λm f=>?_);refine BM 0 (α:=Nat) (λq=>[(69,.ptr q 0),(4,X),(5,.iptr [AA rev]),(6,C),(7,V),(8,.ptr (n+4) 0)]) (λq=>hset G q (some (.iter (dL S) none))) (λq m=>n+5<=q/\q<m) ?_ (λq m f=>?_);simp[go_sem,AC];refine NQ (m:=k) (es:=dL S) rfl (by simp[go_sem]) (by simp[go_sem]) (by simp[hset]) ?_;simp[go_sem,IO];refine⟨m,⟨by omega,by omega⟩,IO,λj y e=>?_⟩;have:=t j y;simp only[hset]at e ⊢;grind;obtain⟨hq1,hq2⟩:=f;refine AR (BG 0 (α:=List (SV×SV)×Option (SV×SV)) (λw=>[(69,.ptr q 0),(4,X),(5,.iptr [AA rev]),(6,C),(7,V),(8,.ptr (n+4) 0)]) (λw=>hset G q (some (.iter w.1 w.2)))
  (λw m=>q<m/\gj S rev w.1) (λw=>w.1.length) (dL S,none) ⟨hq2,gj.start S rev⟩ ?_ AB ?_)
 simp[Ai,IO];rintro⟨left,last⟩ m2 ⟨M,s⟩;dsimp only at s ⊢;have hGq:∀y,hset G q y (n+4)=some (.cells C8):=λy=>by rw[AD _ _ (by omega)];exact g
 refine AT 0 (α:=Option (Nat×(SV×SV))) (λw=>[(69,.ptr q 0),(4,X),(5,.iptr [AA rev]),(6,C),(7,V),(8,.ptr (n+4) 0),(71,.bool w.isSome)]) (λw=>hset G q (some (match w with|none=>.iter left last|some w=>.iter (left.eraseIdx w.1) (some w.2))))
  (λw m=>q<m/\match w with|none=>left=[]|some w=>left[w.1]? = some w.2) (AH ?_) (λw E N=>?_)
 simp[go_sem];refine Pg (q:=q) (left:=left) (last:=last) rfl (by simp[go_sem]) (AC _ _ _) (λi hi=>?_) λh0=>?_;simp[go_sem,AS];exact⟨some (i,left[i]),⟨M,by simp[hi]⟩,IO,AB⟩;simp[go_sem];exact⟨none,⟨M,h0⟩,IO,AB⟩;obtain⟨N,hw⟩:=N;cases w with
 | none =>
  dsimp only at hw;have hS:S.any (eG rev)=false:=by
   rw[List.any_eq_false];intro e L hb;have:=s.2 _ L hb;rw[hw]at this;cases this
  refine AH ?_;simp only[Option.isSome_none];rw[hS];simp[go_sem,IO];exact⟨by omega,Tk q t hq1⟩
 | some w =>
  obtain⟨i,p⟩:=w;dsimp only at hw ⊢;obtain⟨e,L,rfl⟩:=s.1 p (jb hw);have hb:∀j y,hset G q (some (.iter (left.eraseIdx i) (some (B5 e.1,gC e.2)))) j=some y->j<E:=λj y e=>by
   simp only[hset]at e;split at e;omega;have:=t j y e;omega
  obtain⟨B,I⟩:∃B,B=hset G q (some (.iter (left.eraseIdx i) (some (B5 e.1,gC e.2)))):=⟨_,rfl⟩
  rw[<-I]at hb ⊢;have Y:B q=some (.iter (left.eraseIdx i) (some (B5 e.1,gC e.2))):=by rw[I,AC]
  have Z:B (n+4)=some (.cells C8):=by rw[I];exact hGq _
  have W:∀j y,h j=some y->B j=some y:=λj y e=>by rw[I];have:=l j y e;rw[AD _ _ (by omega)];exact x j y e
  have q4:E≠E+1:=by omega
  have q5:E+1≠E:=by omega
  refine Bp 0 [(69,.ptr q 0),(4,X),(5,.iptr [AA rev]),(6,C),(7,V),(8,.ptr (n+4) 0)] B E ?_ (λm4 hm4=>?_);simp[go_sem,IO];subst hm4;refine AR ?_;refine Bo 1 [(69,.ptr q 0),(4,X),(5,.iptr [AA rev]),(6,C),(7,V),(8,.ptr (n+4) 0),(17,.iptr [AA e.1.1,AA e.1.2]),(18,.iptr [.bool e.2.1,.bool e.2.2])] B (λm=>q<m) (AH ?_) (λm5 hm5=>?_);simp[go_sem];refine SG (q:=q) (left:=left.eraseIdx i) (p:=(B5 e.1,gC e.2)) rfl (by simp[go_sem]) Y ?_;simp[go_sem,B5,gC,AC,AD _ _ q4,AD _ _ q5,IO];refine⟨by omega,⟨AV (AW hb (by omega)) (by simp only[hset];grind),AV (AW hb (by omega)) (by simp only[hset];grind)⟩,λj y e=>?_⟩;have:=hb j y e;simp only[hset];grind;refine BP 0 [(69,.ptr q 0),(4,X),(5,.iptr [AA rev]),(6,C),(7,V),(8,.ptr (n+4) 0),(86,.bool (eG rev e))] B (λm=>q<m) ?_ (λm6 hm6=>?_);obtain⟨⟨e1,e2⟩,e3,e4⟩:=e;cases hE:(e1==rev)<;>cases e3<;>cases e4<;>simp[go_sem,hE,eG,IO,hm5];cases K:eG rev e with
  | true=>
   have hS:S.any (eG rev)=true:=List.any_eq_true.2 ⟨e,L,K⟩;refine Ah (b:=true) (by simp[go_sem]) (AH ?_);simp[go_sem,Z,C8,AC];exact fin _ _ _ (AJ (λj z e=>by have:=l j z e;omega) W) (by simp only[da,a2,a3];simp[a1,a4,a5,hS])
  | false=>
   refine Ah (b:=false) (by simp[go_sem]) (AH ?_);simp[go_sem,IO];have hil:=(qo.1 hw).1;refine⟨left.eraseIdx i,?_,⟨hm6,s.erase hw K⟩,some (B5 e.1,gC e.2),by rw[I];exact AB⟩;rw[List.length_eraseIdx_of_lt hil];omega
 obtain⟨a6,f⟩:=f;have Hn:(BI (Gr d.revs r.id) d.revs.length).2=false:=by
  cases e:(BI (Gr d.revs r.id) d.revs.length).2 with
  | false=>rfl
  | true=>simp[CA,hv,e]at a3
 have l8:=Xm d.revs (hne a1) (by omega) r hv a2 (eT d r) (by have:=iF (Gr d.revs r.id) 0 d.revs.length (qg _);exact this.2) (Prod.ext rfl Hn);have O:da d rev r c S R=(R,0):=by simp only[da,a2,a3];simp only[a6];simp[a1,a4,a5]
 rw[O];refine BP 0 [(4,X),(5,.iptr [AA rev]),(6,C),(7,V),(8,.ptr (n+4) 0),(19,Ao (F7 d.revs (eT d r) r)),(12,AA 0)] G (λm=>n+5<=m) ?_ (λm f=>?_);rw[A,J];simp[go_sem,AF.flat,AK.flat];refine qw (by simpa[Ax.enc]using l8) ?_;simp[go_sem,IO,f];refine Bo 0 [(4,X),(5,.iptr [AA rev]),(6,C),(7,V),(8,.ptr (n+4) 0),(19,Ao (F7 d.revs (eT d r) r))] G (λm=>n+5<=m) (AH ?_) (λm f=>?_);simp[go_sem,IO,f];refine BP 0 [(4,X),(6,C),(8,.ptr (n+4) 0),(19,Ao (F7 d.revs (eT d r) r)),(20,.fn (.func 46) [] [V,.iptr [AA rev]])] G (λm=>n+5<=m) ?_ (λm f=>?_);simp[go_sem,IO,f];refine AH ?_;rw[A,Q,J];simp[go_sem,AF.flat,AK.flat];refine qC (by simpa[Av.enc,AI.enc,AF.flat,AK.flat]using cG G m) ?_;rintro v H' n' ⟨rfl,rfl,rfl⟩;simp[go_sem,g,C8,AI.enc,AF.flat,AK.flat,AC];exact Ay D (AJ (λj z e=>by have:=l j z e;omega) x) rfl (HT n R 0)
section
variable (u : AF → Bool) (w : Bool) (sc : Av)
end
theorem fP {h:AF} {x:Int} (a:x∉h.all):h.uses x=false:=by
 simp only[AF.uses,decide_eq_false_iff_not,fV];simp only[AF.all,qk,qe,qy,not_or,not_exists,not_and]at a;rintro(⟨_,h2⟩|⟨d,b,h2⟩|⟨d,b,h2⟩);exact a.1 h2.symm;exact a.2.1 d b h2;exact a.2.2 d b h2
theorem jQ:∀l:List AE,AE.usL l=l.flatMap AE.us
 | []=>by rw[AE.usL];rfl
 | x::l=>by rw[AE.usL,jQ l];rfl
theorem iQ:∀l:List Aa,Aa.usL l=l.flatMap Aa.us
 | []=>by rw[Aa.usL];rfl
 | x::l=>by rw[Aa.usL,iQ l];rfl
theorem iP:∀l:List Wl,Wl.usL l=l.flatMap Wl.us
 | []=>by rw[Wl.usL];rfl
 | x::l=>by rw[Wl.usL,iP l];rfl
def gR (rev nx:Int) (mid:Bool) (h:AF):AF:=if mid then Ji (λy=>y==rev) nx h else h
theorem du (rev nx:Int):Lw rev nx=gF (gR rev nx):=by funext s p;rfl
def Wx (N:Nat) (d:AI) (rev:Int) (sc:Av) (nx:Ax):AI:=(BR (Lw rev nx.id) sc N d (F7 d.revs (eT d nx) nx) ()).1
theorem Pa {r:Ax} (h:CL r=0):1<=r.id:=by
 unfold CL at h;split at h;cases h;omega
mutual
def AE.mh (g:AF->AF):AE->AE
 | .mk k c i t h f r=>.mk k c i t (g h) (AE.mhL g f) (Aa.mhL g r)
def AE.mhL (g:AF->AF):List AE->List AE
 | []=>[]
 | x::l=>AE.mh g x::AE.mhL g l
def Aa.mh (g:AF->AF):Aa->Aa
 | .mk h c=>.mk (g h) (Wl.mhL g c)
def Aa.mhL (g:AF->AF):List Aa->List Aa
 | []=>[]
 | x::l=>Aa.mh g x::Aa.mhL g l
def Wl.mh (g:AF->AF):Wl->Wl
 | .mk i h f=>.mk i (g h) (AE.mhL g f)
def Wl.mhL (g:AF->AF):List Wl->List Wl
 | []=>[]
 | x::l=>Wl.mh g x::Wl.mhL g l
end
section
variable (g : AF → AF)
theorem AE.mhL_eq:∀l:List AE,AE.mhL g l=l.map (AE.mh g)
 | []=>by rw[AE.mhL];rfl
 | x::l=>by rw[AE.mhL,AE.mhL_eq l];rfl
theorem Aa.mhL_eq:∀l:List Aa,Aa.mhL g l=l.map (Aa.mh g)
 | []=>by rw[Aa.mhL];rfl
 | x::l=>by rw[Aa.mhL,Aa.mhL_eq l];rfl
theorem Wl.mhL_eq:∀l:List Wl,Wl.mhL g l=l.map (Wl.mh g)
 | []=>by rw[Wl.mhL];rfl
 | x::l=>by rw[Wl.mhL,Wl.mhL_eq l];rfl
theorem AE.mh_eq (x:AE):AE.mh g x=.mk x.kind x.code x.id x.text (g x.head) (AE.mhL g x.flow) (x.rows.map (Aa.mh g)):=by cases x;rw[AE.mh,Aa.mhL_eq];rfl
theorem Aa.mh_eq (x:Aa):Aa.mh g x=.mk (g x.head) (x.cells.map (Wl.mh g)):=by cases x;rw[Aa.mh,Wl.mhL_eq];rfl
theorem Wl.mh_eq (x:Wl):Wl.mh g x=.mk x.id (g x.head) (AE.mhL g x.flow):=by cases x;rw[Wl.mh];rfl
end
theorem AE.nrm_eq (x:AE):AE.nrm x=.mk x.kind x.code x.id x.text x.head (Ac x.flow) ((x.rows.map Aa.nrm).filter λr=>!decide (r.cells.length=0)):=by cases x;rw[AE.nrm,Aa.nrmL_eq];rfl
theorem Aa.nrm_eq (x:Aa):Aa.nrm x=.mk x.head (x.cells.map Wl.nrm):=by cases x;rw[Aa.nrm,Uo];rfl
theorem Wl.nrm_eq (x:Wl):Wl.nrm x=.mk x.id x.head (Ac x.flow):=by cases x;rw[Wl.nrm];rfl
def wf (hp:AF->Prop) (T:Int->Prop):Nat->List AE->Prop
 | 0,_=>False
 | N+1,l=>∀x∈l,hp x.head/\(x.kind≠6->x.flow=[])/\(x.kind≠7->x.rows=[])/\(x.kind=7->x.rows≠[])/\(x.kind=6->T x.id)/\wf hp T N x.flow/\∀r∈x.rows,hp r.head/\r.cells≠[]/\∀c∈r.cells,T c.id/\hp c.head/\wf hp T N c.flow
structure lV (hp:AF->Prop) (T:Int->Prop) (N:Nat) (x:AE):Prop where
 head:hp x.head
 k6:x.kind≠6->x.flow=[]
 k7:x.kind≠7->x.rows=[]
 ne:x.kind=7->x.rows≠[]
 id:x.kind=6->T x.id
 flow:wf hp T N x.flow
 rows:∀r∈x.rows,hp r.head/\r.cells≠[]/\∀c∈r.cells,T c.id/\hp c.head/\wf hp T N c.flow
section
variable {hp hp' : AF → Prop} {T T' : Int → Prop}
theorem OG {N:Nat} {l:List AE}:wf hp T (N+1) l↔∀x∈l,lV hp T N x:=
 ⟨λH x h=>let⟨a,b,c,d,e,f,g⟩:=H x h;⟨a,b,c,d,e,f,g⟩,λH x h=>let⟨a,b,c,d,e,f,g⟩:=H x h;⟨a,b,c,d,e,f,g⟩⟩
theorem iS (j:∀x,hp x->hp' x) (ht:∀i,T i->T' i):∀{N:Nat} {l:List AE},wf hp T N l->wf hp' T' N l
 | 0,_,h=>h.elim
 | N+1,l,H=>OG.2 λx n=>by
  obtain⟨a,b,c,d,e,f,g⟩:=OG.1 H x n;exact⟨j _ a,b,c,d,λk=>ht _ (e k),iS j ht f,λr m=>⟨j _ (g r m).1,(g r m).2.1,λc hc=>⟨ht _ ((g r m).2.2 c hc).1,j _ ((g r m).2.2 c hc).2.1,iS j ht ((g r m).2.2 c hc).2.2⟩⟩⟩
theorem Pt {g:AF->AF} (i:∀x,hp x->hp' (g x)):∀{N:Nat} {l:List AE},wf hp T N l->wf hp' T N (AE.mhL g l)
 | 0,_,h=>h.elim
 | N+1,l,H=>OG.2 λy j=>by
  rw[AE.mhL_eq]at j;obtain⟨x,o,rfl⟩:=qy.1 j;obtain⟨a,b,c,d,e,f,q⟩:=OG.1 H x o;rw[AE.mh_eq];refine⟨i _ a,λk=>?_,λk=>?_,λk=>?_,e,Pt i f,λr n=>?_⟩;show AE.mhL g x.flow=[];rw[b k,AE.mhL];show x.rows.map _=[];rw[c k];rfl;show x.rows.map _≠[];simpa using d k;obtain⟨r0,h0,rfl⟩:=qy.1 n;obtain⟨u,v,w⟩:=q r0 h0;rw[Aa.mh_eq];refine⟨i _ u,by show r0.cells.map _≠[];simpa using v,λc hc=>?_⟩;obtain⟨c0,m,rfl⟩:=qy.1 hc;obtain⟨p,s,t⟩:=w c0 m;rw[Wl.mh_eq];exact⟨p,i _ s,Pt i t⟩
theorem QE {N:Nat} (x:AE) (t:ByteArray) (H:lV hp T N x):lV hp T N (.mk x.kind x.code x.id t x.head x.flow x.rows):=by
 obtain⟨a,b,c,d,e,f,g⟩:=H;exact⟨a,b,c,d,e,f,g⟩
theorem fF:∀{N:Nat} {l:List AE},wf hp T N l->wf hp T N (Ac l)
 | 0,_,h=>h.elim
 | N+1,l,H=>by
  rw[OG]at H ⊢;unfold Ac EM;rw[kM];refine Mq (p:=lV hp T N) QE _ _ (λy i=>by cases i) λy i=>?_;obtain⟨x,m,rfl⟩:=qy.1 i;obtain⟨a,b,c,d,e,f,q⟩:=H x m;have g:=eE λr g=>(q r g).2.1;rw[AE.nrm_eq,g];refine⟨a,λk=>?_,λk=>?_,λk=>?_,e,fF f,λr g=>?_⟩;show Ac x.flow=[];rw[b k];rfl;show x.rows.map _=[];rw[c k];rfl;show x.rows.map _≠[];simpa using d k;obtain⟨r0,h0,rfl⟩:=qy.1 g;obtain⟨u,v,w⟩:=q r0 h0;rw[Aa.nrm_eq];refine⟨u,by show r0.cells.map _≠[];simpa using v,λc hc=>?_⟩;obtain⟨c0,j,rfl⟩:=qy.1 hc;obtain⟨n,o,s⟩:=w c0 j;rw[Wl.nrm_eq];exact⟨n,o,fF s⟩
theorem W5 (N:Nat):wf hp T (N+1) []:=λx a=>by cases a
theorem fE {N:Nat} {l:List AE} (cu:Int) (H:wf hp T (N+1) l):wf hp T (N+1) (Bj l cu).1/\wf hp T (N+1) (Bj l cu).2:=by
 rw[OG]at H;rw[OG,OG];exact LN (p:=lV hp T N) QE l cu H _ (qa _)
theorem eU {N:Nat} {l:List AE} (a b:Int) (H:wf hp T (N+1) l):wf hp T (N+1) (Ad l a b).1:=by
 unfold Ad;split;exact fF (fE a (fE b H).1).2;exact W5 _
theorem UK {m2:List Int} {K:Nat}:∀{N:Nat} {l:List AE},RJ m2 N l->Da hp K N l->(∀i∈F6 N l,T i)->wf (λh=>hp h/\C6 m2 h) T N l
 | 0,_,_,h,_=>h.elim
 | N + 1, l, hk, hl, hT => OG.2 fun x hx => by
  obtain⟨⟨f6,f7,_⟩,m,j,e,d⟩:=hk x hx;obtain⟨n,g,_,f⟩:=hl.2.2 x hx;have hI:∀i∈Fe N x,T i:=λi hi=>hT i (by rw[G0];exact jo.2 ⟨x,hx,hi⟩);have nil:wf (λh=>hp h/\C6 m2 h) T N []:=by
   cases N with
   | zero=>exact g.elim
   | succ N=>exact W5 N
  refine⟨⟨n,m⟩,f6,f7,e,λk=>hI _ (by simp[Fe,k]),?_,λr a=>?_⟩;by_cases k6:x.kind=6;exact UK j g λi hi=>hI i (by simp[Fe,k6,hi]);rw[f6 k6];exact nil;by_cases k7:x.kind=7;refine⟨⟨(f r a).1,(d r a).1.1⟩,(d r a).1.2,λc hc=>?_⟩;have b:∀i,i=c.id\/i∈F6 N c.flow->T i:=λi hi=>hI i (by
   simp only[Fe,k7,show ¬(7:Int)=6 by decide,if_false,if_true];refine qL _ (jo.2 ⟨r,a,jo.2 ⟨c,hc,qk.2 hi⟩⟩))
  exact⟨b _ (.inl rfl),⟨((f r a).2.2 c hc).1,((d r a).2 c hc).1⟩,UK ((d r a).2 c hc).2 ((f r a).2.2 c hc).2 λi hi=>b i (.inr hi)⟩;rw[f7 k7]at a;cases a
end
section
variable {hp : AF → Prop} {T : Int → Prop} (g : Bool → AF → AF)
theorem gf (it:Int->List AE->Bool->Unit->List AE×Unit) (mid:Bool) {N:Nat} {l:List AE} (H:wf hp T (N+1) l) (h:∀id f,T id->wf hp T N f->(it id f mid ()).1=AE.mhL (g mid) f):l.map (eF g it mid)=AE.mhL (g mid) l:=by
 rw[AE.mhL_eq];refine jT λx m=>?_;obtain⟨a,b,c,d,e,f,q⟩:=OG.1 H x m;have i:(if x.kind=6 then(it x.id x.flow mid ()).1 else x.flow)=AE.mhL (g mid) x.flow:=by
  split;rename_i k;exact h _ _ (e k) f;rename_i k;rw[b k,AE.mhL]
 have h2:(if x.kind=7 then x.rows.map (fO g it mid)else x.rows)=x.rows.map (Aa.mh (g mid)):=by
  split;refine jT λr j=>?_;rw[Aa.mh_eq];unfold fO;congr 1;refine jT λc hc=>?_;obtain⟨n,_,o⟩:=(q r j).2.2 c hc;rw[Wl.mh_eq];unfold gr;rw[h _ _ n o];rename_i k;rw[c k];rfl
 rw[AE.mh_eq];unfold eF AE.put;rw[i,h2]
theorem im (sc:Av) (a:∀i,T i->i≠sc.id):∀(N:Nat) (id:Int) (l:List AE) (mid:Bool),wf hp T N l->(mid=true\/id≠sc.id)->(Al (gF g) sc N id l mid ()).1=AE.mhL (g mid) l
 | 0,_,_,_,h,_=>h.elim
 | N+1,id,l,mid,H,hid=>by
  have c:¬EX sc id l mid=true:=by rcases hid with rfl|h<;>simp[EX, *]
  rw[Al,if_neg c,dU];exact gf g _ mid H λid f ht b=>im sc a N id f mid b (.inr (a _ ht))
end
theorem Nf {F:Nat->Int}:∀{n:Nat},(∀i,i<n->F i=0)->FK F n=0
 | 0,_=>rfl
 | n+1,h=>by rw[FK,if_pos (Nf λi hi=>h i (by omega))];exact h n (by omega)
theorem Un {F:Nat->Int} {i:Nat} (h:G1 F i=0):1<=F i/\F i<=1073741824/\(0<i->F (i-1)<F i):=by
 unfold G1 at h;by_cases c1:1<=F i/\F i<=1073741824;refine⟨c1.1,c1.2,λhi=>?_⟩;rw[if_neg (by simpa using c1)]at h;by_cases a:F i=F (i-1);rw[if_pos ⟨hi,a⟩]at h;cases h;rw[if_neg λg=>a g.2]at h;by_cases b:F i<F (i-1);rw[if_pos ⟨hi,b⟩]at h;cases h;omega;rw[if_pos c1]at h;cases h
theorem QZ {l:List Ax} (h:EY l=0):Cd l=0:=by
 have hlen:=Ka h;have h2:FK (I9 l) (min l.length 256)=0:=by
  have e:=h;unfold EY at e;have hl:¬(256:Int)<l.length:=by omega
  simp[CJ,hl]at e;exact Classical.byContradiction λg=>g (e g)
 rw[Cd,if_neg (by omega)];refine Nf λi hi=>?_;have a:=Jv h2 i (by omega);unfold I9 at a;unfold E6;rw[qf hi]at a ⊢;dsimp only at a ⊢;have m:=Dc a;rw[CJ,if_pos m]at a;have d:=Dc a;rw[CJ,if_pos d]at a;have o:=Dc a;obtain⟨j,k,b⟩:=Un m
 try dsimp only at j k b
 rw[qf hi]at j k b
 try dsimp only at j k b
 have n:EN l[i].author=true:=by
  cases p:EN l[i].author with
  | true=>rfl
  | false=>rw[p]at d;simp at d
 have ht:0<=l[i].time/\l[i].time<=1099511627776:=by
  by_cases c:0<=l[i].time/\l[i].time<=1099511627776;exact c;simp[c]at o
 simp only[EN,qq,decide_eq_true_eq]at n;have q:CL l[i]=0:=by
  unfold CL;rw[if_neg (by omega),if_neg (by omega),if_neg (by omega),if_neg (by rw[n.2];decide),if_neg (by omega)]
 rw[if_pos q];by_cases c:i=0;rw[if_pos c]
 . rw[if_neg c];have f:i-1<l.length:=by omega
   have b:=b (by omega);rw[qf f]at b ⊢
   try dsimp only at b ⊢
   unfold Do;rw[if_neg (by omega),if_pos b];simp;omega
theorem iI {m2:List Int} {B:Nat}:∀{N:Nat} {l:List AE},Da AF.sized B N l->MP N l->RJ m2 N l->ZT (J5 m2) 150 150000 N l
 | 0,_,h,_,_=>h.elim
 | N+1,l,hl,hf,hk=>by
  obtain⟨_,_,k⟩:=dS.1 hl;obtain⟨f1,f2⟩:=hf;refine J8.2 ⟨f1,?_,λx a=>?_⟩;have:=NV l λx a=>(f2 x a).1.1;omega;obtain⟨a1,a2,a3,a4⟩:=k x a;obtain⟨⟨b1,b2⟩,e,f⟩:=f2 x a;obtain⟨c1,g,i,_,j⟩:=hk x a;refine⟨⟨a1,g.toRB⟩,iI a2 e i,by omega,λr b=>?_⟩;obtain⟨m,u2,d⟩:=a4 r b;obtain⟨v1,n⟩:=f r b;obtain⟨w1,w2⟩:=j r b;exact⟨⟨m,w1.1.toRB⟩,by omega,λc hc=>⟨⟨(d c hc).1,(w2 c hc).1.toRB⟩,iI (d c hc).2 (n c hc) (w2 c hc).2⟩⟩
theorem Ow (l:List Ax) (i:Nat) (r:Ax):(F7 l i r).length<=l.length+1:=by unfold F7;simp;omega
theorem c7 {B N:Nat} (_hB:B<=1048576) {d:AI} (hl:Da AF.sized B N d.flow) (u:d.«end».sized) (m:d.settings.sized) (f:Hk N d) (r:MP N d.flow) (rev:Int) (sc:Av) (nx:Ax):
 (∃S,PC 15 [d.enc,AA rev,sc.enc,nx.enc] (.tup [(da d rev nx (E9 N d rev sc) S (Wx N d rev sc nx).normal).1.enc,AA (da d rev nx (E9 N d rev sc) S (Wx N d rev sc nx).normal).2]))/\
   ZT (J5 (nx.id::Bd [] (d.revs.map (·.id)))) (3*150) (2*150000) N (Wx N d rev sc nx).flow/\(Wx N d rev sc nx).«end» = d.«end»:=by
 obtain⟨m2,a⟩:∃m2,m2=Bd [] (d.revs.map (·.id)):=⟨_,rfl⟩
 rw[<-a];have hrl:=Ka f.revs;have hm:m2.length<=999:=by
  have:=OV (d.revs.map (·.id)) [];rw[a];simp at this;omega
 have b:Da (J5 m2) 150000 N d.flow:=Np hl r (a▸f.flow);have j:ZT (J5 m2) 150 150000 N d.flow:=iI hl r (a▸f.flow);have h2:J5 m2 d.«end»:=⟨u,a▸f.end.toRB⟩
 have i:=b.sized (λx g=>g.1) (by omega);have l:dX N d.flow:=eM (a▸f.flow) b;have w1:=JP (W:=(BR (CH (HQ rev)) sc N d d.revs (0,0)).1) (by omega) (by omega) (HW (λs p g=>g) N 0 d.flow false (0,0) b).1 h2 (by show d.revs.length<=_;omega) m;have lZ:=ll (J5 m2) 150000 (by omega) (λh g=>⟨⟨g.1,ij g⟩,g.1⟩) N d rev sc b h2 (by omega) (λfl e=>by
  have o:=LU i.1 i.2 fl (List.mem_of_find?_eq_some e);exact⟨o.1,kQ o.2⟩) w1.1 w1.2.1 w1.2.2
 have w2:=JP (W:=(BR (CH lj) sc N d d.revs []).1) (by omega) (by omega) (HW (λs p g=>g) N 0 d.flow false [] b).1 h2 (by show d.revs.length<=_;omega) m;have t:ZT (J5 (nx.id::m2)) (3*150) (2*150000) N (Wx N d rev sc nx).flow:=by
  unfold Wx BR;rw[du];refine fT (gR rev nx.id) sc (λh mid g=>?_) (λh g=>O0 g) N 0 d.flow false l j;cases mid;exact O0 g;exact KU g
 have q:(Wx N d rev sc nx).«end» = d.«end»:=by unfold Wx BR;rw[du];rfl
 have w:(Wx N d rev sc nx).revs.length<=1048576:=by
  have:=Ow d.revs (eT d nx) nx;show(F7 d.revs (eT d nx) nx).length<=_;omega
 have w3:=JP (W:=Wx N d rev sc nx) (m2:=nx.id::m2) (K:=300000) (by simp;omega) (by omega) (gZ (by omega) (by omega) t) (by rw[q];exact O0 h2) w m;refine⟨⟨(BR (CH lj) sc N d d.revs []).2,lm d rev sc nx (E9 N d rev sc) _ _ lZ (by omega) (λk H n hn v=>lv (mJ k) (J5 m2) 150000 (by omega) (λh g=>⟨g.1,g.1⟩) N d [] b h2 w2.1 w2.2.1 w2.2.2 hn v) (QZ f.revs) (λe c=>?_) (λH n=>?_)⟩,t,q⟩;have:(CA d.revs rev).2=false:=by rw[c];rfl
 unfold E9 at e;split at e;cases e;split at e;cases e
 first|cases e|(rw[if_pos this]at e;cases e)
 have:=lx (sc:=sc) (dI 0 nx rev) (J5 m2) 150000 (by omega) (λh g=>⟨⟨g.1,by have:=g.2.dlen;omega⟩,g.1⟩) N d (F7 d.revs (eT d nx) nx) () b h2 w3.1 w3.2.1 w3.2.2 (H:=H) (n:=n) (qg _) (by rintro o y ⟨⟩);rw[ZX]at this;exact this
def di (a:Int) (y:Int):Bool:=y==a
theorem c67:PC 67 [] AX.enc:=by
 intro h n;refine gq Tryz.func67 rfl λa=>?_;simp[go_sem,AC];exact Ay a (by repeat(first|exact AB|refine AQ a (by omega) ?_)) rfl rfl
theorem bH:PC 69 [] AX.enc:=by
 intro h n;refine gq Tryz.func69 rfl λa=>?_;simp[go_sem,AC];exact Ay a (by repeat(first|exact AB|refine AQ a (by omega) ?_)) rfl rfl
def IB (l:List Ax) (ids:List Int):List Ax:=l.filter λr=>!decide (r.id∈ids)
theorem Vw {H:Hp} {n m k p:Nat} {es:List SV} {x:Ax} {o:Option Nat} (b:Ar n m 3 o es) (hl:es.length<=1073741823) (a:H k=some (.cells [AA x.id,.str x.author,AA x.time])) (h2:∀j,o=some j->H j=some (.cells (es.flatMap SV.cells))):
 AU Tryz.prog H p .append [30,30] [AM 3 o es,.sl k 0 3 1 true]=some { val:=.sl p 0 3 (es.length+1) false,upd:=o.map λj=>(j,none),new:=some (.cells (es.flatMap SV.cells++[AA x.id,.str x.author,AA x.time])) }:=by
 have:=Dp (P:=Tryz.prog) (H:=H) (t:=30) (t2:=30) (el:=42) (z:=3) (by simp[go_sem]) (by simp[go_sem]) (by simp[go_sem]) (by simp) (by simp[go_sem]) (by simp[go_sem]) (by simp[go_sem]) (by omega) b (e:=x.enc) rfl a h2 p;exact this
set_option maxHeartbeats 2000000 in
theorem c64 (l:List Ax) (hl:l.length<=1048576) (ids:List Int) (hi:ids.length<=1048576):PC 64 [Ao l,.imm 1 (ids.map AA) false] (Ao (IB l ids)):=by
 intro h n;refine Db Tryz.func64 rfl λL=>?_;have d:=L.lt;obtain⟨I,hI⟩:∃I:SV,I=.imm 1 (ids.map AA) false:=⟨_,rfl⟩
 refine AY 0 [(0,Ao l),(1,I)] h n ?_ (λm f=>?_);simp[go_sem,hI,IO];refine AY 0 [(0,Ao l),(1,I),(5,.imm 0 [] true)] h n ?_ (λm f=>?_);simp[go_sem,IO,f];obtain⟨M,u⟩:∃M:Nat->List SV,∀i,M i=(IB (l.take i) ids).map Ax.enc:=⟨_,λ_=>rfl⟩
 have w:M 0=[]:=by rw[u];rfl
 have G:∀i r,(hi:i<l.length)->l[i]=r->M (i+1)=M i++if r.id∈ids then[]else[r.enc]:=λi r hi e=>by
  rw[u,u,qb hi,e,IB,qI,qc];by_cases c:r.id∈ids<;>simp[c,IB]
 have D:M l.length=(IB l ids).map Ax.enc:=by rw[u,qi]
 have F:∀i,(M i).length<=i:=λi=>by
  rw[u,qd];exact qr (qU _ _) (List.length_take_le i l)
 refine AT 0 (α:=Option Nat) (λo=>[(5,AM 3 o (M l.length))]) (λo=>AN o (M l.length) h) (λo m=>n<=m/\Ar n m 3 o (M l.length)) ?_ (λo m f=>?_);refine AY 0 [(1,I),(5,AM 3 none (M 0)),(8,Ao l),(9,AA l.length),(10,AA 0)] (AN none (M 0) h) m ?_ (λm2 a=>?_);rw[w];simp[go_sem,IO,AM,AN];refine AR (BG 0 (α:=Nat×Option Nat) (λq=>[(1,I),(5,AM 3 q.2 (M q.1)),(8,Ao l),(9,AA l.length),(10,AA q.1)]) (λq=>AN q.2 (M q.1) h)
  (λq m=>q.1<=l.length/\n<=m/\Ar n m 3 q.2 (M q.1)) (λq=>l.length-q.1) (0,none) ⟨qg _,by omega,by rw[w];exact jK _ _ _⟩ ?_ AB ?_)
 simp[go_sem,Ai,IO];clear f a m2 m;rintro⟨i,o⟩ m ⟨J,A,b⟩;dsimp only at J b ⊢;have C:=F i;by_cases s:i<l.length;have w1:=wS i (by omega);obtain⟨r,N⟩:∃r,l[i]=r:=⟨_,rfl⟩
 have B:=G i r s N;generalize hE:M i=E at b C B;have g:∀j y,AN o E h j=some y->j<m:=Dm d A b;refine Bp 0 [(1,I),(5,AM 3 o E),(8,Ao l),(9,AA l.length),(10,AA i),(11,.bool true)] (AN o E h) m ?_ (λm2 a=>?_);simp[go_sem,IO,s];subst a;refine Bp 0 [(1,I),(5,AM 3 o E),(8,Ao l),(9,AA l.length),(10,AA i)] (AN o E h) m ?_ (λm2 a=>?_);simp[go_sem,IO];subst a;refine AT 0 (α:=Option Nat) (λo=>[(1,I),(5,AM 3 o (M (i+1))),(8,Ao l),(9,AA l.length),(10,AA i)]) (λo=>AN o (M (i+1)) h) (λo m=>n<=m/\Ar n m 3 o (M (i+1))) (AR ?_) (λo m f=>?_);refine AY 1 [(1,I),(5,AM 3 o E),(8,Ao l),(9,AA l.length),(10,AA i),(7,.iptr [AA r.id,.str r.author,AA r.time])] (AN o E h) m ?_ (λm2 a=>?_);simp[go_sem,IO,s,N,Ax.enc,AC];exact⟨AV (AW g (qa _)) (AC _ _ _),AJ g (AJ g AB)⟩;rw[B,hI];refine AH ?_;simp[go_sem];refine(Vz ids r.id hi).use ?_;by_cases c:r.id∈ids;simp[go_sem,c,IO];exact⟨o,⟨by omega,b.mono a⟩,rfl,AB⟩;simp[go_sem,c];rw[Vw (x:=r) b (by omega) (by simp[AC]) (by
  intro j e;have:=(b.lt j e).2;rw[AD _ _ (by omega)];exact Cu j e)]
 have t:=b.push (j:=m2+1) (m':=m2+1+1) (e:=r.enc) rfl rfl (by omega) (by omega);have k:=CY (p:=m2+1) (v:=.sl (m2+1) 0 3 (E.length+1) false) (e:=r.enc) d (by omega) b (H:=hset (AN o E h) m2 (some (.cells [AA r.id,.str r.author,AA r.time]))) (AJ (λj z e=>by have:=d j z e;omega) (Be d b));have K:AM 3 (some (m2+1)) (E++[r.enc])=.sl (m2+1) 0 3 (E.length+1) false:=by simp[AM]
 simp[go_sem];exact⟨some (m2+1),⟨by omega,t⟩,K.symm,by simpa[dW.app,SV.cells,Ax.enc]using k⟩;refine AH ?_;simp[go_sem,w1,IO,-Int.natCast_add];exact⟨i+1,by omega,o,⟨by omega,f.1,f.2⟩,⟨IO,IO⟩,AB⟩;have:i=l.length:=by omega
 subst this;refine AH ?_;simp[go_sem];exact⟨o,⟨A,b⟩,rfl,AB⟩;refine AH ?_;simp[go_sem];rw[D]at f ⊢;exact GR L f.2 (λe O=>by obtain⟨p,_,rfl⟩:=qy.1 O;simp[Ax.enc,closed,closedL])
def Px (l:List Ax):Prop:=l.length<=256/\(∀r∈l,CL r=0)/\l.Pairwise λa b=>a.id<b.id
theorem Wu {l:List Ax} (h:Cd l=0):Px l:=by
 have hl:¬256<l.length:=λg=>by rw[Cd,if_pos g]at h;cases h
 refine⟨by omega,λr c=>?_,?_⟩;rw[Cd,if_neg hl]at h;obtain⟨i,hi,rfl⟩:=ky.1 c;have:=Jv h i hi;unfold E6 at this;rw[qf hi]at this;dsimp only at this;by_cases e:CL l[i]=0;exact e;rw[if_neg e]at this;exact this;exact jC.2 λi j hi b a=>II h i j a b
theorem SX {l:List Ax} (h:Px l):Cd l=0:=by
 obtain⟨h1,h2,b⟩:=h;rw[Cd,if_neg (by omega)];refine Nf λi hi=>?_;unfold E6;rw[qf hi];dsimp only;rw[if_pos (h2 _ (ql hi))];by_cases c:i=0;rw[if_pos c];rw[if_neg c];have a:i-1<l.length:=by omega
 rw[qf a];dsimp only;have:=jC.1 b (i-1) i a hi (by omega);unfold Do;rw[if_neg (by omega),if_pos this];simp;omega
theorem U_ {l:List Ax} (h:Px l) {r s:Ax} (b:r∈l) (d:s∈l) (e:r.id=s.id):r=s:=by
 obtain⟨i,hi,rfl⟩:=ky.1 b;obtain⟨j,a,rfl⟩:=ky.1 d;rcases Nat.lt_trichotomy i j with c|c|c;have:=jC.1 h.2.2 i j hi a c;omega;subst c;rfl;have:=jC.1 h.2.2 j i a hi c;omega
theorem Qj {l:List Ax} (h:Px l) (p:Ax->Bool):Px (l.filter p):=
 ⟨qr (qU _ _) h.1,λr a=>h.2.1 r (qW.1 a).1,h.2.2.sublist List.filter_sublist⟩
theorem RC:∀{a b:List Ax},a.Pairwise (λa b=>a.id<b.id)->b.Pairwise (λa b=>a.id<b.id)->(∀y,y∈a↔y∈b)->a=b
 | [],[],_,_,_=>rfl
 | [],y::_,_,_,h=>absurd ((h y).2 (by simp)) (by simp)
 | x::_,[],_,_,h=>absurd ((h x).1 (by simp)) (by simp)
 | x :: a, y :: b, ha, hb, h => by
  obtain⟨a1,a2⟩:=qR.1 ha;obtain⟨b1,d⟩:=qR.1 hb;have e:x=y:=by
   rcases qk.1 ((h x).1 (by simp))with e|e;exact e;rcases qk.1 ((h y).2 (by simp))with g|g;exact g.symm;have:=b1 x e;have:=a1 y g;omega
  subst e;rw[RC a2 d λz=>?_];constructor;intro c;rcases qk.1 ((h z).1 (by simp[c]))with e|e;subst e;have:=a1 z c;omega;exact e;intro c;rcases qk.1 ((h z).2 (by simp[c]))with e|e;subst e;have:=b1 z c;omega;exact e
theorem V_ {l:List Ax} (h:Px l) {r:Ax} (e:r∈l):CA l r.id=(r,true):=by
 have h0:=SX h;have c:=Lx ⟨r,e,rfl⟩;unfold CA at c ⊢;rw[if_pos h0]at c ⊢;split at c;rename_i h2;rw[if_pos h2];have a:=LF _ _ h2;obtain⟨k,d⟩:∃k,k=(BI (Gr l r.id) l.length).1:=⟨_,rfl⟩
 rw[<-d]at a ⊢;rw[qf a];have b:Gr l r.id k=0:=by
  simp only[BI,decide_eq_true_eq]at h2 d;rw[<-d]at h2;exact h2.2
 unfold Gr Do at b;rw[qf a]at b;dsimp only at b;have:l[k].id=r.id:=by
  split at b;omega;split at b;omega;omega
 rw[U_ h (ql a) e this];rfl;simp at c
theorem ic {l:List Ax} (h:Px l) {id:Int} (e:(CA l id).2=true):(CA l id).1∈l/\(CA l id).1.id=id:=by
 obtain⟨r,a,rfl⟩:=NM e;rw[V_ h a];exact⟨a,rfl⟩
theorem Oh {l:List Ax} {id:Int} (e:(CA l id).2=false):∀r∈l,r.id≠id:=λr a h=>by
 rw[Lx ⟨r,a,h⟩]at e;cases e
theorem S8:∀{l:List Ax},l.Pairwise (λa b=>a.id<b.id)->∀x:Int,∃k,k<=l.length/\(∀r∈l.take k,r.id<x)/\∀r∈l.drop k,x<=r.id
 | [],_,_=>⟨0,qa _,by simp,by simp⟩
 | a::l,h,x=>by
  obtain⟨e,h2⟩:=qR.1 h;by_cases c:a.id<x;obtain⟨k,k1,f,g⟩:=S8 h2 x;refine⟨k+1,by simp;omega,λr d=>?_,λr d=>g r (by simpa using d)⟩;rw[jl]at d;rcases qk.1 d with rfl|d;exact c;exact f r d;refine⟨0,qg _,by simp,λr d=>?_⟩;rw[kn]at d;rcases qk.1 d with rfl|d;omega;have:=e r d;omega
def Ly (l:List Ax) (r:Ax):Nat:=(BI (Gr l r.id) l.length).1
theorem PJ {l:List Ax} {k:Nat} {r x:Ax}:x∈F7 l k r↔x=r\/x∈l:=by
 unfold F7
 conv=>rhs;rw[<-ja k l]
 simp only[qe,qk];exact⟨λh=>h.elim (λh=>.inr (.inl h)) λh=>h.elim .inl λh=>.inr (.inr h),λh=>h.elim (λh=>.inr (.inl h)) λh=>h.elim .inl λh=>.inr (.inr h)⟩
theorem RD {l:List Ax} (h:Px l) {r:Ax} (hn:∀x∈l,x.id≠r.id):BI (Gr l r.id) l.length=(Ly l r,false)/\Ly l r<=l.length/\(l.length<256->CL r=0->Px (F7 l (Ly l r) r)):=by
 obtain⟨k,f,g,i⟩:=S8 h.2.2 r.id;have hc:∀m,(b:m<l.length)->Gr l r.id m=Do l[m].id r.id:=λm b=>by unfold Gr;rw[qf b]
 have c1:∀m,m<k->Gr l r.id m<0:=λm b=>by
  have:=g (l[m]'(by omega)) (ky.2 ⟨m,by rw[jr];omega,by rw[List.getElem_take]⟩);rw[hc m (by omega)];unfold Do;rw[if_pos this];omega
 have j:∀m,k<=m->m<l.length->¬Gr l r.id m<0:=λm h1 b=>by
  have:=i l[m] (ky.2 ⟨m-k,by rw[List.length_drop];omega,by rw[List.getElem_drop];congr 1;omega⟩);rw[hc m b];unfold Do;rw[if_neg (by omega)];split<;>omega
 have e:Fd (Gr l r.id) 0 l.length=k:=K0 c1 j l.length 0 l.length (by omega) (qg _) f (qa _);have n:Ly l r=k:=e;rw[n];refine⟨?_,f,λhl o=>⟨?_,λx a=>?_,?_⟩⟩;unfold BI;rw[e];have:¬(k<l.length/\Gr l r.id k=0):=λ⟨u,v⟩=>by
  rw[hc k u]at v;have:=hn l[k] (ql u);unfold Do at v;split at v;omega;split at v;omega;omega
 rw[decide_eq_false this];rw[O7 _ _ _ f];omega;rcases PJ.1 a with rfl|a;exact o;exact h.2.1 x a;unfold F7;have c:=h.2.2;rw[<-ja k l,List.pairwise_append]at c;refine List.pairwise_append.2 ⟨c.1,qR.2 ⟨λx a=>?_,c.2.1⟩,λx a y d=>?_⟩;have:=i x a;have:=hn x (qT a);omega;rcases qk.1 d with rfl|d;exact g x a;exact c.2.2 x a y d
theorem PK {l:List Ax} {ids:List Int} {x:Ax}:x∈IB l ids↔x∈l/\x.id∉ids:=by
 unfold IB;rw[qW];simp
theorem U6 {l:List Ax} {ids:List Int} {r:Ax} (a:r∈l) (h:r.id∈ids):(IB l ids).length<l.length:=by
 unfold IB;rcases ji (l.filter λr=>!decide (r.id∈ids)).length l.length with g|g;exact g;have:=List.filter_sublist (p:=λr:Ax=>!decide (r.id∈ids)) (l:=l);have e:=this.eq_of_length_le g;rw[<-e]at a;have:=(qW.1 a).2;simp[h]at this
theorem WY {d:AI} {x:Int}:x∈IS d↔x≠0/\x∈AE.usL d.flow++d.«end».all:=by
 unfold IS DI;rw[List.mem_mergeSort,qW,LA];simp[and_comm]
theorem Sq {U:List Int} {x:Int} (h:(BI (Nw U x) U.length).2=true):x∈U:=by
 have a:=LF _ _ h;simp only[BI,decide_eq_true_eq]at h a;obtain⟨k,b⟩:∃k,k=Fd (Nw U x) 0 U.length:=⟨_,rfl⟩
 rw[<-b]at h a;have:=h.2;unfold Nw at this;rw[qf a]at this;dsimp only at this;split at this;omega;split at this;rename_i e;rw[<-e];exact ql a;omega
theorem fL {D:AI} {r:Ax} (h0:r.id≠0):r∈D.normal.revs↔r∈D.revs/\r.id∈AE.usL (Ac D.flow)++D.«end».all:=by
 show r∈D.revs.filter _↔_;rw[qW];constructor;rintro⟨a,h2⟩;exact⟨a,(WY.1 (Sq h2)).2⟩;rintro⟨a,h2⟩;exact⟨a,gB h0 h2⟩
theorem bz (h:Hp) (n:Nat):BA Tryz.prog 76 [.imm 3 [] false] h n (λv h' n'=>(∃z,v=.imm z [] true)/\h'=h/\n'=n):=by
 refine gq Tryz.func76 rfl λho=>?_;simp[go_sem];refine CU rfl (by kernel_rfl) rfl (λe=>?_) ?_;simp[go_sem];exact .inl ⟨⟨_,rfl⟩,rfl,rfl⟩;simp[go_sem];refine DF (z:=3) rfl rfl (by kernel_rfl) ?_;simp[go_sem];exact .inl ⟨⟨_,rfl⟩,rfl,rfl⟩
theorem TD (z:Nat) (r:Ax) {H:Hp} {n k:Nat} (i:H k=some (.cells [AA r.id,.str r.author,AA r.time])):
 BA Tryz.prog 117 [.imm z [] true,AA 0,.sl k 0 3 1 true] H n (λv h' n'=>v=Ao [r]/\h'=H/\n'=n):=by
 refine Db Tryz.func117 rfl λd=>?_;have b:=d.lt;have a:flat H (.sl k 0 3 1 true)=some [AA r.id,.str r.author,AA r.time]:=by simp[flat,i,Bg]
 have ht:A9 Tryz.prog 30=some 42:=by simp[go_sem]
 have c:∀z,AU Tryz.prog H n .append [30,30] [.imm z [] true,.sl k 0 3 1 true]=some { val:=.sl n 0 3 1 false,new:=some (.cells [AA r.id,.str r.author,AA r.time]) }:=λz=>by
  have l:Bh Tryz.prog 42=3:=by simp[go_sem]
  have g:(BH Tryz.prog 42).storable=true:=by simp[go_sem]
  have h:(BH Tryz.prog 42).cells.length=3:=by simp[go_sem]
  have hb:BY Tryz.prog 42<=65536:=by simp[go_sem]
  have f:dY 1 (BY Tryz.prog 42)=true:=by simp[dY,hb]
  simp[AU,ht,Cm,l,g,h,Dw,a,Hd,f,Gq]
 have fin:∀n',B8 n (hset H n (some (.cells [AA r.id,.str r.author,AA r.time]))) n' (.sl n 0 3 1 false) (λv h' n'=>v=Ao [r]/\h'=H/\n'=n):=λn'=>
  .inr ⟨1,Ao [r],H,DV (k:=0) (z:=3) (es:=[r].map Ax.enc) (full:=false) (full':=false) (o:=n) (d.none (qa n)) (by simp) (by rw[AC];simp[Ax.enc,SV.cells]) (Ax.E.size _),Ax.E.imm _ _ _ _,λj y e=>⟨AJ b AB j y e,d j y e⟩,rfl,rfl,rfl⟩
 refine AH ?_;simp[go_sem];rw[c];simp[go_sem];exact fin _
set_option maxHeartbeats 2000000 in
theorem bG (r:Ax) (l:CL r=0):PC 45 [Ao [],r.enc] (.tup [Ao [r],AA 0]):=by
 intro h n;refine Db Tryz.func45 rfl λi=>?_;have b:=i.lt;refine AY 1 [(0,Ao []),(3,.iptr [AA r.id,.str r.author,AA r.time])] h n ?_ (λm a=>?_);simp[go_sem,Ax.enc,IO];exact⟨AV (AW b (qa _)) (AC _ _ _),AJ b AB⟩;refine Bc 0 [(0,Ao []),(3,.iptr [AA r.id,.str r.author,AA r.time])] h n (AH ?_) (λm a=>?_);have c:=bI [] (by simp);rw[show Cd []=0 from rfl]at c;simp[go_sem];refine qw c ?_;simp[go_sem,IO,a];refine Bc 0 [(0,Ao []),(3,.iptr [AA r.id,.str r.author,AA r.time])] h n (AH ?_) (λm a=>?_);simp[go_sem];refine qw (by simpa[Ax.enc]using W9 r) ?_;rw[l];simp[go_sem,IO,a];refine AY 0 [(0,Ao []),(3,.iptr [AA r.id,.str r.author,AA r.time]),(8,AA 0),(9,.bool false)] h n ?_ (λm a=>?_);have c:=bJ [] (by simp) r.id;rw[show BI (Gr [] r.id) [].length=(0,false)by unfold BI;rw[Fd];simp]at c;simp[go_sem];refine qw c ?_;simp[go_sem,IO,a];refine Bc 0 [(0,Ao []),(3,.iptr [AA r.id,.str r.author,AA r.time]),(8,AA 0)] h n (AH ?_) (λm a=>?_);simp[go_sem,IO,a];refine AT 0 (α:=Unit) (λ_=>[(4,Ao [r]),(5,AA 0)]) (λ_=>h) (λ_ m=>n<=m) (BX VD rfl (by kernel_rfl) (by kernel_rfl) ?_) (λ_ m a=>?_);have d:∀j y,h j=some y->j<m:=λj y e=>by have:=b j y e;omega
 simp[go_sem,VD];refine⟨?_,?_,?_⟩;refine qC (bz _ _) ?_;rintro v f n' ⟨⟨z,rfl⟩,rfl,rfl⟩;simp[go_sem];refine qC (TD z r (AC _ _ _)) ?_;rintro v g k ⟨rfl,rfl,rfl⟩;simp[go_sem,IO];exact⟨by omega,AJ d AB⟩;refine qC (bz _ _) ?_;rintro v f n' ⟨⟨z,rfl⟩,rfl,rfl⟩;simp[go_sem];refine qC (TD z r (AC _ _ _)) ?_;rintro v g k ⟨rfl,rfl,rfl⟩;simp[go_sem,IO];exact⟨by omega,AJ d AB⟩;refine qC (bz _ _) ?_;rintro v f n' ⟨⟨z,rfl⟩,rfl,rfl⟩;simp[go_sem];refine qC (TD z r (AC _ _ _)) ?_;rintro v g k ⟨rfl,rfl,rfl⟩;simp[go_sem,IO];exact⟨by omega,AJ d AB⟩;refine AH ?_;simp[go_sem];exact Ay i AB rfl (by rw[closed,closedL,closedL,Ax.E.imm _ _ [r]];rfl)
theorem Xl {l:List Ax} (h:Px l) (hl:l.length<256) {r:Ax} (b:CL r=0) (hn:∀x∈l,x.id≠r.id):PC 45 [Ao l,r.enc] (.tup [Ao (F7 l (Ly l r) r),AA 0]):=by
 cases l with
 | nil=>
  have:F7 [] (Ly [] r) r=[r]:=by simp[F7]
  rw[this];exact bG r b
 | cons a l=>
  obtain⟨c,d,_⟩:=RD h hn;exact Xm (a::l) (by simp) hl r (SX h) b _ d c
def JY (l:List Az):Prop:=l.Pairwise λa b=>a.rev<b.rev
theorem QN:∀{a b:List Az},JY a->JY b->(∀y,y∈a↔y∈b)->a=b
 | [],[],_,_,_=>rfl
 | [],y::_,_,_,h=>absurd ((h y).2 (by simp)) (by simp)
 | x::_,[],_,_,h=>absurd ((h x).1 (by simp)) (by simp)
 | x :: a, y :: b, ha, hb, h => by
  obtain⟨a1,a2⟩:=qR.1 ha;obtain⟨b1,d⟩:=qR.1 hb;have e:x=y:=by
   rcases qk.1 ((h x).1 (by simp))with e|e;exact e;rcases qk.1 ((h y).2 (by simp))with g|g;exact g.symm;have:=b1 x e;have:=a1 y g;omega
  subst e;rw[QN a2 d λz=>?_];constructor;intro c;rcases qk.1 ((h z).1 (by simp[c]))with e|e;subst e;have:=a1 z c;omega;exact e;intro c;rcases qk.1 ((h z).2 (by simp[c]))with e|e;subst e;have:=b1 z c;omega;exact e
def Hi:List Az->Az->List Az
 | [],x=>[x]
 | a::A,x=>if x.rev<a.rev then a::Hi A x else x::a::A
theorem My:∀(A:List Az) (x:Az),(Hi A x).length=A.length+1
 | [],_=>rfl
 | a::A,x=>by rw[Hi];split<;>simp[My A x]
theorem J6:∀{A:List Az} {x y:Az},y∈Hi A x↔y=x\/y∈A
 | [],x,y=>by simp[Hi]
 | a::A,x,y=>by
  rw[Hi];split;rw[qk,J6,qk];exact⟨λg=>g.elim (λe=>.inr (.inl e)) λg=>g.elim .inl λe=>.inr (.inr e),λg=>g.elim (λe=>.inr (.inl e)) λg=>g.elim .inl λe=>.inr (.inr e)⟩;simp
theorem Mx:∀{A:List Az} {x:Az},A.Pairwise (λa b=>b.rev<a.rev)->(∀y∈A,y.rev≠x.rev)->(Hi A x).Pairwise λa b=>b.rev<a.rev
 | [],x,_,_=>by simp[Hi]
 | a::A,x,h,g=>by
  obtain⟨d,h2⟩:=qR.1 h;rw[Hi];split;rename_i e;refine qR.2 ⟨λy c=>?_,Mx h2 λy c=>g y (by simp[c])⟩;rcases J6.1 c with rfl|c;exact e;exact d y c;refine qR.2 ⟨λy c=>?_,h⟩;have:=g a (by simp);rcases qk.1 c with rfl|c;omega;have:=d y c;omega
theorem Q0 (A B:List Az) (x:Az):HK (A++x::B) A.length=x:=by simp[HK,List.getD]
theorem Ph:∀(A:List Az) (x:Az) (B:List Az),E8 (A.reverse++x::B) A.length=(Hi A x).reverse++B
 | [],x,B=>rfl
 | a :: A, x, B => by
  have d:(a::A).reverse++x::B=A.reverse++a::x::B:=by simp
  have b:HK (A.reverse++a::x::B) (A.length+1)=x:=by
   have:=Q0 (A.reverse++[a]) B x;simpa using this
  have c:HK (A.reverse++a::x::B) A.length=a:=by
   have:=Q0 A.reverse (x::B) a;simpa using this
  rw[d,qF,E8,b,c,Hi];split;have e:IQ (A.reverse++a::x::B) A.length=A.reverse++x::a::B:=by
   unfold IQ;rw[b,c];have f:(A.reverse++a::x::B).set (A.length+1) a=A.reverse++a::a::B:=by
    rw[jV _ _ (by simp)];simp
   rw[f,jV _ _ (by simp)];simp
  rw[e,Ph A x (a::B)];simp;simp
theorem NT:∀(i:Nat) (l:List Az),i<=l.length->l.Pairwise (λa b=>a.rev≠b.rev)->∃A:List Az,Cz l i=A.reverse++l.drop i/\A.length=i/\A.Pairwise (λa b=>b.rev<a.rev)/\∀y,y∈A↔y∈l.take i
 | 0,l,_,_=>⟨[],by simp[Cz],rfl,List.Pairwise.nil,by simp⟩
 | i+1,l,hi,hp=>by
  obtain⟨A,f,h2,g,d⟩:=NT i l (by omega) hp;have c:i<l.length:=by omega
  refine⟨Hi A l[i],?_,by rw[My,h2],Mx g λy k=>?_,λy=>?_⟩;rw[Cz,f,qG c];have:=Ph A l[i] (l.drop (i+1));rw[h2]at this;exact this;obtain⟨j,h,e⟩:=ky.1 ((d y).1 k);rw[List.getElem_take]at e;rw[jr]at h;rw[<-e];exact jC.1 hp j i (by omega) c (by omega);rw[J6,d,qb c,qe,qv];exact Or.comm
theorem SS {l:List Az} (hp:l.Pairwise (λa b=>a.rev≠b.rev)):JY (Cz l l.length):=by
 obtain⟨A,c,_,d,_⟩:=NT l.length l (qa _) hp;rw[c,List.drop_length,jq,JY,List.pairwise_reverse];exact d
theorem TW {l:List Az} (h:JY l):l.Pairwise λa b=>a.rev≠b.rev:=
 List.Pairwise.imp (R:=λa b:Az=>a.rev<b.rev) (S:=λa b:Az=>a.rev≠b.rev) (fun {a b} g=>by have:a.rev<b.rev:=g;omega) h
theorem TL {l:List Az} (h:JY l):Cz l l.length=l:=
 QN (SS (TW h)) h λy=>KO l _ (qa _) y
section
variable {a id : Int}
theorem kO {l:List Az} (h:l.Pairwise λa b=>a.rev≠b.rev) (hn:id=a\/∀d∈l,d.rev≠id):(l.map (Bz (di a) id)).Pairwise λa b=>a.rev≠b.rev:=by
 rw[List.pairwise_map]
 induction h with
 | nil=>exact List.Pairwise.nil
 | @cons x l h1 h2 ih=>
  refine List.Pairwise.cons (λy f=>?_) (ih (hn.imp_right λg d i=>g d (by simp[i])));have e:=h1 y f;have j:=λg:id≠a=>(hn.resolve_left g) x (by simp);have k:=λg:id≠a=>(hn.resolve_left g) y (by simp[f]);simp only[Bz,Kl,di,beq_iff_eq];by_cases c:id=a;subst c;split<;>split<;>omega;have:=j c;have:=k c;split<;>split<;>omega
structure Y_ (a id:Int) (h:AF):Prop where
 inc:JY h.dels
 dels:id=a\/∀d∈h.dels,d.rev≠id
 ins:id=a\/h.ins≠id
 lays:id=a\/∀d∈h.layers,d.rev≠id
theorem iB {y:Int} (h:id=a\/y≠id):Kl (di id) a (Kl (di a) id y)=y:=by
 simp only[Kl,di,beq_iff_eq];by_cases c:y=a;simp[c];rw[if_neg c];by_cases d:y=id;rcases h with h|h;subst h;exact absurd d c;exact absurd d h;rw[if_neg d]
theorem Uu {h:AF} (H:Y_ a id h):JY (Ji (di a) id h).dels:=by
 have:=SS (kO (TW H.inc) H.dels)
 rwa [qd]at this
theorem gN {h:AF} (y:Az):y∈(Ji (di a) id h).dels↔y∈h.dels.map (Bz (di a) id):=by
 show y∈Cz _ _↔_;rw[KO _ _ (by rw[qd];exact qa _)]
theorem S7 {h:AF} (H:Y_ a id h) (h0:a≠0) (l:id≠0):Ji (di id) a (Ji (di a) id h)=h:=by
 have j:∀d∈h.dels,Bz (di id) a (Bz (di a) id d)=d:=λd e=>by
  have:=iB (a:=a) (id:=id) (y:=d.rev) (H.dels.imp_right λg=>g d e);cases d;simp only[Bz]at this ⊢;rw[this]
 have k:∀d∈h.layers,CE (di id) a (CE (di a) id d)=d:=λd e=>by
  have:=iB (a:=a) (id:=id) (y:=d.rev) (H.lays.imp_right λg=>g d e);cases d;simp only[CE]at this ⊢;rw[this]
 have hl:(Ji (di a) id h).dels.length=h.dels.length:=by show(Cz _ _).length=_;rw[HH,qd]
 have m:∀y,y∈(Ji (di a) id h).dels.map (Bz (di id) a)↔y∈h.dels:=λy=>by
  rw[qy];constructor;rintro⟨d,e,rfl⟩;rw[gN,qy]at e;obtain⟨c,hc,rfl⟩:=e;rw[j c hc];exact hc;intro f;exact⟨_,(gN _).2 (Kg f),j y f⟩
 have e:Cz ((Ji (di a) id h).dels.map (Bz (di id) a)) (Ji (di a) id h).dels.length=h.dels:=by
  have i:((Ji (di a) id h).dels.map (Bz (di id) a)).Pairwise λa b=>a.rev≠b.rev:=by
   refine kO (TW (Uu H)) ?_;by_cases c:a=id;exact .inl c;refine .inr λd e=>?_;rw[gN,qy]at e;obtain⟨q,hq,rfl⟩:=e;simp only[Bz,Kl,di,beq_iff_eq];split;exact λg=>c g.symm;rename_i g;exact g
  have:=QN (SS i) H.inc λy=>by rw[KO _ _ (qa _),m]
  rwa [qd]at this
 have hi:FV (di id) a (FV (di a) id h.ins)=h.ins:=by
  simp only[FV,di,beq_iff_eq];by_cases c:h.ins=a;simp[c,h0,l];have c1:¬(h.ins≠0/\h.ins=a):=λg=>c g.2;rw[if_neg c1];by_cases d:h.ins=id;rcases H.ins with g|g;subst g;exact absurd d c;exact absurd d g;rw[if_neg λg=>d g.2]
 have f:(Ji (di a) id h).layers.map (CE (di id) a)=h.layers:=by
  show(h.layers.map _).map _=_;rw[Qw]
  conv=>rhs;rw[<-kN h.layers]
  exact jT λd e=>k d e
 have:Ji (di id) a (Ji (di a) id h)={ (Ji (di a) id h)with ins:=FV (di id) a (Ji (di a) id h).ins,dels:=Cz ((Ji (di a) id h).dels.map (Bz (di id) a)) (Ji (di a) id h).dels.length,layers:=(Ji (di a) id h).layers.map (CE (di id) a) }:=rfl;rw[this,e,f,show(Ji (di a) id h).ins=FV (di a) id h.ins from rfl,hi];cases h;rfl
end
theorem lK {a b:AI} (c:a.flow=b.flow) (h2:a.«end» = b.«end») (d:a.revs=b.revs) (e:a.settings=b.settings):a=b:=by
 cases a;cases b;simp only at c h2 d e;subst c h2 d e;rfl
mutual
theorem Y7 {g:AF->AF} {f:Int->Int} (b:∀h y,y∈h.all->f y∈(g h).all):∀(x:AE) (y:Int),y∈x.us->f y∈(AE.mh g x).us
 | .mk k c i t h l r,y,a=>by
  rw[AE.mh,AE.us];rw[AE.us]at a;rcases qe.1 a with a|a;exact kc _ (b h y a);refine jN _ ?_;by_cases k6:k=6;rw[if_pos k6]at a ⊢;exact Ql b l y a;rw[if_neg k6]at a ⊢;by_cases k7:k=7;rw[if_pos k7]at a ⊢;exact RY b r y a;rw[if_neg k7]at a;cases a
theorem Ql {g:AF->AF} {f:Int->Int} (b:∀h y,y∈h.all->f y∈(g h).all):∀(l:List AE) (y:Int),y∈AE.usL l->f y∈AE.usL (AE.mhL g l)
 | [],y,a=>by rw[AE.usL]at a;cases a
 | x::l,y,a=>by
  rw[AE.mhL,AE.usL];rw[AE.usL]at a;rcases qe.1 a with a|a;exact kc _ (Y7 b x y a);exact jN _ (Ql b l y a)
theorem lS {g:AF->AF} {f:Int->Int} (b:∀h y,y∈h.all->f y∈(g h).all):∀(x:Aa) (y:Int),y∈x.us->f y∈(Aa.mh g x).us
 | .mk h c,y,a=>by
  rw[Aa.mh,Aa.us];rw[Aa.us]at a;rcases qe.1 a with a|a;exact kc _ (b h y a);exact jN _ (RX b c y a)
theorem RY {g:AF->AF} {f:Int->Int} (b:∀h y,y∈h.all->f y∈(g h).all):∀(l:List Aa) (y:Int),y∈Aa.usL l->f y∈Aa.usL (Aa.mhL g l)
 | [],y,a=>by rw[Aa.usL]at a;cases a
 | x::l,y,a=>by
  rw[Aa.mhL,Aa.usL];rw[Aa.usL]at a;rcases qe.1 a with a|a;exact kc _ (lS b x y a);exact jN _ (RY b l y a)
theorem Wz {g:AF->AF} {f:Int->Int} (b:∀h y,y∈h.all->f y∈(g h).all):∀(x:Wl) (y:Int),y∈x.us->f y∈(Wl.mh g x).us
 | .mk i h l,y,a=>by
  rw[Wl.mh,Wl.us];rw[Wl.us]at a;rcases qe.1 a with a|a;exact kc _ (b h y a);exact jN _ (Ql b l y a)
theorem RX {g:AF->AF} {f:Int->Int} (b:∀h y,y∈h.all->f y∈(g h).all):∀(l:List Wl) (y:Int),y∈Wl.usL l->f y∈Wl.usL (Wl.mhL g l)
 | [],y,a=>by rw[Wl.usL]at a;cases a
 | x::l,y,a=>by
  rw[Wl.mhL,Wl.usL];rw[Wl.usL]at a;rcases qe.1 a with a|a;exact kc _ (Wz b x y a);exact jN _ (RX b l y a)
end
theorem d8 {h:AF} {y:Int}:y∈h.all↔y=h.ins\/(∃d∈h.dels,d.rev=y)\/∃d∈h.layers,d.rev=y:=by
 unfold AF.all;simp only[qk,qe,qy]
theorem cw {a id:Int} (h0:a≠0) (h:AF) (y:Int) (e:y∈h.all):Kl (di a) id y∈(Ji (di a) id h).all:=by
 rw[d8]at e ⊢;rcases e with rfl|⟨d,b,rfl⟩|⟨d,b,rfl⟩
 left;show _=FV (di a) id h.ins;simp only[Kl,FV,di,beq_iff_eq];by_cases c:h.ins=a;rw[if_pos c,if_pos ⟨by rw[c];exact h0,c⟩];rw[if_neg c,if_neg λg=>c g.2];right;left;exact⟨Bz (di a) id d,(gN _).2 (Kg b),rfl⟩;right;right;exact⟨CE (di a) id d,Kg b,rfl⟩
theorem WM {l:List Az} (h:∀i (hi:i<l.length),0<i->l[i-1].rev<l[i].rev):JY l:=by
 refine jC.2 λi j hi b hij=>?_
 induction j with
 | zero=>omega
 | succ j ih=>
  have a:=h (j+1) b (by omega);simp only[Nat.add_sub_cancel]at a;rcases ji i j with c|c;have:=ih (by omega) c;omega;have:i=j:=by omega
  subst this;exact a
theorem iy {m2:List Int} {a id:Int} (b:id=a\/id∉m2) (h0:id≠0) {h:AF} (H:C6 m2 h):Y_ a id h where
 inc:=WM H.inc
 dels:=b.imp_right λg d c e=>g (e▸H.dels d c)
 ins:=b.imp_right λg e=>H.ins.elim (λz=>h0 (by rw[<-e,z])) λz=>g (e▸z)
 lays:=b.imp_right λg d c e=>g (e▸H.layers d c)
def l0 (m2:List Int) (h:AF):Prop:=J5 m2 h/\C6 m2 h
section
variable {N K : Nat} {d : AI} {m2 : List Int}
theorem Tq (a:m2=Bd [] (d.revs.map (·.id))) (b:Hk N d) (hl:Da (J5 m2) K N d.flow):wf (l0 m2) (λi=>i ≠ -1) N d.flow:=
 UK (a▸b.flow) hl λi hi=>by have:=(b.ids i hi).1;omega
theorem Ry (a:Hk N d):Px d.revs:=Wu (QZ a.revs)
theorem WU (a:m2=Bd [] (d.revs.map (·.id))) {id:Int}:id∈m2↔∃r∈d.revs,r.id=id:=by
 rw[a,LA];simp
theorem Wt {l:List Ax} (h:Px l) {r:Ax} (a:r∈l):r.id≠0:=by have:=Pa (h.2.1 r a);omega
end
def Yz:Tr:=.pure 0<|.pure 1<|.pure 3<|.one 2<|.one 4<|.one 5<|.one 6 .nil
theorem lO {h' h:Hp} {k o:Nat} {x:Int} {full full':Bool} (hn:h o=none) (a:full'=true->full=true) (b:h' o=some (.cells [AA x])):Fz h' h (k+1) (.sl o 0 1 1 full) (.imm 1 [AA x] full'):=by
 have:=DV (h':=h') (h:=h) (k:=k) (z:=1) (o:=o) (full:=full) (full':=full') (es:=[AA x]) hn a (by rw[b];simp[SV.cells]) (by simp[SV.storable,SV.cells]);exact this
def Ln (revs:List Int) (A:Nat->List Int):Nat->List (Int×Int)
 | 0=>[]
 | i+1=>Ln revs A i++(Fg (A i) 0).map λm=>(revs.getD i 0,m)
theorem Yb (n:Nat) (l:List (Int×Int)):closedL n (l.map B5)=true:=by
 rw[BU];intro e a;obtain⟨p,_,rfl⟩:=qy.1 a;rfl
def Vk:Tr:=.pure 0<|.pure 2<|.one 1<|.one 3 .nil
set_option maxHeartbeats 4000000 in
theorem Zm (D:AI) (revs:List Int) (hr:revs.length<=1048576) (A:Nat->List Int) (_hA:∀i,(A i).length<=1048576) (hn:∀i,i<=revs.length->(Ln revs A i).length+(A i).length<=1048576)
 (k39:∀i,i<revs.length->∀(q n0:Nat),q<n0->∀(H:Hp) (n:Nat),n0<=n->H q=some (.list 1 [])->BA Tryz.prog 39 [D.enc,AX.enc,.imm 0 [] true,.fn (.func 171) [] [.ptr q 0,.iptr [.imm 1 (revs.map AA) false],.iptr [AA i]]] H n (λv h' n'=>(∃E:AI,v=E.enc)/\h'=Aj (UD q) (A i) H/\n'=n)):
 PC 104 [D.enc,.imm 1 (revs.map AA) false] (.imm 2 ((Ln revs A revs.length).map B5) false):=by
 intro h n;refine Db Tryz.func104 rfl λho=>?_;have l:=ho.lt;obtain⟨X,hX⟩:∃X:SV,X=.iptr ([AG D.flow]++D.«end».flat++[Ao D.revs]++D.settings.flat):=⟨_,rfl⟩
 obtain⟨R,hR⟩:∃R:SV,R=.iptr [.imm 1 (revs.map AA) false]:=⟨_,rfl⟩
 refine AY 1 [(2,X),(3,R)] h n ?_ (λm u=>?_);rw[hX,hR];simp[go_sem,AI.enc,AF.flat,AK.flat];exact⟨by omega,⟨AV (ho.none (by omega)) (by simp[hset]),AV (ho.none (by omega)) (by simp[hset])⟩,λj y e=>by have:=l j y e;simp only[hset];grind⟩;refine AY 0 [(2,X),(3,R),(5,.imm 0 [] true)] h n ?_ (λm u=>?_);simp[go_sem,IO,u];have hsz:∀i,∀e∈(Ln revs A i).map B5,e.storable=true/\e.cells.length=2:=λi=>E3 _;refine Bc 1 [(5,.imm 2 ((Ln revs A revs.length).map B5) false)] h n ?_ (λm u=>?_);refine AY 1 [(2,X),(3,R),(5,.imm 0 [] true),(6,.iptr [AA 0])] h n ?_ (λm u=>?_);have F:∀j y,h j=some y->j<m:=λj y e=>by have:=l j y e;omega
 simp[go_sem,IO,AC,AS];exact⟨by omega,AV (AW F (qa _)) (AC _ _ _),AJ F AB⟩;refine AR (BG 1 (α:=Nat×Option Nat) (λq=>[(2,X),(3,R),(5,AM 2 q.2 ((Ln revs A q.1).map B5)),(6,.iptr [AA q.1])]) (λq=>AN q.2 ((Ln revs A q.1).map B5) h) (λq m=>q.1<=revs.length/\n<=m/\Ar n m 2 q.2 ((Ln revs A q.1).map B5)) (λq=>revs.length-q.1) (0,none) ⟨by omega,u,jK _ _ _⟩ ?_ ?_ ?_);simp[Ai,AM,Ln,IO];exact AB;clear u m;rintro⟨i,o⟩ m ⟨hi,u,C⟩;dsimp only at hi C ⊢;obtain⟨E,hE⟩:∃E,E=(Ln revs A i).map B5:=⟨_,rfl⟩
 rw[<-hE]at C ⊢;have G:∀j y,AN o E h j=some y->j<m:=Dm l u C;by_cases U:i<revs.length
 · have w1 := wS i (by omega)
   refine Ea 0 [(2,X),(3,R),(5,AM 2 o E),(6,.iptr [AA i])] (AN o E h) m (AH ?_) (λm' M=>?_);rw[hR];simp[go_sem,IO,U];subst M;obtain⟨L,hL⟩:∃L,L=A i:=⟨_,rfl⟩
   obtain⟨c,hrv⟩:∃c,revs[i]=c:=⟨_,rfl⟩
   have hnx:Ln revs A (i+1)=Ln revs A i++(Fg L 0).map λm=>(c,m):=by
    rw[Ln,KW,qf U,hrv,hL];rfl
   refine AT 0 (α:=Option Nat) (λo=>[(2,X),(3,R),(5,AM 2 o (E++((Fg L 0).map λm=>(c,m)).map B5)),(6,.iptr [AA i])]) (λo=>AN o (E++((Fg L 0).map λm=>(c,m)).map B5) h) (λo m=>n<=m/\Ar n m 2 o (E++((Fg L 0).map λm=>(c,m)).map B5)) (AR ?_) (λo m u=>?_);refine BM 0 (α:=Nat) (λp=>[(2,X),(3,R),(5,AM 2 o E),(6,.iptr [AA i]),(7,.ptr p 0)]) (λp=>hset (AN o E h) p (some (.cells [.imm 0 [] true]))) (λp m'=>m<=p/\p+1=m') ?_ (λp m' M=>?_);simp[go_sem,IO];exact⟨m,by omega,rfl,AB⟩;obtain⟨hmp,rfl⟩:=M;refine Jt p 1 none (AC _ _ _) ?_;rw[AS];have hWs:∀s,Aj (UD p) s (hset (AN o E h) p (some (.list 1 [])))=hset (AN o E h) p (some (.list 1 (s.map AA))):=λs=>by
    funext j;simp only[Aj,UD,hset];by_cases e:j=p;simp[e];simp[e]
   have B:=λm' (M:p+1<=m')=>k39 i U p (p+1) (by omega) (hset (AN o E h) p (some (.list 1 []))) m' M (AC _ _ _);simp only[hWs]at B;rw[<-hL]at B;refine AT 0 (α:=Unit) (λ_=>[(2,X),(3,R),(5,AM 2 o E),(6,.iptr [AA i]),(7,.ptr p 0)]) (λ_=>hset (AN o E h) p (some (.list 1 (L.map AA)))) (λ_ m'=>p+1<=m') (BX Vk rfl (by kernel_rfl) (by kernel_rfl) ?_) (λ_ m1 hm1=>?_);rw[hX,hR];simp[go_sem,Vk,AF.flat,AK.flat];refine bH.use ?_;simp[go_sem];refine qC (by simpa[AI.enc,AF.flat,AK.flat]using B (p+1) (qa _)) ?_;rintro v H' n' ⟨⟨E,rfl⟩,rfl,rfl⟩;simp[go_sem,IO];refine Kt p (Hz.size L) (AC _ _ _) λoL m2 hm2 Q hL2=>?_;rw[AS];obtain⟨Z,hZ⟩:∃Z:Hp,Z=AN oL (L.map AA) (hset (AN o E h) p (some (.cells [AM 1 oL (L.map AA)]))):=⟨_,rfl⟩
   rw[<-hZ];have hZp:Z p=some (.cells [AM 1 oL (L.map AA)]):=by
    rw[hZ];cases oL with
    | none=>simp only[AN];rw[AC]
    | some k=>have:=(Q.lt k rfl).1;simp only[AN];rw[AD _ _ (by omega),AC]
   have T:∀j y,AN o E h j=some y->Z j=some y:=λj y e=>by
    have:=G j y e;rw[hZ];cases oL with
    | none=>simp only[AN];rw[AD _ _ (by omega)];exact e
    | some k=>have:=(Q.lt k rfl).1;simp only[AN];rw[AD _ _ (by omega),AD _ _ (by omega)];exact e
   have hsub:∀j y,AN oL (L.map AA) (AN o E h) j=some y->Z j=some y:=λj y e=>by
    cases oL with
    | none=>exact T j y e
    | some k=>
     simp only[AN,hset]at e;split at e;rename_i q;rw[hZ,q];simp only[AN];rw[AC];exact e;exact T j y e
   have N:∀j,p+1<=j->AN o E h j=none:=λj hj=>AW G (by omega);have fz7:Fz Z (AN o E h) 3 (.ptr p 0) (.iptr [.imm 1 (L.map AA) false]):=.inr ⟨AW G hmp,_,hZp,by simp,⟨AM.fz' (λj hj=>N j (by omega)) Q hsub,trivial⟩⟩;refine BP 3 [(2,X),(3,R),(5,AM 2 o E),(6,.iptr [AA i]),(7,.iptr [.imm 1 (L.map AA) false]),(8,AA 0)] (AN o E h) (λm'=>p+1<=m') ?_ (λm3 hm3=>?_);simp[go_sem,IO];exact⟨by omega,fz7,T⟩;clear fz7 hsub T hZp hZ hL2 Q;refine BP 0 [(2,X),(3,R),(5,AM 2 o E),(6,.iptr [AA i]),(7,.iptr [.imm 1 (L.map AA) false]),(8,AA 0),(9,.bool true)] (AN o E h) (λm'=>p+1<=m') ?_ (λm3 hm3=>?_);simp[go_sem,IO,hm3];have hEl:E.length+L.length<=1048576:=by have:=hn i hi;rw[hE,qd,hL];exact this
   have hW0:(Fg L 0).length<=L.length:=qr (Lp L 0) (qU _ _);have hLl:L.length<=1048576:=by omega
   clear G N hWs B;refine AR (BG 0 (α:=Bool×Int×List Int×Option Nat) (λq=>[(2,X),(3,R),(6,.iptr [AA i]),(7,.iptr [.imm 1 (L.map AA) false]),(5,AM 2 q.2.2.2 (E++(q.2.2.1.map λm=>(c,m)).map B5)),(8,AA q.2.1),(9,.bool q.1)])
    (λq=>AN q.2.2.2 (E++(q.2.2.1.map λm=>(c,m)).map B5) h) (λq m=>n<=m/\Ar n m 2 q.2.2.2 (E++(q.2.2.1.map λm=>(c,m)).map B5)/\q.2.2.1++(if q.1 then Fg L q.2.1 else[])=Fg L 0) (λq=>if q.1 then(L.filter λx=>decide (q.2.1<x)).length+1 else 0) (true,0,[],o) ⟨by omega,by simpa using C.mono (by omega),by simp⟩ ?_ ?_ ?_)
   simp[Ai,IO];simp only[qS,jq];exact AB;rintro⟨fl,last,out,d⟩ W ⟨hm4,g,f⟩;dsimp only at g f ⊢;obtain⟨a,K⟩:∃a,a=E++(out.map λm=>(c,m)).map B5:=⟨_,rfl⟩
   rw[<-K]at g ⊢;have hE2l:a.length=E.length+out.length:=by rw[K];simp
   cases fl with
   | false=>
    have ho2:out=Fg L 0:=by simpa using f
    refine AH ?_;simp[go_sem,IO];rw[<-ho2];have e2:E++List.map (B5 ∘ λm=>(c,m)) out=a:=by rw[K,Qw]
    simp only[e2];exact⟨d,⟨hm4,g⟩,IO,AB⟩
   | true =>
    rw[if_pos rfl]at f;have hol:out.length+(Fg L last).length<=L.length:=by
     have:=congrArg List.length f;rw[qt]at this;omega
    refine Bc 0 [(2,X),(3,R),(6,.iptr [AA i]),(7,.iptr [.imm 1 (L.map AA) false]),(5,AM 2 d a),(8,AA last)] (AN d a h) W (AH ?_) (λr J=>?_);simp[go_sem,IO];refine AR ?_;refine AY 0 [(2,X),(3,R),(6,.iptr [AA i]),(7,.iptr [.imm 1 (L.map AA) false]),(5,AM 2 d a),(8,AA last),(9,.bool false)] (AN d a h) W ?_ (λr J=>?_);simp[go_sem,IO,J];refine AY 0 [(2,X),(3,R),(6,.iptr [AA i]),(7,.iptr [.imm 1 (L.map AA) false]),(5,AM 2 d a),(8,AA last),(9,.bool false),(10,AA 0)] (AN d a h) W ?_ (λr J=>?_);simp[go_sem,IO,J];obtain⟨S,hS⟩:∃S:Nat->Int×Bool,∀k,S k=(L.take k).foldl (DO last) (0,false):=⟨_,λ_=>rfl⟩
    have hS0:S 0=(0,false):=by rw[hS];rfl
    have hSs:∀k x,(h:k<L.length)->L[k]=x->S (k+1)=DO last (S k) x:=λk x h hx=>by rw[hS,hS,DE _ _ _ _ _ h hx]
    have hSl:S L.length=Oa L last:=by rw[hS,qi];rfl
    clear hS;refine Bc 0 [(2,X),(3,R),(6,.iptr [AA i]),(7,.iptr [.imm 1 (L.map AA) false]),(5,AM 2 d a),(8,AA last),(9,.bool (Oa L last).2),(10,AA (Oa L last).1)] (AN d a h) W ?_ (λr J=>?_);refine AY 0 [(2,X),(3,R),(6,.iptr [AA i]),(7,.iptr [.imm 1 (L.map AA) false]),(5,AM 2 d a),(8,AA last),(9,.bool false),(10,AA 0),(11,AA 0)] (AN d a h) W ?_ (λm6 hm6=>?_);simp[go_sem,IO,J];refine AR (BG 0 (α:=Nat) (λk=>[(2,X),(3,R),(6,.iptr [AA i]),(7,.iptr [.imm 1 (L.map AA) false]),(5,AM 2 d a),(8,AA last),(9,.bool (S k).2),(10,AA (S k).1),(11,AA k)]) (λ_=>AN d a h) (λk m'=>k<=L.length/\W<=m') (λk=>L.length-k) 0 ⟨by omega,hm6⟩ ?_ AB ?_);simp[Ai,hS0,IO];rintro k m7 ⟨hk,hm7⟩;by_cases I:k<L.length;have v1:=wS k (by omega);obtain⟨x,hx⟩:∃x,L[k]=x:=⟨_,rfl⟩
    have hst:=hSs k x I hx;refine Bc 0 [(2,X),(3,R),(6,.iptr [AA i]),(7,.iptr [.imm 1 (L.map AA) false]),(5,AM 2 d a),(8,AA last),(9,.bool (S k).2),(10,AA (S k).1),(11,AA k)] (AN d a h) W (AH ?_) (λm8 V=>?_);simp[go_sem,IO,I,hm7];refine AT 0 (α:=Unit) (λ_=>[(2,X),(3,R),(6,.iptr [AA i]),(7,.iptr [.imm 1 (L.map AA) false]),(5,AM 2 d a),(8,AA last),(9,.bool (S (k+1)).2),(10,AA (S (k+1)).1),(11,AA k)]) (λ_=>AN d a h) (λ_ m'=>W<=m') (AR (AH ?_)) (λ_ m9 hm9=>?_);rw[hst];by_cases c1:last<x;by_cases c2:(S k).1=0;simp[go_sem,I,hx,c1,c2,DO,IO,V];by_cases c3:x<(S k).1;simp[go_sem,I,hx,c1,c2,c3,DO,IO,V];simp[go_sem,I,hx,c1,c2,c3,DO,IO,V];simp[go_sem,I,hx,c1,DO,IO,V];refine AH ?_;simp[go_sem,v1,IO,-Int.natCast_add];exact⟨k+1,by omega,⟨by omega,hm9⟩,IO,IO,IO⟩;have:k=L.length:=by omega
    subst this;rw[hSl];refine AH ?_;simp[go_sem,IO,hm7];obtain⟨b,hb⟩:∃b,b=Oa L last:=⟨_,rfl⟩
    have O:Fg L last=if b.2=true then b.1::Fg L b.1 else[]:=by rw[Fg,<-hb];split<;>rfl
    rw[<-hb];cases Hn:b.2 with
    | false=>
     refine AH ?_;simp[go_sem,IO];have e2:E++List.map (B5 ∘ λm=>(c,m)) out=a:=by rw[K,Qw]
     rw[Hn]at O;have hnw':Fg L last=[]:=by simpa using O
     rw[hnw',jq]at f;exact .inl ⟨last,out,d,⟨by omega,by rw[e2];exact g.mono (by omega),f⟩,⟨by rw[e2];exact IO,IO⟩,by rw[e2];exact AB⟩
    | true=>
     refine AH ?_;rw[hR];simp[go_sem,U,hrv];rw[Hn,if_pos rfl]at O;have G:∀j y,AN d a h j=some y->j<W:=Dm l hm4 g;have Y:=H5 (A:=L) (last:=last) (by rw[<-hb];exact Hn);rw[<-hb]at Y;have hl1:(Fg L last).length=(Fg L b.1).length+1:=by rw[O];rfl
     have h4:hset (AN d a h) r (some (.cells [AA c,AA b.1])) r=some (.cells (B5 (c,b.1)).cells):=by simp[AC,B5,SV.cells]
     have h3:∀j w,AN d a h j=some w->hset (AN d a h) r (some (.cells [AA c,AA b.1])) j=some w:=λj w e=>by have:=G j w e;rw[AD _ _ (by omega)];exact e
     have b1:=Dp (P:=Tryz.prog) (es:=a) (e:=B5 (c,b.1)) (o:=d) (t:=159) (t2:=159) (el:=239) (z:=2) (by simp[go_sem]) (by simp[go_sem]) (by simp[go_sem]) (by simp) (by simp[go_sem]) (by simp[go_sem]) (by simp[go_sem]) (by omega) g rfl h4 (λj e=>h3 j _ (Cu j e)) (r+1);have b4:=CY (p:=r+1) (v:=.sl (r+1) 0 2 (a.length+1) false) (e:=B5 (c,b.1)) l (by omega) g (H:=hset (AN d a h) r (some (.cells [AA c,AA b.1]))) (λj w e=>h3 j w (Be l g j w e));have b2:=g.push (j:=r+1) (m':=r+1+1) (e:=B5 (c,b.1)) (by rfl) (by rfl) (by omega) (by omega);have e3:E++List.map (B5 ∘ λm=>(c,m)) (out++[b.1])=a++[B5 (c,b.1)]:=by rw[K,qc,Qw,qn];rfl
     rw[b1];have hvv:AM 2 (some (r+1)) (a++[B5 (c,b.1)])=.sl (r+1) 0 2 (a.length+1) false:=by simp[AM]
     refine .inr ⟨b.1,out++[b.1],some (r+1),Y,⟨by simp;omega,by rw[e3];simpa using b2,by rw[<-f,O];simp⟩,⟨by rw[e3,hvv];exact IO,IO⟩,by rw[e3];exact b4⟩
   have F:∀j y,AN o (E++((Fg L 0).map λm=>(c,m)).map B5) h j=some y->j<m:=Dm l u.1 u.2;refine AH ?_;simp[go_sem,AC,AS,w1,-Int.natCast_add];have e4:(Ln revs A (i+1)).map B5=E++List.map (B5 ∘ λm=>(c,m)) (Fg L 0):=by rw[hnx,qc,hE,Qw]
   have e5:((Fg L 0).map λm=>(c,m)).map B5=List.map (B5 ∘ λm=>(c,m)) (Fg L 0):=Qw;rw[e5]at u F;exact⟨i+1,by omega,o,⟨by omega,by omega,by rw[e4];exact u.2.mono (by omega)⟩,⟨by rw[e4];exact IO,AV (by rw[e4];exact AW F (qa _)) (AC _ _ _)⟩,by rw[e4];exact AJ F AB⟩
 have:i=revs.length:=by omega
 subst this;refine AH ?_;rw[hR];simp[go_sem];exact⟨u,by rw[<-hE];exact AM.fz' (λj hj=>AW l hj) C AB,Be l C⟩;refine AH ?_;simp[go_sem];exact Ay ho AB rfl (by rw[closed];exact Yb n _)
section
variable {hp0 : AF → Prop} {m2 : List Int} {g g' : Bool → AF → AF}
end
theorem Qi {α:Type} {f g:α->Nat}:∀{l:List α},(∀x∈l,f x<=g x)->(l.map f).sum<=(l.map g).sum
 | [],_=>by simp
 | a::l,h=>by
  have h1:=h a (by simp);have h2:=Qi (l:=l) λx b=>h x (by simp[b]);simp only[qu,kK];omega
theorem gm {α:Type} (p:α->Bool) (f:α->Nat):∀l:List α,((l.filter p).map f).sum<=(l.map f).sum
 | []=>by simp
 | a::l=>by
  have h:=gm p f l;rw[jZ];split<;>simp only[qu,kK]<;>omega
theorem OF {α:Type} (f:α->Nat):∀l:List α,2*(l.map f).sum=(l.map λx=>2*f x).sum
 | []=>rfl
 | a::l=>by
  have:=OF f l;simp only[qu,kK];omega
def wN:Nat->List AE->Nat
 | 0,_=>0
 | N+1,l=>(l.map λx=>1+wN N x.flow+(x.rows.map λr=>1+(r.cells.map λc=>1+wN N c.flow).sum).sum).sum
def wC (N:Nat) (c:Wl):Nat:=1+wN N c.flow
def wR (N:Nat) (r:Aa):Nat:=1+(r.cells.map (wC N)).sum
def wI (N:Nat) (x:AE):Nat:=1+wN N x.flow+(x.rows.map (wR N)).sum
theorem RZ (N:Nat) (l:List AE):wN (N+1) l=(l.map (wI N)).sum:=rfl
theorem lT (N:Nat) (out:List AE) (x:AE):((BK out x).map (wI N)).sum<=(out.map (wI N)).sum+wI N x:=by
 unfold BK;split;omega;split;rename_i y a;obtain⟨ys,rfl⟩:∃ys,out=ys++[y]:=by
  rcases List.eq_nil_or_concat out with rfl|⟨ys,z,rfl⟩
  simp at a;simp only[List.concat_eq_append]at a ⊢;rw[JZ]at a;cases a;exact⟨ys,rfl⟩
 split;have e:wI N (y.addText x.text)=wI N y:=rfl;simp[e];simp;omega;simp
theorem Pc (N:Nat):∀l out:List AE,((l.foldl BK out).map (wI N)).sum<=(out.map (wI N)).sum+(l.map (wI N)).sum
 | [],out=>by simp
 | a::l,out=>by
  have h1:=Pc N l (BK out a);have h2:=lT N out a;simp only[qM,qu,kK];omega
theorem fa:∀(N:Nat) (l:List AE),wN N (Ac l)<=wN N l
 | 0,_=>qa _
 | N + 1, l => by
  rw[RZ,RZ];unfold Ac EM;rw[kM];have a:=Pc N (l.map AE.nrm) [];have h2:((l.map AE.nrm).map (wI N)).sum<=(l.map (wI N)).sum:=by
   rw[Qw];refine Qi λx _=>?_;rw[YP,AE.nrm_eq];have h3:=fa N x.flow;have h4:(((x.rows.map Aa.nrm).filter λr=>!decide (r.cells.length=0)).map (wR N)).sum<=(x.rows.map (wR N)).sum:=by
    refine qr (gm _ _ _) ?_;rw[Qw];refine Qi λr _=>?_;rw[YP,Aa.nrm_eq];unfold wR;have:((r.cells.map Wl.nrm).map (wC N)).sum<=(r.cells.map (wC N)).sum:=by
     rw[Qw];refine Qi λc _=>?_;rw[YP,Wl.nrm_eq];have:=fa N c.flow;show 1+wN N (Ac c.flow)<=1+wN N c.flow;omega
    show 1+((r.cells.map Wl.nrm).map (wC N)).sum<=_;omega
   show 1+wN N (Ac x.flow)+(((x.rows.map Aa.nrm).filter λr=>!decide (r.cells.length=0)).map (wR N)).sum<=1+wN N x.flow+(x.rows.map (wR N)).sum;omega
  simp only[qS,List.sum_nil]at a;omega
theorem R_ (N:Nat) (l:List AE) (cu:Int):∀k,k<=l.length->((DJ l cu k).1.map (wI N)).sum<=((l.take k).map (wI N)).sum/\((DJ l cu k).2.map (wI N)).sum<=((l.take k).map (wI N)).sum
 | 0,_=>by simp[DJ]
 | k+1,h=>by
  rw[Gw l cu k h,qb h];have h1:=R_ N l cu k (by omega);have e:∀(x:AE) t,wI N (x.setText t)=wI N x:=λ_ _=>rfl;unfold Cb;dsimp only;split;simp only[qc,List.sum_append,qu,qS,kK,List.sum_nil];omega;split;simp only[qc,List.sum_append,qu,qS,kK,List.sum_nil];omega;simp only[qc,List.sum_append,qu,qS,kK,List.sum_nil,e];omega
theorem lH (N:Nat) (l:List AE) (a b:Int):wN (N+1) (Ad l a b).1<=wN (N+1) l:=by
 have h:∀l cu,wN (N+1) (Bj l cu).1<=wN (N+1) l/\wN (N+1) (Bj l cu).2<=wN (N+1) l:=λl cu=>by
  have:=R_ N l cu l.length (qa _);rw[qi]at this;exact this
 unfold Ad;split;exact qr (fa _ _) (qr (h _ _).2 (h _ _).1);exact qg _
theorem UJ {hp:AF->Prop} {T:Int->Prop}:∀{N:Nat} {l:List AE},wf hp T N l->wN N l<=2*MK N l
 | 0,_,h=>h.elim
 | N + 1, l, H => by
  have H:=OG.1 H;have e:2*MK (N+1) l=(l.map λx=>2*(1+MK N x.flow+Kp N x.rows)).sum:=OF _ l;rw[e,RZ];refine Qi λx b=>?_;have b:=H x b;have h1:=UJ b.flow;have h2:(x.rows.map (wR N)).sum<=2*Kp N x.rows:=by
   have d:2*Kp N x.rows=(x.rows.map λr=>2*MB N r.cells).sum:=OF _ x.rows;rw[d];refine Qi λr i=>?_;obtain⟨_,u,v⟩:=b.rows r i;have f:∀l:List Wl,(∀c∈l,wN N c.flow<=2*MK N c.flow)->(l.map (wC N)).sum+l.length<=2*MB N l:=λl=>by
    induction l with
    | nil=>intro _;simp[MB]
    | cons a l ih=>
     intro h;have j:=ih λc hc=>h c (by simp[hc]);have i2:=h a (by simp);simp only[MB,qu,kK,qF,wC]at j ⊢;omega
   have:=f r.cells λc hc=>UJ (v c hc).2.2;have:r.cells.length≠0:=λg=>u (kD g);unfold wR;omega
  unfold wI;omega
section
variable {hp : AF → Prop} {T : Int → Prop} {σ : Type} {f : σ → BW → AF × Bool × σ} {rk : σ → Nat} {c : Nat}
theorem K2 {α β:Type} {G:β×σ->α->β×σ} {v:α->Nat} {k:Nat}:∀(l:List α) (q:β×σ),(∀x∈l,∀q,rk (G q x).2<=rk q.2+k*v x)->rk (l.foldl G q).2<=rk q.2+k*(l.map v).sum
 | [],_,_=>by simp
 | x::l,q,h=>by
  have h1:=K2 l (G q x) λy a=>h y (by simp[a]);have h2:=h x (by simp) q;simp only[qM,qu,kK,KG];omega
theorem Tg {fl:Int->List AE->Av->Bool->σ->List AE×σ} {sc:Av} {mid:Bool} {N k:Nat} {l:List AE} (c:∀s p,hp p.head->rk (f s p).2.2<=rk s+k) (H:wf hp T (N+1) l)
 (b:∀id l,T id->wf hp T N l->∀s,rk (fl id l sc mid s).2<=rk s+k*wN N l) (s:σ):rk (Bq f fl sc mid l s).2<=rk s+k*wN (N+1) l:=by
 rw[RZ];refine K2 (G:=Dq f fl sc mid) l ([],s) λx m q=>?_;obtain⟨a,_,_,_,e,g,o⟩:=OG.1 H x m;have h1:=c q.2 ⟨x.head,mid,(A8 [x]).1⟩ a;have h2:∀s,rk (K3 fl sc mid x s).2<=rk s+k*wN N x.flow:=λs=>by
  unfold K3;split;rename_i k6;exact b _ _ (e k6) g s;exact Nat.le_add_right _ _
 have h:∀s,rk (FH f fl sc mid x.rows s).2<=rk s+k*(x.rows.map (wR N)).sum:=λs=>by
  refine K2 (G:=CW f fl sc mid) x.rows ([],s) λr j q=>?_;obtain⟨u,_,w⟩:=o r j;have i1:=c q.2 ⟨r.head,mid,1⟩ u;have n:∀s,rk (Dh f fl sc mid r.cells s).2<=rk s+k*(r.cells.map (wC N)).sum:=λs=>by
   refine K2 (G:=CG f fl sc mid) r.cells ([],s) λd i q=>?_;obtain⟨t,u,w⟩:=w d i;have j1:=c q.2 ⟨d.head,mid,1⟩ u;have j2:=b _ _ t w (f q.2 ⟨d.head,mid,1⟩).2.2;show rk (fl d.id d.flow sc mid (f q.2 ⟨d.head,mid,1⟩).2.2).2<=_;unfold wC;rw[KG];omega
  have i3:=n (f q.2 ⟨r.head,mid,1⟩).2.2;show rk (Dh f fl sc mid r.cells (f q.2 ⟨r.head,mid,1⟩).2.2).2<=_;unfold wR;rw[KG];omega
 have h4:=h2 (f q.2 ⟨x.head,mid,(A8 [x]).1⟩).2.2;have h5:=h (K3 fl sc mid x (f q.2 ⟨x.head,mid,(A8 [x]).1⟩).2.2).2;show rk (FH f fl sc mid x.rows (K3 fl sc mid x (f q.2 ⟨x.head,mid,(A8 [x]).1⟩).2.2).2).2<=_;unfold wI;rw[KG,KG];omega
theorem J9 {k:Nat} (b:∀s p,hp p.head->rk (f s p).2.2<=rk s+k) (a:∀i,T i->i ≠ -1):∀(N:Nat) (id:Int) (l:List AE) (mid:Bool) (s:σ),wf hp T N l->(mid=true\/id ≠ -1)->rk (Aw f N id l AX mid s).2<=rk s+k*wN N l
 | 0,_,_,_,_,h,_=>h.elim
 | N+1,id,l,mid,s,H,hid=>by
  have c:¬(id=AX.id/\mid=false):=by rcases hid with rfl|h<;>simp[AX, *]
  rw[Aw,if_neg c];exact Tg b H (λid l t w s=>J9 b a N id l mid s w (.inr (a _ t))) s
end
end Go.Proofs.YtgakninlhfkkmaaGreat.Sh
