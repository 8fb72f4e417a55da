/- A part of the proof (part 12 of 17). -/
import Derived.Test.YtgakninlhfkkmaaGreatM11
import Derived.Sort.Grow
import Derived.Deep.Draws
import Derived.Shelf.SlSortCmp.WholeK
import Derived.Test.YtgakninlhfkkmaaGreatProg
import Derived.Sort.LotA
namespace Go.Proofs.YtgakninlhfkkmaaGreat.Sh
abbrev qW:=@Cp.cons
abbrev vK:=@Rd.zero
abbrev vX:=@Cp.nil
abbrev wb:=@AP.nrm_cells
abbrev wj:=@AH.nrm_all
abbrev wm:=@Cp.rd
open Proofs
set_option maxRecDepth 10000
section
variable (g : Bool → AF → AF) (sc : BH) (u : AF → Bool)
def au (T:Int->Prop) (mid:Bool) (N:Nat) (l r:List AB):Prop:=Gx u r=Gx (λh=>u (g mid h)) l/\Dp N r/\GJ T N r
theorem dE {T:Int->Prop} {N:Nat} {it:Int->List AB->Bool->Unit->List AB×Unit} {mid:Bool} {x:AB} (hg:Nn T N x) (t:O6 N x) (i:x.kind=6->au g u T mid N x.flow (it x.id x.flow mid ()).1)
 (j:x.kind=7->∀r∈x.rows,∀c∈r.cells,au g u T mid N c.flow (it c.id c.flow mid ()).1):
 AB.wt u (NA g it mid x)=AB.wt (λh=>u (g mid h)) x/\O6 N (NA g it mid x)/\Nn T N (NA g it mid x):=by
 obtain⟨q,s,g3,m⟩:=hg;obtain⟨⟨n,o⟩,d3,p⟩:=t;have a1:(NA g it mid x).kind=x.kind/\(NA g it mid x).text=x.text/\(NA g it mid x).id=x.id/\(NA g it mid x).head=g mid x.head/\(NA g it mid x).flow=(if x.kind=6 then(it x.id x.flow mid ()).1 else x.flow)/\(NA g it mid x).rows=(if x.kind=7 then x.rows.map (Sb g it mid)else x.rows):=⟨rfl,rfl,rfl,rfl,rfl,rfl⟩
 obtain⟨a1,a2,a3,a4,a5,f⟩:=a1;refine⟨?_,⟨⟨by rw[a2];exact n,λk=>?_⟩,λk=>?_,λk r d=>?_⟩,λk=>?_,λk=>?_,?_,λr d c hc=>?_⟩;rw[JI,JI,a1,a2,a4,a5,f];by_cases k6:x.kind=6;have e:=(i k6).1;simp only[k6,if_true,show ¬(6:Int)=1 by decide,show ¬(6:Int)=7 by decide,if_false,JJ,e];by_cases k7:x.kind=7;simp only[k7,if_true,show ¬(7:Int)=1 by decide,show ¬(7:Int)=6 by decide,if_false,NC,ke];congr 3;refine qL λr d=>?_;have hc:=j k7 r d;cases r with
 | mk rh rc =>
  simp only[Function.comp,Sb];rw[AP.wt,AP.wt,Km,Km,ke];congr 2;refine qL λc l=>?_;have e:=(hc c l).1;cases c with
  | mk ci ch cf=>
   simp only[Function.comp,Vk];rw[AH.wt,AH.wt,JJ,JJ];rw[show(AH.mk ci ch cf).flow=cf from rfl,show(AH.mk ci ch cf).id=ci from rfl]at e;rw[show(AH.mk ci ch cf).flow=cf from rfl,show(AH.mk ci ch cf).id=ci from rfl,e];rfl
 simp only[k6,k7,if_false];rw[a1]at k;rw[f,if_pos k];simpa using o k;rw[a1]at k;rw[a5,if_pos k];exact(i k).2.1;rw[a1]at k;rw[f,if_pos k]at d;obtain⟨r0,a,rfl⟩:=ql.1 d;have e:(Sb g it mid r0).cells=r0.cells.map (Vk g it mid):=rfl;rw[e];refine⟨by simpa using(p k r0 a).1,λc hc=>?_⟩;obtain⟨c0,b,rfl⟩:=ql.1 hc;exact(j k r0 a c0 b).2.1;rw[a1]at k;rw[f,if_neg k];exact q k;rw[a1]at k;rw[a3];exact s k;rw[a5];split;rename_i k;exact(i k).2.2;exact g3;rw[f]at d;split at d;rename_i k;obtain⟨r0,a,rfl⟩:=ql.1 d;have e:(Sb g it mid r0).cells=r0.cells.map (Vk g it mid):=rfl;rw[e]at hc;obtain⟨c0,b,rfl⟩:=ql.1 hc;exact⟨(m r0 a c0 b).1,(j k r0 a c0 b).2.2⟩;exact m r d c hc
theorem XA {T:Int->Prop} {N:Nat} {it:Int->List AB->Bool->Unit->List AB×Unit} {mid:Bool} {l:List AB} (hg:GJ T (N+1) l) (d:Dp (N+1) l)
 (h:∀id f,(T id)->GJ T N f->Dp N f->au g u T mid N f (it id f mid ()).1):au g u T mid (N+1) l (A8 (gF g) it mid l ()).1:=by
 rw[Ej];have one:∀x∈l,_:=λx a=>dE g u (it:=it) (mid:=mid) (hg x a) (d x a) (λk=>h _ _ ((hg x a).2.1 k) (hg x a).2.2.1 ((d x a).2.1 k)) (λk r e c hc=>h _ _ ((hg x a).2.2.2 r e c hc).1 ((hg x a).2.2.2 r e c hc).2 (((d x a).2.2 k r e).2 c hc));refine⟨?_,λy b=>?_,λy b=>?_⟩;clear hg d
 induction l with
 | nil=>rfl
 | cons x l ih=>rw[qr,H0,H0,(one x (by simp)).1,ih λy b=>one y (by simp[b])]
 obtain⟨x,a,rfl⟩:=ql.1 b;exact(one x a).2.1;obtain⟨x,a,rfl⟩:=ql.1 b;exact(one x a).2.2
end
theorem SN {α:Type} (W:List α) (a b:Nat) (h1:a<=b) (_h2:b<=W.length):(W.take a).drop 0++(W.take b).drop a++(W.take W.length).drop b=W:=by
 rw[vt,qm];have:W.take a++(W.take b).drop a=W.take b:=by
  have e:W.take a=(W.take b).take a:=by rw[List.take_take,kL h1]
  rw[e,qM]
 rw[this,qM]
section
variable (g : Bool → AF → AF) (sc : BH)
theorem HS {id:Int} {l:List AB} {N:Nat} (c:Dp (N+1) l):F9 sc id l false=true↔id=sc.id/\0<=sc.a/\sc.a<=sc.b/\sc.b<=BQ l:=by
 unfold F9;rw[DQ c];simp[and_assoc]
theorem Vx {T:Int->Prop} {N:Nat} {a b:List AB} (h1:Dp (N+1) a/\GJ T (N+1) a) (h2:Dp (N+1) b/\GJ T (N+1) b):Dp (N+1) (a++b)/\GJ T (N+1) (a++b):=
 ⟨λx c=>(qd.1 c).elim (h1.1 x) (h2.1 x),λx c=>(qd.1 c).elim (h1.2 x) (h2.2 x)⟩
theorem RS {T:Int->Prop}:∀(N:Nat) (id:Int) (l:List AB) (mid:Bool),GJ T N l->Dp N l->au g (λ_=>false) T mid N l (AT (gF g) sc N id l mid ()).1
 | 0,_,_,_,_,h=>h.elim
 | N+1,id,l,mid,hg,c=>by
  have P:∀mid l,GJ T (N+1) l->Dp (N+1) l->au g (λ_=>false) T mid (N+1) l (A8 (gF g) (AT (gF g) sc N) mid l ()).1:=λmid l hg c=>XA g _ hg c λid f _ hg c=>RS N id f mid hg c;rw[AT];split;rename_i i;have n:mid=false:=by unfold F9 at i;cases mid;rfl;simp at i
  subst n;obtain⟨_,d,o,k3⟩:=(HS sc c).1 i;have j:=P false _ (KI 0 sc.a hg) (C6 0 sc.a (by omega) d c);have k:=P true _ (KI sc.a sc.b hg) (C6 sc.a sc.b d (by omega) c);have m:=P false _ (KI sc.b (BF l).1 hg) (C6 sc.b (BF l).1 (by omega) (by rw[DQ c];dsimp only;omega) c);have hL:=LS (λ_=>false) l;have e:=Vx (Vx j.2 k.2) m.2;refine⟨?_,e⟩;rw[E7,E7,j.1,k.1,m.1];rw[OK _ c 0 sc.a (by omega) d (by omega),OK _ c sc.a sc.b d o k3,OK _ c sc.b (BF l).1 (by omega) (by rw[DQ c];exact k3) (by rw[DQ c];exact Int.le_refl _)];have hn:(BF l).1.toNat=(Gx (λ_=>false) l).length:=by rw[DQ c];dsimp only;omega
  rw[hn];exact SN (Gx (λ_=>false) l) _ _ (by omega) (by omega);exact P mid l hg c
variable (u v : AF → Bool) (w : Bool)
theorem Y2 {N:Nat} {x:AB} (h:O6 N x):val (AB.nrm x):=by
 obtain⟨⟨h1,h2⟩,h6,c⟩:=h;obtain⟨a,_,_,b,_,_,_⟩:=kB x;refine⟨by rw[b];exact h1,λk=>?_⟩;rw[a]at k;rw[HE λr d=>(c k r d).1];simpa using h2 k
end
def M8 (hp:AF->Prop) (L T:Nat):Nat->List AB->Prop
 | 0,_=>False
 | N+1,l=>l.length<=L/\Ak l<=T/\∀x∈l,hp x.head/\M8 hp L T N x.flow/\x.rows.length<=L/\∀r∈x.rows,hp r.head/\r.cells.length<=L/\∀c∈r.cells,hp c.head/\M8 hp L T N c.flow
def bA (hp:AF->Prop) (L T N:Nat) (x:AB):Prop:=hp x.head/\M8 hp L T N x.flow/\x.rows.length<=L/\∀r∈x.rows,hp r.head/\r.cells.length<=L/\∀c∈r.cells,hp c.head/\M8 hp L T N c.flow
theorem TN {hp:AF->Prop} {L T N:Nat} {l:List AB}:M8 hp L T (N+1) l↔l.length<=L/\Ak l<=T/\∀x∈l,bA hp L T N x:=Iff.rfl
theorem QD {hp:AF->Prop} {L T K:Nat} (h1:L<=K) (h2:T<=K):∀{N:Nat} {l:List AB},M8 hp L T N l->Dq hp K N l
 | N+1,l,H=>⟨by have:=H.1;omega,by have:=H.2.1;omega,λx f=>by
  obtain⟨a,b,c,d⟩:=H.2.2 x f;exact⟨a,QD h1 h2 b,by omega,λr e=>⟨(d r e).1,by have:=(d r e).2.1;omega,λc hc=>⟨((d r e).2.2 c hc).1,QD h1 h2 ((d r e).2.2 c hc).2⟩⟩⟩⟩
theorem M9 {hp hp':AF->Prop} (e:∀x,hp x->hp' x) {L T g T':Nat} (h1:L<=g) (h2:T<=T'):∀{N:Nat} {l:List AB},M8 hp L T N l->M8 hp' g T' N l
 | N+1,l,H=>⟨by have:=H.1;omega,by have:=H.2.1;omega,λx h=>by
  obtain⟨a,b,c,d⟩:=H.2.2 x h;exact⟨e _ a,M9 e h1 h2 b,by omega,λr f=>⟨e _ (d r f).1,by have:=(d r f).2.1;omega,λc hc=>⟨e _ ((d r f).2.2 c hc).1,M9 e h1 h2 ((d r f).2.2 c hc).2⟩⟩⟩⟩
theorem RY {hp:AF->Prop} {L T N:Nat} {x:AB} (H:bA hp L T N x) (t:ByteArray):bA hp L T N (.mk x.kind x.code x.id t x.head x.flow x.rows):=by cases x;exact H
theorem JY {hp:AF->Prop} {L T:Nat}:∀{N:Nat} {l:List AB},M8 hp L T N l->M8 hp L T N (AO l)
 | N+1,l,H=>by
  rw[TN]at H ⊢;unfold AO Cy;rw[kM];refine⟨?_,?_,?_⟩;have:=KE (l.map AB.nrm) [];simp at this;omega;have:=KG (l.map AB.nrm) [];have e:Ak (l.map AB.nrm)=Ak l:=by simp only[Ak,ke];congr 1;exact qL λx _=>by simp only[Function.comp_apply,(kB x).2.2.2.1]
  have k:Ak []=0:=rfl;rw[e,k]at this;omega;refine Gr (p:=bA hp L T N) (λx t h=>RY h t) _ _ (λy g=>by cases g) λy g=>?_;obtain⟨x,q,rfl⟩:=ql.1 g;obtain⟨a,b,c,d⟩:=H.2.2 x q;obtain⟨_,_,_,_,m,n,i⟩:=kB x;refine⟨by rw[m];exact a,by rw[n];exact JY b,?_,?_⟩;rw[i];have:=kr (λr=>!decide (r.cells.length=0)) (x.rows.map AP.nrm);simp only[qf]at this;omega;rw[i];intro r o;obtain⟨r0,h0,rfl⟩:=ql.1 (kD.1 o).1;obtain⟨u,v,w⟩:=d r0 h0;have f:(AP.nrm r0).head=r0.head/\(AP.nrm r0).cells=r0.cells.map AH.nrm:=by cases r0;rw[AP.nrm,vY];exact⟨rfl,rfl⟩
  refine⟨by rw[f.1];exact u,by rw[f.2,qf];exact v,?_⟩;rw[f.2];intro c hc;obtain⟨c0,h1,rfl⟩:=ql.1 hc;obtain⟨s,z⟩:=w c0 h1;have j:(AH.nrm c0).head=c0.head/\(AH.nrm c0).flow=AO c0.flow:=by cases c0;rw[AH.nrm];exact⟨rfl,rfl⟩
  exact⟨by rw[j.1];exact s,by rw[j.2];exact JY z⟩
theorem PR {hp:AF->Prop} {L T N:Nat} {l:List AB} (cu:Int) (H:M8 hp L T (N+1) l):M8 hp L T (N+1) (Ad l cu).1/\M8 hp L T (N+1) (Ad l cu).2:=by
 rw[TN]at H;have h1:=D9 l cu;have h2:=Lc l cu _ (qa _);have a:=Hk (p:=bA hp L T N) (λx t h=>RY h t) l cu H.2.2 _ (qa _);rw[qm]at h2;exact⟨⟨by omega,by have:=h2.1;unfold Ad;omega,a.1⟩,⟨by omega,by have:=h2.2;unfold Ad;omega,a.2⟩⟩
theorem N1 {hp:AF->Prop} {L T N:Nat} {l:List AB} (a b:Int) (H:M8 hp L T (N+1) l):M8 hp L T (N+1) (Ab l a b).1:=by
 unfold Ab;split;exact JY (PR a (PR b H).1).2;exact⟨by simp,by simp[Ak],by simp⟩
theorem Na (l:List AB) (cu:Int):∀k,k<=l.length->Ak (CV l cu k).1+Ak (CV l cu k).2<=Ak (l.take k)
 | 0,_=>by simp[CV,Ak]
 | k+1,h=>by
  rw[Fx l cu k h,qb h,Bn];have h1:=Na l cu k (by omega);have a:∀x:AB,Ak [x]=x.text.size:=by simp[Ak]
  rw[a];unfold B7;dsimp only;split;dsimp only;rw[Bn,a];omega;split;dsimp only;rw[Bn,a];omega;dsimp only;rw[Bn,Bn,a,a];have e:∀(x:AB) t,(x.setText t).text=t:=λ_ _=>rfl;rw[e,e,ByteArray.size_extract,ByteArray.size_extract];omega
theorem J9 {l:List AB} {n:Int} (h:∀k,k<=l.length->BQ (l.take k)<=n):∀k,k<=l.length->CV l n k=(l.take k,[])
 | 0,_=>by simp[CV]
 | k+1,hk=>by
  rw[Fx l n k hk,J9 h k (by omega)];have h1:=h (k+1) hk;rw[qb hk,GA]at h1;simp only[BQ]at h1;unfold B7;dsimp only;rw[if_pos (by omega),qb hk]
theorem Mb (l:List AB) (k:Nat):BQ (l.take k)<=BQ l:=by
 have h1:=LS (λ_=>false) (l.take k);have h2:=LS (λ_=>false) l;have a:Gx (λ_=>false) l=Gx (λ_=>false) (l.take k)++Gx (λ_=>false) (l.drop k):=by rw[<-E7,qM]
 rw[a,qq]at h2;omega
theorem Rc (l:List AB):Ak (AO l)<=Ak l:=by
 have:=KG (l.map AB.nrm) [];have e:Ak (l.map AB.nrm)=Ak l:=by simp only[Ak,ke];congr 1;exact qL λx _=>by simp only[Function.comp_apply,(kB x).2.2.2.1]
 have a:Ak []=0:=rfl;unfold AO Cy;rw[kM];rw[e,a]at this;omega
theorem Rx (l:List AB) (a b:Int) (hl:(BF l).1=BQ l):Ak (Ab l 0 a).1+Ak (Ab l a b).1+Ak (Ab l b (BF l).1).1<=2*Ak l:=by
 have d:∀l cu,Ak (Ad l cu).1+Ak (Ad l cu).2<=Ak l:=λl cu=>by
  have:=Na l cu l.length (qa _);rw[qm]at this;exact this
 have c:(Ad l (BF l).1).1=l:=by
  unfold Ad;rw[J9 (λk _=>by rw[hl];exact Mb l k) _ (qa _),qm]
 have s:∀a b,Ak (Ab l a b).1<=Ak (Ad (Ad l b).1 a).2:=λa b=>by
  unfold Ab;split;exact Rc _;simp[Ak]
 have s1:=s 0 a;have s2:=s a b;have s3:=s b (BF l).1;rw[c]at s3;have e1:=d l a;have e2:=d (Ad l a).1 0;have e3:=d l b;have e4:=d (Ad l b).1 a;omega
section
variable {hp hp' : AF → Prop} (g : Bool → AF → AF) (sc : BH)
theorem NB (it:Int->List AB->Bool->Unit->List AB×Unit) (mid:Bool) (l:List AB):Ak (l.map (NA g it mid))=Ak l:=by
 simp only[Ak,ke];congr 1
theorem Nt (hg:∀h mid,hp h->hp' (g mid h)) (m:∀h,hp h->hp' h) {L T:Nat}:∀(N:Nat) (id:Int) (l:List AB) (mid:Bool),Dp N l->M8 hp L T N l->M8 hp' (3*L) (2*T) N (AT (gF g) sc N id l mid ()).1
 | 0,_,_,_,h,_=>h.elim
 | N + 1, id, l, mid, i, H => by
  have P:∀mid l,Dp (N+1) l->M8 hp L T (N+1) l->∀y∈l.map (NA g (AT (gF g) sc N) mid),bA hp' (3*L) (2*T) N y:=λmid l i H y C=>by
   obtain⟨x,f,rfl⟩:=ql.1 C;obtain⟨a,b,c,d⟩:=H.2.2 x f;have t:(NA g (AT (gF g) sc N) mid x).rows=(if x.kind=7 then x.rows.map (Sb g (AT (gF g) sc N) mid)else x.rows):=rfl;have a5:(NA g (AT (gF g) sc N) mid x).flow=(if x.kind=6 then(AT (gF g) sc N x.id x.flow mid ()).1 else x.flow):=rfl;refine⟨hg _ _ a,?_,?_,λr p=>?_⟩;rw[a5];split;rename_i k;exact Nt hg m N _ _ _ ((i x f).2.1 k) b;exact M9 m (by omega) (by omega) b;rw[t];split;rw[qf];omega;omega;rw[t]at p;split at p;rename_i k;obtain⟨r0,o,rfl⟩:=ql.1 p;obtain⟨q,A,n⟩:=d r0 o;have e:(Sb g (AT (gF g) sc N) mid r0).cells=r0.cells.map (Vk g (AT (gF g) sc N) mid):=rfl;refine⟨hg _ _ q,by rw[e,qf];omega,λc hc=>?_⟩;rw[e]at hc;obtain⟨c0,j,rfl⟩:=ql.1 hc;exact⟨hg _ _ (n c0 j).1,Nt hg m N _ _ _ (((i x f).2.2 k r0 o).2 c0 j) (n c0 j).2⟩;obtain⟨q,A,n⟩:=d r p;exact⟨m _ q,by omega,λc hc=>⟨m _ (n c hc).1,M9 m (by omega) (by omega) (n c hc).2⟩⟩
  rw[AT];split;rename_i s;have B:mid=false:=by unfold F9 at s;cases mid;rfl;simp at s
  subst B;obtain⟨_,v,k2,k3⟩:=(HS sc i).1 s;have u:=DQ i;have w:=N1 0 sc.a H;have z:=N1 sc.a sc.b H;have z3:=N1 sc.b (BF l).1 H;have D:=P false _ (C6 0 sc.a (by omega) v i) w;have E:=P true _ (C6 sc.a sc.b v (by omega) i) z;have F:=P false _ (C6 sc.b (BF l).1 (by omega) (by rw[u];dsimp only;omega) i) z3;have ht:=Rx l sc.a sc.b (by rw[u]);have hT:=H.2.1;dsimp only;rw[Ej,Ej,Ej];refine⟨?_,?_,λx f=>?_⟩;have:=w.1;have:=z.1;have:=z3.1;simp only[qq,qf];omega;rw[Bn,Bn,NB,NB,NB];omega;rcases qd.1 f with f|f;rcases qd.1 f with f|f;exact D x f;exact E x f;exact F x f;rw[Ej];refine⟨by rw[qf];have:=H.1;omega,by rw[NB];have:=H.2.1;omega,P mid l i H⟩
end
theorem UB {l:List Bs} {i:Nat} (h:i<l.length):H3 l i∈l:=by
 have:H3 l i=l[i]:=by simp[H3,List.getD,h]
 rw[this];exact qi h
theorem Va {l:List Bs} {j:Nat} (h:j+1<l.length) (x:Bs):x∈JG l j↔x∈l:=by
 have b:H3 l j=l[j]:=by simp[H3,List.getD,show j<l.length by omega]
 have c:H3 l (j+1)=l[j+1]:=by simp[H3,List.getD,h]
 unfold JG;have d1:l.getD j ao=l[j]:=b;have d2:l.getD (j+1) ao=l[j+1]:=c;constructor;intro a;rcases List.mem_or_eq_of_mem_set a with a|rfl;rcases List.mem_or_eq_of_mem_set a with a|rfl;exact a;exact UB (by omega);exact UB h;intro a;obtain⟨i,hi,rfl⟩:=kW.1 a;rw[List.mem_iff_getElem?];by_cases c1:i=j;subst c1;exact⟨i+1,by rw[List.getElem?_set_ne (by omega),List.getElem?_set_self (by omega)];exact congrArg some b⟩;by_cases d:i=j+1;subst d;exact⟨j,by rw[List.getElem?_set_self (by rw[List.length_set];omega)];exact congrArg some c⟩;exact⟨i,by rw[List.getElem?_set_ne (by omega),List.getElem?_set_ne (by omega)];simp[hi]⟩
theorem Pe:∀(j:Nat) {l:List Bs},j<l.length->∀x,x∈Fj l j↔x∈l
 | 0,_,_,x=>by rw[Fj]
 | j+1,l,h,x=>by
  rw[Fj];split;rw[Pe j (by rw[L4];omega),Va h];rfl
theorem FP (l:List Bs):∀i,i<=l.length->∀x,x∈Co l i↔x∈l
 | 0,_,x=>by rw[Co]
 | i+1,h,x=>by rw[Co,Pe i (by rw[Gv];omega),FP l i (by omega)]
section
variable {m2 : List Int} {rev nx : Int}
theorem XH {h:AF} {r:Int}:(∃d∈(E3 (λy=>y==rev) nx h).dels,d.rev=r)↔∃d∈h.dels,(if d.rev=rev then nx else d.rev)=r:=by
 have e:(E3 (λy=>y==rev) nx h).dels=Co (h.dels.map (Ba (λy=>y==rev) nx)) h.dels.length:=rfl;rw[e];constructor;rintro⟨d,a,b⟩;rw[FP _ _ (by rw[qf];exact qa _)]at a;obtain⟨c,h0,rfl⟩:=ql.1 a;exact⟨c,h0,by simpa[Ba,ED]using b⟩;rintro⟨d,a,b⟩;exact⟨Ba (λy=>y==rev) nx d,(FP _ _ (by rw[qf];exact qa _) _).2 (List.mem_map_of_mem a),by simpa[Ba,ED]using b⟩
theorem TX {h:AF} {r:Int}:(∃d∈(E3 (λy=>y==rev) nx h).layers,d.rev=r)↔∃d∈h.layers,(if d.rev=rev then nx else d.rev)=r:=by
 have e:(E3 (λy=>y==rev) nx h).layers=h.layers.map (Bp (λy=>y==rev) nx):=rfl;rw[e];constructor;rintro⟨d,a,b⟩;obtain⟨c,h0,rfl⟩:=ql.1 a;exact⟨c,h0,by simpa[Bp,ED]using b⟩;rintro⟨d,a,b⟩;exact⟨Bp (λy=>y==rev) nx d,List.mem_map_of_mem a,by simpa[Bp,ED]using b⟩
theorem Yp {h:AF}:(E3 (λy=>y==rev) nx h).ins=if h.ins≠0/\h.ins=rev then nx else h.ins:=by
 have e:(E3 (λy=>y==rev) nx h).ins=B9 (λy=>y==rev) nx h.ins:=rfl;rw[e,B9];simp
theorem aY {h:AF} (H:HK m2 h):HK (nx::m2) (E3 (λy=>y==rev) nx h):=by
 obtain⟨a,H⟩:=H;have e:(E3 (λy=>y==rev) nx h).dels=Co (h.dels.map (Ba (λy=>y==rev) nx)) h.dels.length:=rfl;have c:(E3 (λy=>y==rev) nx h).dels.length=h.dels.length:=by rw[e,Gv,qf]
 have f:(E3 (λy=>y==rev) nx h).layers.length=h.layers.length:=qf _;refine⟨⟨a.props,by rw[c];exact a.dels,by rw[f];exact a.layers⟩,⟨?_,by rw[c];exact H.dlen,λx b=>?_,by rw[f];exact H.llen,λx b=>?_⟩⟩;rw[Yp];split;exact .inr (by simp);rcases H.ins with e|e;exact .inl e;exact .inr (by simp[e]);obtain⟨d,h1,h2⟩:=(XH (h:=h) (rev:=rev) (nx:=nx)).1 ⟨x,b,rfl⟩;rw[<-h2];split;simp;simp[H.dels d h1];obtain⟨d,h1,h2⟩:=(TX (h:=h) (rev:=rev) (nx:=nx)).1 ⟨x,b,rfl⟩;rw[<-h2];split;simp;simp[H.layers d h1]
theorem K3 {h:AF} (H:HK m2 h):HK (nx::m2) h:=
 ⟨H.1,⟨H.2.ins.imp id λe=>by simp[e],H.2.dlen,λx a=>by simp[H.2.dels x a],H.2.llen,λx a=>by simp[H.2.layers x a]⟩⟩
end
section
variable (g : Bool → AF → AF) (sc : BH)
end
theorem Mt {c:Nat->Int} {k n:Nat} (h1:∀m,m<k->c m<0) (h2:∀m,k<=m->m<n->¬c m<0):∀(d i j:Nat),j-i<=d->i<=k->k<=j->j<=n->EI c i j=k
 | d,i,j,hd,hi,hj,hn=>by
  rw[EI];split;rename_i hij;cases d with
  | zero=>omega
  | succ d=>
   split;rename_i hc;refine Mt h1 h2 d _ j (by omega) ?_ hj hn;rcases kh ((i+j) / 2) k with h|h;omega;exact absurd hc (h2 _ h (by omega));rename_i hc;refine Mt h1 h2 d i _ (by omega) hi ?_ (by omega);rcases kh ((i+j) / 2) k with h|h;exact absurd (h1 _ h) hc;exact h
  omega
theorem Qx {f:Nat->Int} {n:Nat} {x:Int} (d:∀i j,i<=j->j<n->f i<=f j) (p:∃j,j<n/\f j=x) {c:Nat->Int} (hc:∀i,i<n->(c i<0↔f i<x)/\(c i=0↔f i=x)):(Az c n).2=true:=by
 obtain⟨j,a,hfj⟩:=p;have key:∀j,j<n->x<=f j->∃k,k<=j/\x<=f k/\∀m,m<k->f m<x:=by
  intro j
  induction j with
  | zero=>intro _ h;exact⟨0,qa _,h,λm b=>by omega⟩
  | succ j ih=>
   intro a h;by_cases hc:x<=f j;obtain⟨k,l,o,k3⟩:=ih (by omega) hc;exact⟨k,by omega,o,k3⟩;exact⟨j+1,qa _,h,λm b=>by have:=d m j (by omega) (by omega);omega⟩
 obtain⟨k,l,o,k3⟩:=key j a (by omega);have g:k<n:=by omega
 have e:f k=x:=by have:=d k j l a;omega
 have hg:EI c 0 n=k:=Mt (λm b=>(hc m (by omega)).1.2 (k3 m b)) (λm h1 h2=>by rw[(hc m h2).1];have:=d k m h1 h2;omega) n 0 n (by omega) (qg _) (by omega) (qa _);unfold Az;rw[hg];simp only[decide_eq_true_eq];exact⟨g,(hc k g).2.2 e⟩
theorem N0 {U:List Int} (d:U.Pairwise (· ≤ ·)) {x:Int} (g:x∈U):(Az (Js U x) U.length).2=true:=by
 obtain⟨j,b,e⟩:=kW.1 g;refine Qx (f:=λi=>U.getD i 0) (x:=x) (λi k hik c=>?_) ⟨j,b,by simp[b,e]⟩ λi hi=>?_;have h1:U.getD i 0=U[i]'(by omega):=by simp[List.getD,show i<U.length by omega]
 have h2:U.getD k 0=U[k]:=by simp[List.getD,c]
 rw[h1,h2];rcases kh i k with h|h;exact kG.1 d i k (by omega) c h;have:i=k:=by omega
 subst this;omega;have h1:U.getD i 0=U[i]:=by simp[List.getD,hi]
 rw[h1];unfold Js;rw[qe hi];dsimp only;by_cases c1:U[i]<x;rw[if_pos c1];omega;rw[if_neg c1];by_cases a:U[i]=x;rw[if_pos a];omega;rw[if_neg a];omega
theorem SU {d:AG} {x:Int} (h0:x≠0) (e:x∈AB.usL d.flow++d.«end».all):(Az (Js (Gc d) x) (Gc d).length).2=true:=by
 refine N0 ?_ ?_;unfold Gc C9;have:=List.pairwise_mergeSort (le:=λx y:Int=>decide (x<=y)) (λa b c h1 h2=>by simp at *;omega) (λa b=>by simp;omega) ((BU [] (AB.usL d.flow++d.«end».all)).filter λx=>decide (x≠0));exact this.imp λh=>by simpa using h
 unfold Gc C9;rw[List.mem_mergeSort,kD];exact⟨(Id x _ _).2 (.inr e),by simpa using h0⟩
theorem I6 {L:List BC} (h:Ct L=0):∀i j,(a:i<j)->(b:j<L.length)->(L[i]'(by omega)).id<L[j].id:=by
 have hl:¬256<L.length:=λg=>by rw[Ct,if_pos g]at h;cases h
 rw[Ct,if_neg hl]at h;have step:∀i,(hi:i+1<L.length)->(L[i]'(by omega)).id<L[i+1].id:=λi hi=>by
  have:=JK h (i+1) hi;unfold Fg at this;rw[qe hi,Nat.add_sub_cancel,qe (show i<L.length by omega)]at this;dsimp only at this;by_cases e:Cn L[i+1]=0;rw[if_pos e,if_neg (by omega)]at this;unfold GD at this;by_cases c1:L[i+1].id<(L[i]'(by omega)).id;simp[c1]at this;by_cases c:(L[i]'(by omega)).id<L[i+1].id;exact c;simp[c1,c]at this;rw[if_neg e]at this;exact absurd this e
 intro i j
 induction j with
 | zero=>intro a;omega
 | succ j ih=>
  intro a b;rcases kh i j with g|g;have:=ih g (by omega);have:=step j b;omega;have:i=j:=by omega
  subst this;exact step i b
theorem OD {L:List BC} {id:Int} (h:∃r∈L,r.id=id):(CT L id).2=true:=by
 unfold CT;by_cases hc:Ct L=0;rw[if_pos hc];have o:=I6 hc;obtain⟨r,c,e⟩:=h;obtain⟨j,l,n⟩:=kW.1 c;have:(Az (F6 L id) L.length).2=true:=by
  have g:∀i,(hi:i<L.length)->(L.getD i HJ).id=L[i].id:=λi hi=>by simp[List.getD,hi]
  refine Qx (f:=λi=>(L.getD i HJ).id) (x:=id) (λi k hik m=>?_) ⟨j,l,by rw[g j l,n,e]⟩ λi hi=>?_;rw[g i (by omega),g k m];rcases kh i k with q|q;have:=o i k q m;omega;have:i=k:=by omega
  subst this;omega;rw[g i hi];unfold F6 GD;rw[qe hi];dsimp only;by_cases c1:L[i].id<id;rw[if_pos c1];omega;rw[if_neg c1];by_cases d:id<L[i].id;rw[if_pos d];omega;rw[if_neg d];omega
 rw[if_pos this];rw[if_neg hc];obtain⟨r,c,e⟩:=h
 induction L with
 | nil=>cases c
 | cons a L ih =>
  clear hc;have:∀L:List BC,r∈L->(HI id L).2=true:=λL=>by
   induction L with
   | nil=>intro h;cases h
   | cons b L ih=>
    intro h;rw[HI];split;rfl;rename_i hb;rcases qt.1 h with rfl|h;exact absurd e hb;exact ih h
  exact this _ c
abbrev FU:=List ((Int×Int)×(Bool×Bool))
def Md (b:Bool×Bool):SV:=.agg [.bool b.1,.bool b.2]
def CZ (s:FU):List (SV×SV):=s.map λe=>(Gf e.1,Md e.2)
def Lo (v:Bool×Bool) (mid:Bool):Bool×Bool:=(v.1||mid,v.2 || !mid)
def I8:FU->Int×Int->Bool->FU
 | [],k,mid=>[(k,Lo (false,false) mid)]
 | (k',v)::r,k,mid=>if k'=k then(k,Lo v mid)::r else(k',v)::I8 r k mid
def MT (s:FU) (l:List (Int×Int)) (mid:Bool):FU:=l.foldl (λs k=>I8 s k mid) s
def eD (s:FU) (p:CI):FU:=MT s p.head.moves p.mid
theorem jC (a b c d:Int):CS Tryz.prog [.int .i64 a,.int .i64 b] [.int .i64 c,.int .i64 d] (Bt Tryz.prog 89)=some (a==c&&b==d):=by
 rw[Ch,cj];have f:(L6 Tryz.prog 3).isSome=true:=by simp[go_sem]
 have g:Br Tryz.prog 3=1:=by simp[go_sem]
 have e:Gl Tryz.prog 3=some false:=by simp[go_sem]
 have one:∀x y:Int,DX Tryz.prog 3 (.int .i64 x) (.int .i64 y)=some (x==y):=λx y=>by simp[DX,f,g,e]
 simp only[DG,qn,if_false,vw,List.getElem?_cons_succ,one];cases h1:(a==c)<;>cases h2:(b==d)<;>simp
theorem VO (s:FU):∀p∈CZ s,ZM p:=λp hp=>by
 obtain⟨e,_,rfl⟩:=ql.1 hp;exact⟨e.1.1,e.1.2,rfl⟩
theorem OJ (a b:Int) (mid:Bool):∀(s:FU) (i:Nat),
 (Ga Tryz.prog 89 [.int .i64 a,.int .i64 b] (CZ s) i=some none/\CZ (I8 s (a,b) mid)=CZ s++[(Gf (a,b),Md (Lo (false,false) mid))])\/
 ∃j v,Ga Tryz.prog 89 [.int .i64 a,.int .i64 b] (CZ s) i=some (some (i+j,Md v))/\CZ (I8 s (a,b) mid)=JA (CZ s) j (Gf (a,b)) (Md (Lo v mid))
 | [],i=>.inl ⟨rfl,rfl⟩
 | ((c,d),v)::r,i=>by
  have l:CZ (((c,d),v)::r)=(Gf (c,d),Md v)::CZ r:=rfl;rw[l];simp only[Ga,Gf,jC];by_cases e:a=c/\b=d;obtain⟨rfl,rfl⟩:=e;have f:(a==a&&b==b)=true:=by simp
  rw[f];exact .inr ⟨0,v,rfl,by simp[I8,CZ,JA,Gf]⟩;have f:(a==c&&b==d)=false:=by
   cases h1:(a==c)<;>cases h2:(b==d)<;>simp_all
  have k:¬((c,d)=(a,b)):=by
   intro h;cases h;exact e ⟨rfl,rfl⟩
  rw[f];have g:CZ (I8 (((c,d),v)::r) (a,b) mid)=(Gf (c,d),Md v)::CZ (I8 r (a,b) mid):=by
   rw[I8,if_neg k];rfl
  rcases OJ a b mid r (i+1)with⟨h1,h2⟩|⟨j,w,h1,h2⟩
  exact .inl ⟨h1,by rw[g,h2];rfl⟩;exact .inr ⟨j+1,w,by rw[show i+(j+1)=i+1+j by omega];exact h1,by rw[g,h2];rfl⟩
def Qj (k:Nat) (s:FU) (o:Nat):Option Bb:=if o=k then some (.map (CZ s))else if o=k+1 then some (.cells [.map k])else none
theorem Ti (k:Nat) (s:FU) (H:Hp) (h1:H (k+1)=some (.cells [.map k])):BD (Qj k) s H=hset H k (some (.map (CZ s))):=by
 funext j;simp only[BD,Qj,hset];by_cases e:j=k;simp[e];by_cases a:j=k+1;subst a;simp[h1];simp[e,a]
theorem XW (k:Nat) (s:FU):∀o y,Qj k s o=some y->BW (k+2) y=true:=λo y e=>by
 simp only[Qj]at e;split at e;cases e;simp only[BW,ka,CZ,qo];intro p hp;obtain⟨x,_,rfl⟩:=ql.1 hp;exact⟨by simp[Gf,closed,closedL],by simp[Md,closed,closedL]⟩;split at e;cases e;simp[BW,closed,closedL];cases e
set_option maxHeartbeats 4000000 in
theorem ju (k:Nat):Zj (Qj k) (k+2) 43 [] [.ptr (k+1) 0] eD (λh=>h.sized) where
 lt s o h:=by simp only[Qj];rw[if_neg (by omega),if_neg (by omega)]
 dom s d o h:=by
  simp only[Qj]at h ⊢;by_cases L:o=k;rw[if_pos L]at h;cases h;by_cases B:o=k+1;rw[if_neg L,if_pos B]at h;cases h;rw[if_neg L,if_neg B]
 cl s o y h:=XW k s o y h
 call s p H n hp _ hn hs:=by
  refine DO Tryz.func43 rfl λZ=>?_;have a2:H (k+1)=some (.cells [.map k]):=hs (k+1) _ (by simp[Qj]);obtain⟨U,E⟩:∃U:FU->Hp,∀d,U d=BD (Qj k) d H:=⟨_,λ_=>rfl⟩
  have I:∀d,U d k=some (.map (CZ d)):=λd=>by rw[E];simp[BD,Qj]
  have D:∀d,U d (k+1)=some (.cells [.map k]):=λd=>by rw[E];simp[BD,Qj]
  have N:∀d f,hset (U d) k (some (.map (CZ f)))=U f:=λd f=>by rw[E,E,Ti _ _ _ a2,Ti _ _ _ a2];funext j;simp only[hset];grind
  have G:U s=H:=by
   rw[E];funext j;simp only[BD];split;rename_i y e;exact(hs j y e).symm;rfl
  have C:∀d,Gm (U d) n:=λd j y e=>by
   rw[E]at e;simp only[BD]at e;split at e;rename_i z B;have:=XW k d j z B;cases e;simp only[Qj]at B;refine⟨?_,H8 (by omega) this⟩;split at B;omega;split at B;omega;cases B;exact Z j y e
  have A:∀d j y,U d j=some y->j<n:=λd j y e=>(C d j y e).1;have M:∀f,BD (Qj k) f (U s)=U f:=λf=>by rw[G,E]
  rw[<-G];refine Aa 1 [(1,.ptr (k+1) 0),(2,.iptr (p.head.flat++[.bool p.mid,AA p.units]))] (U s) n ?_ (λm Q=>?_);simp[go_sem,CI.enc,AF.flat,IO];refine⟨AZ (AS (A s) (qa n)) (by simp[hset]),AL (A s) AC⟩;have X:p.head.moves.length<=1048577:=by
   have h1:=O8 p.head.dels;have h2:=hp.dels;have h3:p.head.mv0.length<=1:=by unfold AF.mv0;split<;>simp
   simp only[AF.moves,qq];omega
  obtain⟨l,hl⟩:∃l,p.head.moves=l:=⟨_,rfl⟩
  have Y:eD s p=MT s (l.take l.length) p.mid:=by rw[qm,<-hl];rfl
  rw[hl]at X;refine CW 0 [(1,.ptr (k+1) 0),(2,.iptr (p.head.flat++[.bool p.mid,AA p.units])),(8,.imm 2 (l.map Gf) false),(9,AA l.length),(10,AA 0)] (U s) n (AJ ?_) (λm Q=>?_);have c:=iI p.head hp;rw[hl]at c;simp[go_sem,AF.flat];refine qz (by simpa[AF.enc,AF.flat]using c) ?_;simp[go_sem,IO,Q];refine AY (BT 0 (α:=Nat) (λi=>[(1,.ptr (k+1) 0),(2,.iptr (p.head.flat++[.bool p.mid,AA p.units])),(8,.imm 2 (l.map Gf) false),(9,AA l.length),(10,AA i)]) (λi=>U (MT s (l.take i) p.mid))
   (λi m=>i<=l.length/\n<=m) (λi=>l.length-i) 0 ⟨qg _,by omega⟩ ?_ ?_ ?_)
  simp[go_sem,Ao,IO];simp[MT];rintro i m ⟨hi,Q⟩;by_cases F:i<l.length
  . have w1:=wS i (by omega);obtain⟨x,W⟩:∃x,l[i]=x:=⟨_,rfl⟩
    have u:MT s (l.take (i+1)) p.mid=I8 (MT s (l.take i) p.mid) x p.mid:=by
     rw[qb F,W];simp[MT]
    generalize hS:MT s (l.take i) p.mid=S at u;refine B5 0 [(1,.ptr (k+1) 0),(2,.iptr (p.head.flat++[.bool p.mid,AA p.units])),(8,.imm 2 (l.map Gf) false),(9,AA l.length),(10,AA i),(11,.bool true)] (U S) m ?_ (λm2 t=>?_);simp[go_sem,IO,F];subst t;refine B5 0 [(1,.ptr (k+1) 0),(2,.iptr (p.head.flat++[.bool p.mid,AA p.units])),(8,.imm 2 (l.map Gf) false),(9,AA l.length),(10,AA i)] (U S) m ?_ (λm2 t=>?_);simp[go_sem,IO];subst t;refine AX 0 (α:=Unit) (λ_=>[(1,.ptr (k+1) 0),(2,.iptr (p.head.flat++[.bool p.mid,AA p.units])),(8,.imm 2 (l.map Gf) false),(9,AA l.length),(10,AA i)]) (λ_=>U (I8 S x p.mid)) (λ_ m2=>m<=m2) (AY ?_) (λ_ m2 t=>?_)
    . have hb:∀j y,U S j=some y->j<m:=λj y e=>by have:=A S j y e;omega
      refine Aa 1 [(1,.ptr (k+1) 0),(2,.iptr (p.head.flat++[.bool p.mid,AA p.units])),(8,.imm 2 (l.map Gf) false),(9,AA l.length),(10,AA i),(4,.iptr [AA x.1,AA x.2])] (U S) m ?_ (λm2 t=>?_);simp[go_sem,IO,F,W,Gf,AD];exact⟨AZ (AS hb (qa _)) (AD _ _ _),AL hb (AL hb AC)⟩;have hmE:Gf x=.agg [.int .i64 x.1,.int .i64 x.2]:=rfl;obtain⟨v,r,g,K,J⟩:∃(v:Bool×Bool) (r:Option (Nat×SV)),Ga Tryz.prog 89 [.int .i64 x.1,.int .i64 x.2] (CZ S) 0=some r/\(match r with|some pr=>pr.2|none=>BK Tryz.prog 90)=Md v/\
       (match r with|some pr=>JA (CZ S) pr.1 (Gf x) (Md (Lo v p.mid))|none=>CZ S++[(Gf x,Md (Lo v p.mid))])=CZ (I8 S x p.mid):=by
       rcases OJ x.1 x.2 p.mid S 0 with⟨h1,h2⟩|⟨j,w,h1,h2⟩
       exact⟨(false,false),none,h1,by simp[go_sem,Md],h2.symm⟩;exact⟨w,some (0+j,Md w),h1,rfl,by rw[qU];exact h2.symm⟩
      refine AX 0 (α:=Nat) (λq=>[(1,.ptr (k+1) 0),(2,.iptr (p.head.flat++[.bool p.mid,AA p.units])),(8,.imm 2 (l.map Gf) false),(9,AA l.length),(10,AA i),(4,.iptr [AA x.1,AA x.2]),(5,.ptr q 0)]) (λq=>hset (U S) q (some (.cells [.bool v.1,.bool v.2]))) (λq m2=>m<=q/\q<m2) (AJ ?_) (λq m3 R=>?_);simp[go_sem,D];refine QN (q:=k) (a:=x.1) (b:=x.2) rfl (by simp[go_sem]) (I S) (by simp[go_sem]) K g ?_;simp[go_sem,IO,Md,Ah,AD];exact⟨m2,⟨by omega,by omega⟩,IO,AC⟩;obtain⟨T,V⟩:=R;have hUq:U S q=none:=AS hb T;refine Bg 0 [(1,.ptr (k+1) 0),(2,.iptr (p.head.flat++[.bool p.mid,AA p.units])),(8,.imm 2 (l.map Gf) false),(9,AA l.length),(10,AA i),(4,.iptr [AA x.1,AA x.2]),(5,.ptr q 0)] (hset (U S) q (some (.cells [.bool (v.1||p.mid),.bool (v.2 || !p.mid)]))) (λm2=>q<m2) (AJ ?_) (λm4 hm4=>?_)
      . obtain⟨v1,v2⟩:=v;cases v1<;>cases v2<;>cases hmid:p.mid<;>simp[go_sem,AF.flat,AD,Ah]
        all_goals (repeat first|refine nq ?_|refine sq ?_|refine aq ?_)
        all_goals exact V
      refine AJ ?_;have P:k≠q:=by omega
      have O:k+1≠q:=by omega
      simp[go_sem,AE _ _ O,D,AD];refine Mh (q:=k) (a:=x.1) (b:=x.2) rfl (by simp[go_sem]) (by rw[AE _ _ P];exact I S) (by simp[go_sem]) (VO S) J g ?_;simp[go_sem,IO];refine⟨by omega,λj y e=>?_⟩;rw[<-N S]at e;simp only[hset]at e ⊢;have:=A S j y;grind
    refine AJ ?_;simp[go_sem,w1,IO,-Int.natCast_add];exact⟨i+1,by omega,⟨by omega,by omega⟩,IO,by rw[u];exact AC⟩
  have:i=l.length:=by omega
  subst this;refine AJ ?_;simp[go_sem];rw[M,Y,qm];exact DK (C _) (by simp[closed,closedL]) AC
def zD:AG:=⟨[],z0,[],HL⟩
def Gd (rev:Int) (e:(Int×Int)×(Bool×Bool)):Bool:=e.1.1==rev&&(e.2.1&&e.2.2)
def I5 (d:AG) (r:BC):Nat:=(Az (F6 d.revs r.id) d.revs.length).1
def EE (d:AG) (rev:Int) (r:BC) (c:Int×Int×Int) (S:FU) (R:AG):AG×Int:=
 if c.2.2≠0 then(zD,c.2.2)else if Cn r≠0 then(zD,Cn r)else if(CT d.revs r.id).2=true then(zD,7)else if 256<=d.revs.length then(zD,9)
 else if c.1=0\/c.2.1=0 then(zD,11)else if S.any (Gd rev)=true then(zD,24)else(R,0)
theorem Fy (n:Nat) (E:AG) (e:Int):closed n (.tup [E.enc,AA e])=true:=by
 simp[AG.enc,AF.flat,AI.flat,closed,closedL,AB.E.closedL,Bi.E.closedL,Bs.E.closedL,AM.E.closedL,BC.E.closedL,A7.E.closedL,GQ.E.closedL,A9.E.closedL,GY.E.closedL]
theorem Yc {a b:Int×Int} (h:Gf a=Gf b):a=b:=by
 simp only[Gf,SV.agg.injEq,List.cons.injEq,SV.int.injEq,true_and,and_true]at h;exact Prod.ext h.1 h.2
theorem X6 {a b:Bool×Bool} (h:Md a=Md b):a=b:=by
 simp only[Md,SV.agg.injEq,List.cons.injEq,SV.bool.injEq,and_true]at h;exact Prod.ext h.1 h.2
theorem Mf {α:Type} {l:List α} {i:Nat} {x:α} (hi:i<l.length) (h:x∈l) (a:x≠l[i]):x∈l.eraseIdx i:=by
 rw[List.eraseIdx_eq_take_drop_succ];have h1:l=l.take i++l[i]::l.drop (i+1):=by rw[List.getElem_cons_drop,qM]
 rw[h1]at h;simp only[qd,qt]at h ⊢;rcases h with h|h|h;exact .inl h;exact absurd h a;exact .inr h
def OF (S:FU) (rev:Int) (left:List (SV×SV)):Prop:=(∀p∈left,∃e∈S,p=(Gf e.1,Md e.2))/\∀e∈S,Gd rev e=true->(Gf e.1,Md e.2)∈left
theorem OF.start (S:FU) (rev:Int):OF S rev (CZ S):=⟨λp hp=>by obtain⟨e,a,rfl⟩:=ql.1 hp;exact⟨e,a,rfl⟩,λe a _=>ql.2 ⟨e,a,rfl⟩⟩
theorem OF.erase {S:FU} {rev:Int} {left:List (SV×SV)} (H:OF S rev left) {i:Nat} {e:(Int×Int)×(Bool×Bool)} (hw:left[i]? = some (Gf e.1,Md e.2)) (hb:Gd rev e=false):OF S rev (left.eraseIdx i):=by
 obtain⟨d,c⟩:=qh.1 hw;refine⟨λp hp=>H.1 p (List.mem_of_mem_eraseIdx hp),λe' b a=>Mf d (H.2 e' b a) λh=>?_⟩;rw[c]at h;have h1:=Yc (congrArg Prod.fst h);have h2:=X6 (congrArg Prod.snd h);have:e'=e:=Prod.ext h1 h2;rw[this,hb]at a;cases a
theorem VN {G:Hp} {n:Nat} (q:Nat) {y:Option Bb} (hb:∀j z,G j=some z->j<n) (hq:n<=q):∀j z,G j=some z->hset G q y j=some z:=λj z e=>by
 have:=hb j z e;rw[AE _ _ (by omega)];exact e
set_option maxHeartbeats 8000000 in
theorem fK (d:AG) (rev:Int) (sc:BH) (r:BC) (c:Int×Int×Int) (S:FU) (R:AG) (co:PC 13 [d.enc,AA rev,sc.enc] (.tup [AA c.1,AA c.2.1,AA c.2.2])) (hr:d.revs.length<=1048576)
 (jK:∀(k:Nat) (H:Hp) (n:Nat),k+2<=n->(∀o y,Qj k [] o=some y->H o=some y)->BL Tryz.prog 36 [d.enc,sc.enc,.fn (.func 43) [] [.ptr (k+1) 0]] H n (λv h' n'=>v=.tup []/\h'=BD (Qj k) S H/\n'=n))
 (hv:Ct d.revs=0) (hne:c.2.2=0->d.revs≠[])
 (jN:∀(H:Hp) (n:Nat),BL Tryz.prog 49 [.fn (.func 46) [] [.iptr [AA r.id,.str r.author,AA r.time],.iptr [AA rev]],d.enc,sc.enc,BE (FB d.revs (I5 d r) r)] H n (λv h' n'=>v=R.enc/\h'=H/\n'=n)):
 PC 15 [d.enc,AA rev,sc.enc,r.enc] (.tup [(EE d rev r c S R).1.enc,AA (EE d rev r c S R).2]):=by
 intro h n;refine DO Tryz.func15 rfl λD=>?_;have l:=D.lt;obtain⟨X,A⟩:∃X:SV,X=.iptr ([AK d.flow]++d.«end».flat++[BE d.revs]++d.settings.flat):=⟨_,rfl⟩
 obtain⟨C,Q⟩:∃C:SV,C=.iptr [AA sc.id,AA sc.a,AA sc.b]:=⟨_,rfl⟩
 obtain⟨V,J⟩:∃V:SV,V=.iptr [AA r.id,.str r.author,AA r.time]:=⟨_,rfl⟩
 obtain⟨G,T⟩:∃G:Hp,G=hset h (n+4) (some (.cells Cq)):=⟨_,rfl⟩
 have g:G (n+4)=some (.cells Cq):=by rw[T,AD]
 have t:∀j y,G j=some y->j<n+5:=λj y e=>by
  rw[T]at e;simp only[hset]at e;split at e;omega;have:=l j y e;omega
 have x:∀j y,h j=some y->G j=some y:=λj y e=>by have:=l j y e;rw[T,AE _ _ (by omega)];exact e
 have fin:∀(h':Hp) (n':Nat) (e:Int),(∀j y,h j=some y->h' j=some y)->EE d rev r c S R=(zD,e)->CO n h' n' (.tup [.agg Cq,AA e]) (Is (.tup [(EE d rev r c S R).1.enc,AA (EE d rev r c S R).2]) h n):=λh' n' e hh L=>by
  rw[L];refine Dj 3 D hh (.inr ⟨.inr ?_,IO,trivial⟩) (Fy n zD e);exact⟨Bj (by simp),Bj (by simp),IO,IO,Bj (by simp),Bj (by simp),Bj (by simp),Bj (by simp),Bj (by simp),Bj (by simp),Bj (by simp),trivial⟩
 have hz:hset G (n+4) (some (.cells Cq))=G:=by funext j;simp only[hset];split;subst_vars;exact g.symm;rfl
 refine By 1 [(4,X),(5,.iptr [AA rev]),(6,C),(7,V),(8,.ptr (n+4) 0)] G (λm=>n+5<=m) ?_ (λm f=>?_);rw[A,Q,J,T];simp[go_sem,BH.enc,AG.enc,BC.enc,AF.flat,AI.flat,IO,qu,Cq];refine⟨⟨AZ (by simp[hset];exact D.none (by omega)) (by simp[hset]),AZ (by simp[hset];exact D.none (by omega)) (by simp[hset]),AZ (by simp[hset];exact D.none (by omega)) (by simp[hset]),AZ (by simp[hset];exact D.none (by omega)) (by simp[hset])⟩,λj y=>?_⟩;have:=l j y;simp only[hset];grind;refine By 0 [(4,X),(5,.iptr [AA rev]),(6,C),(7,V),(8,.ptr (n+4) 0),(10,AA c.1),(11,AA c.2.1),(12,AA c.2.2)] G (λm=>n+5<=m) ?_ (λm f=>?_);rw[A,Q];simp[go_sem,AF.flat,AI.flat];refine qz (by simpa[BH.enc,AG.enc,AF.flat,AI.flat]using co) ?_;simp[go_sem,IO,f];have keep:=AL (m:=n+4) (y:=some (.cells Cq)) (h:=h) (h':=G) (λj z e=>by have:=l j z e;omega) x;refine Gz ?_;refine By 0 [(4,X),(5,.iptr [AA rev]),(6,C),(7,V),(8,.ptr (n+4) 0),(10,AA c.1),(11,AA c.2.1),(12,AA c.2.2),(30,.bool (c.2.2 !=0))] G (λm=>n+5<=m) ?_ (λm f=>?_);simp[go_sem,IO,f];by_cases a1:c.2.2=0
 rotate_left
 refine Au (b:=true) (by simp[go_sem,a1]) (AJ ?_);simp[go_sem,g,Cq,AD];exact fin _ _ _ keep (by simp[EE,a1]);refine Au (b:=false) (by simp[go_sem,a1]) ?_;simp only[qn,if_false];refine Hi ?_;rw[Fm];refine Gz ?_;refine By 0 [(4,X),(5,.iptr [AA rev]),(6,C),(7,V),(8,.ptr (n+4) 0),(10,AA c.1),(11,AA c.2.1),(13,AA (Cn r))] G (λm=>n+5<=m) ?_ (λm f=>?_);rw[J];simp[go_sem];refine qz (by simpa[BC.enc]using d7 r) ?_;simp[go_sem,IO,f];refine By 0 [(4,X),(5,.iptr [AA rev]),(6,C),(7,V),(8,.ptr (n+4) 0),(10,AA c.1),(11,AA c.2.1),(13,AA (Cn r)),(36,.bool (Cn r !=0))] G (λm=>n+5<=m) ?_ (λm f=>?_);simp[go_sem,IO,f];by_cases a2:Cn r=0
 rotate_left
 refine Au (b:=true) (by simp[go_sem,a2]) (AJ ?_);simp[go_sem,g,Cq,AD];exact fin _ _ _ keep (by simp[EE,a1,a2]);refine Au (b:=false) (by simp[go_sem,a2]) ?_;simp only[qn,if_false];refine Hi ?_;rw[Fm];refine Gz ?_;refine By 0 [(4,X),(5,.iptr [AA rev]),(6,C),(7,V),(8,.ptr (n+4) 0),(10,AA c.1),(11,AA c.2.1),(15,.bool (CT d.revs r.id).2)] G (λm=>n+5<=m) ?_ (λm f=>?_);rw[A,J];simp[go_sem,AF.flat,AI.flat];refine qz (fW d.revs hr r.id) ?_;simp[go_sem,IO,BC.enc,AD,Ah];exact⟨by omega,AL (λj z e=>by have:=t j z e;omega) AC⟩;refine By 0 [(4,X),(5,.iptr [AA rev]),(6,C),(7,V),(8,.ptr (n+4) 0),(10,AA c.1),(11,AA c.2.1),(47,.bool (CT d.revs r.id).2)] G (λm=>n+5<=m) ?_ (λm f=>?_);simp[go_sem,IO,f];cases a3:(CT d.revs r.id).2 with
 | true=>
  refine Au (b:=true) (by simp[go_sem]) (AJ ?_);simp[go_sem,g,Cq,AD];exact fin _ _ _ keep (by simp[EE,a1,a2,a3])
 | false=>
 refine Au (b:=false) (by simp[go_sem]) ?_;simp only[qn,if_false];refine Hi ?_;rw[Fm];refine Gz (AY ?_);refine By 0 [(4,X),(5,.iptr [AA rev]),(6,C),(7,V),(8,.ptr (n+4) 0),(10,AA c.1),(11,AA c.2.1),(49,.bool (decide ((256:Int)<=d.revs.length)))] G (λm=>n+5<=m) ?_ (λm f=>?_);rw[A];simp[go_sem,AF.flat,AI.flat,IO,f];by_cases a4:256<=d.revs.length;have u:(256:Int)<=d.revs.length:=by omega
 refine Au (b:=true) (by simp[go_sem,u]) (AJ ?_);simp[go_sem,g,Cq,AD];exact fin _ _ _ keep (by simp[EE,a1,a2,a3,a4]);have u:¬(256:Int)<=d.revs.length:=by omega
 refine Au (b:=false) (by simp[go_sem,u]) ?_;simp only[qn,if_false];refine By 0 [(4,X),(5,.iptr [AA rev]),(6,C),(7,V),(8,.ptr (n+4) 0),(55,.bool (decide (c.1=0\/c.2.1=0)))] G (λm=>n+5<=m) ?_ (λm f=>?_);by_cases b1:c.1=0;simp[go_sem,b1,IO,f];by_cases U:c.2.1=0;simp[go_sem,b1,U,IO,f];have e2:(c.2.1==0)=false:=by simpa using U
 simp[go_sem,b1,U,e2,IO,f];by_cases a5:c.1=0\/c.2.1=0;refine Au (b:=true) (by simp[go_sem,a5]) (AJ ?_);simp[go_sem,g,Cq,AD];exact fin _ _ _ keep (by simp[EE,a1,a2,a3,a4,a5]);refine Au (b:=false) (by simp[go_sem,a5]) ?_;simp only[qn,if_false];refine Hi ?_;rw[Oe,Fm];refine B8 0 (α:=Nat) (λk=>[(4,X),(5,.iptr [AA rev]),(6,C),(7,V),(8,.ptr (n+4) 0),(16,.ptr (k+1) 0)]) (λk=>hset (hset G k (some (.map []))) (k+1) (some (.cells [.map k]))) (λk m=>n+5<=k/\k+1<m) ?_ (λk m f=>?_);simp[go_sem,IO,Ah,AD];exact⟨m,⟨by omega,by omega⟩,rfl,AC⟩;obtain⟨hk1,hk2⟩:=f;have P:∀o y,Qj k [] o=some y->hset (hset G k (some (.map []))) (k+1) (some (.cells [.map k])) o=some y:=λo y e=>by
  simp only[Qj,CZ,kE]at e;simp only[hset];grind
 have hup:BD (Qj k) S (hset (hset G k (some (.map []))) (k+1) (some (.cells [.map k])))=hset (hset G k (some (.map (CZ S)))) (k+1) (some (.cells [.map k])):=by
  rw[Ti _ _ _ (AD _ _ _)];funext j;simp only[hset];grind
 refine By 0 [(4,X),(5,.iptr [AA rev]),(6,C),(7,V),(8,.ptr (n+4) 0),(16,.ptr (k+1) 0)] (hset (hset G k (some (.map (CZ S)))) (k+1) (some (.cells [.map k]))) (λm=>k+1<m) ?_ (λm f=>?_);rw[A,Q];have F:=jK k _ m (by omega) P;rw[hup]at F;simp[go_sem,AF.flat,AI.flat];refine qP (by simpa[BH.enc,AG.enc,AF.flat,AI.flat]using F) ?_;rintro v H' n' ⟨rfl,rfl,rfl⟩;simp[go_sem,IO,hk2];refine Bg 0 [(4,X),(5,.iptr [AA rev]),(6,C),(7,V),(8,.ptr (n+4) 0)] G (λm=>S.any (Gd rev)=false/\n+5<=m) ?_ (λm f=>?_);refine B8 0 (α:=Nat) (λq=>[(69,.ptr q 0),(4,X),(5,.iptr [AA rev]),(6,C),(7,V),(8,.ptr (n+4) 0)]) (λq=>hset G q (some (.iter (CZ S) none))) (λq m=>n+5<=q/\q<m) ?_ (λq m f=>?_);simp[go_sem,AD];refine Lv (m:=k) (es:=CZ S) rfl (by simp[go_sem]) (by simp[go_sem]) (by simp[hset]) ?_;simp[go_sem,IO];refine⟨m,⟨by omega,by omega⟩,IO,λj y e=>?_⟩;have:=t j y;simp only[hset]at e ⊢;grind;obtain⟨hq1,hq2⟩:=f;refine AY (BT 0 (α:=List (SV×SV)×Option (SV×SV)) (λw=>[(69,.ptr q 0),(4,X),(5,.iptr [AA rev]),(6,C),(7,V),(8,.ptr (n+4) 0)]) (λw=>hset G q (some (.iter w.1 w.2)))
  (λw m=>q<m/\OF S rev w.1) (λw=>w.1.length) (CZ S,none) ⟨hq2,OF.start S rev⟩ ?_ AC ?_)
 simp[Ao,IO];rintro⟨left,last⟩ m2 ⟨M,s⟩;dsimp only at s ⊢;have hGq:∀y,hset G q y (n+4)=some (.cells Cq):=λy=>by rw[AE _ _ (by omega)];exact g
 refine AX 0 (α:=Option (Nat×(SV×SV))) (λw=>[(69,.ptr q 0),(4,X),(5,.iptr [AA rev]),(6,C),(7,V),(8,.ptr (n+4) 0),(71,.bool w.isSome)]) (λw=>hset G q (some (match w with|none=>.iter left last|some w=>.iter (left.eraseIdx w.1) (some w.2))))
  (λw m=>q<m/\match w with|none=>left=[]|some w=>left[w.1]? = some w.2) (AJ ?_) (λw E N=>?_)
 simp[go_sem];refine OG (q:=q) (left:=left) (last:=last) rfl (by simp[go_sem]) (AD _ _ _) (λi hi=>?_) λh0=>?_;simp[go_sem,Ah];exact⟨some (i,left[i]),⟨M,by simp[hi]⟩,IO,AC⟩;simp[go_sem];exact⟨none,⟨M,h0⟩,IO,AC⟩;obtain⟨N,hw⟩:=N;cases w with
 | none =>
  dsimp only at hw;have hS:S.any (Gd rev)=false:=by
   rw[List.any_eq_false];intro e L hb;have:=s.2 _ L hb;rw[hw]at this;cases this
  refine AJ ?_;simp only[Option.isSome_none];rw[hS];simp[go_sem,IO];exact⟨by omega,VN q t hq1⟩
 | some w =>
  obtain⟨i,p⟩:=w;dsimp only at hw ⊢;obtain⟨e,L,rfl⟩:=s.1 p (kC hw);have hb:∀j y,hset G q (some (.iter (left.eraseIdx i) (some (Gf e.1,Md e.2)))) j=some y->j<E:=λj y e=>by
   simp only[hset]at e;split at e;omega;have:=t j y e;omega
  obtain⟨B,I⟩:∃B,B=hset G q (some (.iter (left.eraseIdx i) (some (Gf e.1,Md e.2)))):=⟨_,rfl⟩
  rw[<-I]at hb ⊢;have Y:B q=some (.iter (left.eraseIdx i) (some (Gf e.1,Md e.2))):=by rw[I,AD]
  have Z:B (n+4)=some (.cells Cq):=by rw[I];exact hGq _
  have W:∀j y,h j=some y->B j=some y:=λj y e=>by rw[I];have:=l j y e;rw[AE _ _ (by omega)];exact x j y e
  have q4:E≠E+1:=by omega
  have q5:E+1≠E:=by omega
  refine B5 0 [(69,.ptr q 0),(4,X),(5,.iptr [AA rev]),(6,C),(7,V),(8,.ptr (n+4) 0)] B E ?_ (λm4 hm4=>?_);simp[go_sem,IO];subst hm4;refine AY ?_;refine Bg 1 [(69,.ptr q 0),(4,X),(5,.iptr [AA rev]),(6,C),(7,V),(8,.ptr (n+4) 0),(17,.iptr [AA e.1.1,AA e.1.2]),(18,.iptr [.bool e.2.1,.bool e.2.2])] B (λm=>q<m) (AJ ?_) (λm5 hm5=>?_);simp[go_sem];refine Pc (q:=q) (left:=left.eraseIdx i) (p:=(Gf e.1,Md e.2)) rfl (by simp[go_sem]) Y ?_;simp[go_sem,Gf,Md,AD,AE _ _ q4,AE _ _ q5,IO];refine⟨by omega,⟨AZ (AS hb (by omega)) (by simp only[hset];grind),AZ (AS hb (by omega)) (by simp only[hset];grind)⟩,λj y e=>?_⟩;have:=hb j y e;simp only[hset];grind;refine By 0 [(69,.ptr q 0),(4,X),(5,.iptr [AA rev]),(6,C),(7,V),(8,.ptr (n+4) 0),(86,.bool (Gd rev e))] B (λm=>q<m) ?_ (λm6 hm6=>?_);obtain⟨⟨e1,e2⟩,e3,e4⟩:=e;cases hE:(e1==rev)<;>cases e3<;>cases e4<;>simp[go_sem,hE,Gd,IO,hm5];cases K:Gd rev e with
  | true=>
   have hS:S.any (Gd rev)=true:=vo.2 ⟨e,L,K⟩;refine Au (b:=true) (by simp[go_sem]) (AJ ?_);simp[go_sem,Z,Cq,AD];exact fin _ _ _ (AL (λj z e=>by have:=l j z e;omega) W) (by simp only[EE,a2,a3];simp[a1,a4,a5,hS])
  | false=>
   refine Au (b:=false) (by simp[go_sem]) (AJ ?_);simp[go_sem,IO];have hil:=(qh.1 hw).1;refine⟨left.eraseIdx i,?_,⟨hm6,s.erase hw K⟩,some (Gf e.1,Md e.2),by rw[I];exact AC⟩;rw[List.length_eraseIdx_of_lt hil];omega
 obtain⟨a6,f⟩:=f;have F8:(Az (F6 d.revs r.id) d.revs.length).2=false:=by
  cases e:(Az (F6 d.revs r.id) d.revs.length).2 with
  | false=>rfl
  | true=>simp[CT,hv,e]at a3
 have jM:=b9 d.revs (hne a1) (by omega) r hv a2 (I5 d r) (by have:=Mu (F6 d.revs r.id) 0 d.revs.length (qg _);exact this.2) (Prod.ext rfl F8);have O:EE d rev r c S R=(R,0):=by simp only[EE,a2,a3];simp only[a6];simp[a1,a4,a5]
 rw[O];refine By 0 [(4,X),(5,.iptr [AA rev]),(6,C),(7,V),(8,.ptr (n+4) 0),(19,BE (FB d.revs (I5 d r) r)),(12,AA 0)] G (λm=>n+5<=m) ?_ (λm f=>?_);rw[A,J];simp[go_sem,AF.flat,AI.flat];refine qz (by simpa[BC.enc]using jM) ?_;simp[go_sem,IO,f];refine Bg 0 [(4,X),(5,.iptr [AA rev]),(6,C),(7,V),(8,.ptr (n+4) 0),(19,BE (FB d.revs (I5 d r) r))] G (λm=>n+5<=m) (AJ ?_) (λm f=>?_);simp[go_sem,IO,f];refine By 0 [(4,X),(6,C),(8,.ptr (n+4) 0),(19,BE (FB d.revs (I5 d r) r)),(20,.fn (.func 46) [] [V,.iptr [AA rev]])] G (λm=>n+5<=m) ?_ (λm f=>?_);simp[go_sem,IO,f];refine AJ ?_;rw[A,Q,J];simp[go_sem,AF.flat,AI.flat];refine qP (by simpa[BH.enc,AG.enc,AF.flat,AI.flat]using jN G m) ?_;rintro v H' n' ⟨rfl,rfl,rfl⟩;simp[go_sem,g,Cq,AG.enc,AF.flat,AI.flat,AD];exact A3 D (AL (λj z e=>by have:=l j z e;omega) x) rfl (Fy n R 0)
section
variable (u : AF → Bool) (w : Bool) (sc : BH)
end
theorem L9:∀l:List AB,AB.usL l=l.flatMap AB.us
 | []=>by rw[AB.usL];rfl
 | x::l=>by rw[AB.usL,L9 l];rfl
theorem Ji:∀l:List AP,AP.usL l=l.flatMap AP.us
 | []=>by rw[AP.usL];rfl
 | x::l=>by rw[AP.usL,Ji l];rfl
theorem LN:∀l:List AH,AH.usL l=l.flatMap AH.us
 | []=>by rw[AH.usL];rfl
 | x::l=>by rw[AH.usL,LN l];rfl
def gR (rev nx:Int) (mid:Bool) (h:AF):AF:=if mid then E3 (λy=>y==rev) nx h else h
theorem Hw (rev nx:Int):LG rev nx=gF (gR rev nx):=by funext s p;rfl
def Dl (N:Nat) (d:AG) (rev:Int) (sc:BH) (nx:BC):AG:=(BM (LG rev nx.id) sc N d (FB d.revs (I5 d nx) nx) ()).1
theorem OC {r:BC} (h:Cn r=0):1<=r.id:=by
 unfold Cn at h;split at h;cases h;omega
mutual
def AB.mh (g:AF->AF):AB->AB
 | .mk k c i t h f r=>.mk k c i t (g h) (AB.mhL g f) (AP.mhL g r)
def AB.mhL (g:AF->AF):List AB->List AB
 | []=>[]
 | x::l=>AB.mh g x::AB.mhL g l
def AP.mh (g:AF->AF):AP->AP
 | .mk h c=>.mk (g h) (AH.mhL g c)
def AP.mhL (g:AF->AF):List AP->List AP
 | []=>[]
 | x::l=>AP.mh g x::AP.mhL g l
def AH.mh (g:AF->AF):AH->AH
 | .mk i h f=>.mk i (g h) (AB.mhL g f)
def AH.mhL (g:AF->AF):List AH->List AH
 | []=>[]
 | x::l=>AH.mh g x::AH.mhL g l
end
section
variable (g : AF → AF)
theorem AB.mhL_eq:∀l:List AB,AB.mhL g l=l.map (AB.mh g)
 | []=>by rw[AB.mhL];rfl
 | x::l=>by rw[AB.mhL,AB.mhL_eq l];rfl
theorem AP.mhL_eq:∀l:List AP,AP.mhL g l=l.map (AP.mh g)
 | []=>by rw[AP.mhL];rfl
 | x::l=>by rw[AP.mhL,AP.mhL_eq l];rfl
theorem AH.mhL_eq:∀l:List AH,AH.mhL g l=l.map (AH.mh g)
 | []=>by rw[AH.mhL];rfl
 | x::l=>by rw[AH.mhL,AH.mhL_eq l];rfl
theorem AB.mh_eq (x:AB):AB.mh g x=.mk x.kind x.code x.id x.text (g x.head) (AB.mhL g x.flow) (x.rows.map (AP.mh g)):=by cases x;rw[AB.mh,AP.mhL_eq];rfl
theorem AP.mh_eq (x:AP):AP.mh g x=.mk (g x.head) (x.cells.map (AH.mh g)):=by cases x;rw[AP.mh,AH.mhL_eq];rfl
theorem AH.mh_eq (x:AH):AH.mh g x=.mk x.id (g x.head) (AB.mhL g x.flow):=by cases x;rw[AH.mh];rfl
end
theorem AB.nrm_eq (x:AB):AB.nrm x=.mk x.kind x.code x.id x.text x.head (AO x.flow) ((x.rows.map AP.nrm).filter λr=>!decide (r.cells.length=0)):=by cases x;rw[AB.nrm,AP.nrmL_eq];rfl
theorem AP.nrm_eq (x:AP):AP.nrm x=.mk x.head (x.cells.map AH.nrm):=by cases x;rw[AP.nrm,vY];rfl
theorem AH.nrm_eq (x:AH):AH.nrm x=.mk x.id x.head (AO x.flow):=by cases x;rw[AH.nrm];rfl
def wf (hp:AF->Prop) (T:Int->Prop):Nat->List AB->Prop
 | 0,_=>False
 | N+1,l=>∀x∈l,hp x.head/\(x.kind≠6->x.flow=[])/\(x.kind≠7->x.rows=[])/\(x.kind=7->x.rows≠[])/\(x.kind=6->T x.id)/\wf hp T N x.flow/\∀r∈x.rows,hp r.head/\r.cells≠[]/\∀c∈r.cells,T c.id/\hp c.head/\wf hp T N c.flow
structure bG (hp:AF->Prop) (T:Int->Prop) (N:Nat) (x:AB):Prop where
 head:hp x.head
 k6:x.kind≠6->x.flow=[]
 k7:x.kind≠7->x.rows=[]
 ne:x.kind=7->x.rows≠[]
 id:x.kind=6->T x.id
 flow:wf hp T N x.flow
 rows:∀r∈x.rows,hp r.head/\r.cells≠[]/\∀c∈r.cells,T c.id/\hp c.head/\wf hp T N c.flow
section
variable {hp hp' : AF → Prop} {T T' : Int → Prop}
theorem DR {N:Nat} {l:List AB}:wf hp T (N+1) l↔∀x∈l,bG hp T N x:=
 ⟨λH x h=>let⟨a,b,c,d,e,f,g⟩:=H x h;⟨a,b,c,d,e,f,g⟩,λH x h=>let⟨a,b,c,d,e,f,g⟩:=H x h;⟨a,b,c,d,e,f,g⟩⟩
theorem Qa (j:∀x,hp x->hp' x) (ht:∀i,T i->T' i):∀{N:Nat} {l:List AB},wf hp T N l->wf hp' T' N l
 | 0,_,h=>h.elim
 | N+1,l,H=>DR.2 λx n=>by
  obtain⟨a,b,c,d,e,f,g⟩:=DR.1 H x n;exact⟨j _ a,b,c,d,λk=>ht _ (e k),Qa j ht f,λr m=>⟨j _ (g r m).1,(g r m).2.1,λc hc=>⟨ht _ ((g r m).2.2 c hc).1,j _ ((g r m).2.2 c hc).2.1,Qa j ht ((g r m).2.2 c hc).2.2⟩⟩⟩
theorem SX {N:Nat} (x:AB) (t:ByteArray) (H:bG hp T N x):bG hp T N (.mk x.kind x.code x.id t x.head x.flow x.rows):=by
 obtain⟨a,b,c,d,e,f,g⟩:=H;exact⟨a,b,c,d,e,f,g⟩
theorem Jl:∀{N:Nat} {l:List AB},wf hp T N l->wf hp T N (AO l)
 | 0,_,h=>h.elim
 | N+1,l,H=>by
  rw[DR]at H ⊢;unfold AO Cy;rw[kM];refine Gr (p:=bG hp T N) SX _ _ (λy i=>by cases i) λy i=>?_;obtain⟨x,j,rfl⟩:=ql.1 i;obtain⟨a,b,c,d,e,f,q⟩:=H x j;have g:=GG λr g=>(q r g).2.1;rw[AB.nrm_eq,g];refine⟨a,λk=>?_,λk=>?_,λk=>?_,e,Jl f,λr g=>?_⟩;show AO x.flow=[];rw[b k];rfl;show x.rows.map _=[];rw[c k];rfl;show x.rows.map _≠[];simpa using d k;obtain⟨r0,h0,rfl⟩:=ql.1 g;obtain⟨u,v,w⟩:=q r0 h0;rw[AP.nrm_eq];refine⟨u,by show r0.cells.map _≠[];simpa using v,λc hc=>?_⟩;obtain⟨c0,h1,rfl⟩:=ql.1 hc;obtain⟨m,n,o⟩:=w c0 h1;rw[AH.nrm_eq];exact⟨m,n,Jl o⟩
theorem Ts (N:Nat):wf hp T (N+1) []:=λx a=>by cases a
theorem Jk {N:Nat} {l:List AB} (cu:Int) (H:wf hp T (N+1) l):wf hp T (N+1) (Ad l cu).1/\wf hp T (N+1) (Ad l cu).2:=by
 rw[DR]at H;rw[DR,DR];exact Hk (p:=bG hp T N) SX l cu H _ (qa _)
theorem Oa {N:Nat} {l:List AB} (a b:Int) (H:wf hp T (N+1) l):wf hp T (N+1) (Ab l a b).1:=by
 unfold Ab;split;exact Jl (Jk a (Jk b H).1).2;exact Ts _
theorem Um {m2:List Int} {K:Nat}:∀{N:Nat} {l:List AB},Xr m2 N l->Dq hp K N l->(∀i∈GU N l,T i)->wf (λh=>hp h/\Hd m2 h) T N l
 | 0,_,_,h,_=>h.elim
 | N + 1, l, hk, hl, hT => DR.2 fun x hx => by
  obtain⟨⟨f6,f7,_⟩,m,j,e,d⟩:=hk x hx;obtain⟨n,g,_,f⟩:=hl.2.2 x hx;have hI:∀i∈GT N x,T i:=λi hi=>hT i (by rw[JW];exact km.2 ⟨x,hx,hi⟩);have nil:wf (λh=>hp h/\Hd m2 h) T N []:=by
   cases N with
   | zero=>exact g.elim
   | succ N=>exact Ts N
  refine⟨⟨n,m⟩,f6,f7,e,λk=>hI _ (by simp[GT,k]),?_,λr a=>?_⟩;by_cases k6:x.kind=6;exact Um j g λi hi=>hI i (by simp[GT,k6,hi]);rw[f6 k6];exact nil;by_cases k7:x.kind=7;refine⟨⟨(f r a).1,(d r a).1.1⟩,(d r a).1.2,λc hc=>?_⟩;have b:∀i,i=c.id\/i∈GU N c.flow->T i:=λi hi=>hI i (by
   simp only[GT,k7,show ¬(7:Int)=6 by decide,if_false,if_true];refine qC _ (km.2 ⟨r,a,km.2 ⟨c,hc,qt.2 hi⟩⟩))
  exact⟨b _ (.inl rfl),⟨((f r a).2.2 c hc).1,((d r a).2 c hc).1⟩,Um ((d r a).2 c hc).2 ((f r a).2.2 c hc).2 λi hi=>b i (.inr hi)⟩;rw[f7 k7]at a;cases a
end
section
variable {hp : AF → Prop} {T : Int → Prop} (g : Bool → AF → AF)
end
section
variable {hp0 : AF → Prop} {m2 : List Int} {g g' : Bool → AF → AF}
end
section
variable {hp : AF → Prop} {T : Int → Prop} {σ : Type} {f : σ → CI → AF × Bool × σ} {rk : σ → Nat} {c : Nat}
end
theorem Ln {Z:List AB} {x:AB} (a:¬BS x):AQ Z x=match Z.getLast? with
 | some y=>if x.kind=1/\y.kind=1/\y.head=x.head then Z.dropLast++[y.addText x.text]else Z++[x]
 | none=>Z++[x]:=by unfold AQ;rw[if_neg a];cases Z.getLast? <;> rfl
theorem Xy (z:AB) (s t:ByteArray):(z.addText s).addText t=z.addText (s++t):=by
 unfold AB.addText;show AB.mk _ _ _ (z.text++s++t) _ _ _=_;rw[ByteArray.append_assoc];rfl
theorem TO {Z:List AB} {w x:AB} (hw:¬BS w) (a:¬BS x) (k:x.kind=1/\w.kind=1/\w.head=x.head):AQ (AQ Z w) x=AQ Z (w.addText x.text):=by
 have nd:¬BS (w.addText x.text):=λc=>by
  rcases c with c|c;have:(w.addText x.text).kind=w.kind:=rfl;rw[this,k.2.1]at c;exact absurd c.1 (by decide);refine hw (.inr ⟨k.2.1,?_⟩);have:(w.text++x.text).size=0:=c.2;rw[kT]at this;omega
 have a1:(w.addText x.text).kind=w.kind/\(w.addText x.text).head=w.head/\(w.addText x.text).text=w.text++x.text:=⟨rfl,rfl,rfl⟩
 have step:∀(Y:List AB) (y:AB),y.kind=1->y.head=x.head->AQ (Y++[y]) x=Y++[y.addText x.text]:=λY y h1 h2=>by
  rw[Ln a,List.getLast?_concat];dsimp only;rw[if_pos ⟨k.1,h1,h2⟩,List.dropLast_concat]
 rw[Ln hw,Ln nd,a1.1,a1.2.1,a1.2.2];cases hl:Z.getLast? with
 | none=>exact step Z w k.2.1 k.2.2
 | some z=>
  dsimp only;by_cases c:w.kind=1/\z.kind=1/\z.head=w.head;rw[if_pos c,if_pos c,step _ _ (show(z.addText w.text).kind=1 from c.2.1) (show(z.addText w.text).head=x.head by show z.head=_;rw[c.2.2,k.2.2]),Xy];rw[if_neg c,if_neg c];exact step Z w k.2.1 k.2.2
theorem PI {h:AB->AB} {P:AB->Prop} (f:∀y,(h y).kind=y.kind) (ht:∀y,(h y).text=y.text) (q:∀a b:AB,a.head=b.head->(h a).head=(h b).head) (p:∀y t,h (y.addText t)=(h y).addText t)
 (n:∀y t,P y->P (y.addText t)) (r:∀y,P y->((h y).rows=[]↔y.rows=[])):∀(m o Z:List AB),(∀y∈o,P y/\¬BS y)->(∀y∈m,P y)->((m.foldl AQ o).map h).foldl AQ Z=(m.map h).foldl AQ ((o.map h).foldl AQ Z)
 | [],_,_,_,_=>rfl
 | x :: m, o, Z, ho, hm => by
  have j:=hm x (qV ..);have i:∀y,P y->(BS (h y)↔BS y):=λy d=>by unfold BS;rw[f,ht,r y d]
  have key:((AQ o x).map h).foldl AQ Z=AQ ((o.map h).foldl AQ Z) (h x)/\∀y∈AQ o x,P y/\¬BS y:=by
   by_cases c:BS x;have u:AQ o x=o:=by unfold AQ;rw[if_pos c]
   have v:∀Y,AQ Y (h x)=Y:=λY=>by unfold AQ;rw[if_pos ((i x j).2 c)]
   rw[u,v];exact⟨rfl,ho⟩;have s:¬BS (h x):=λg=>c ((i x j).1 g);have push:((o++[x]).map h).foldl AQ Z=AQ ((o.map h).foldl AQ Z) (h x)/\∀y∈o++[x],P y/\¬BS y:=by
    refine⟨by rw[qc,jw];rfl,λy d=>?_⟩;rcases qd.1 d with g|g;exact ho y g;rw[qy.1 g];exact⟨j,c⟩
   rw[Ln c];rcases List.eq_nil_or_concat o with e|⟨ys,y,e⟩
   subst e;exact push;rw[List.concat_eq_append]at e;subst e;rw[vg];dsimp only;by_cases k:x.kind=1/\y.kind=1/\y.head=x.head;obtain⟨d,l⟩:=ho y (by simp);rw[if_pos k,vN];refine⟨?_,λz w=>?_⟩;rw[qc,qc,jw,jw];show AQ _ (h (y.addText x.text))=AQ (AQ _ (h y)) (h x);rw[TO (λg=>l ((i y d).1 g)) s ⟨by rw[f];exact k.1,by rw[f];exact k.2.1,q _ _ k.2.2⟩,p,ht];rcases qd.1 w with g|g;exact ho z (by simp[g]);rw[qy.1 g];refine⟨n _ _ d,λg=>l ?_⟩;rcases g with g|g;exact .inl g;refine .inr ⟨g.1,?_⟩;have:(y.text++x.text).size=0:=g.2;rw[kT]at this;omega;rw[if_neg k];exact push
  rw[jy,qr,jy,PI f ht q p n r m _ Z key.2 λy d=>hm y (qC _ d),key.1]
def F3 (P Q:List AB):Prop:=∀Z,(P.map AB.nrm).foldl AQ Z=(Q.map AB.nrm).foldl AQ Z
theorem F3.refl (P:List AB):F3 P P:=λ_=>rfl
theorem F3.symm {P Q:List AB} (h:F3 P Q):F3 Q P:=λZ=>(h Z).symm
theorem F3.trans {P Q R:List AB} (h:F3 P Q) (g:F3 Q R):F3 P R:=λZ=>(h Z).trans (g Z)
theorem F3.app {P P' Q a:List AB} (h:F3 P P') (g:F3 Q a):F3 (P++Q) (P'++a):=λZ=>by
 rw[qc,qc,jw,jw,h,g]
theorem F3.normal {P Q:List AB} (h:F3 P Q):AO P=AO Q:=by
 unfold AO Cy;rw[kM,kM];exact h []
theorem Ye (y:AB) (t:ByteArray):AB.nrm (y.addText t)=(AB.nrm y).addText t:=by rw[AB.nrm_eq,AB.nrm_eq];rfl
theorem aJ (c:AF->AF) (y:AB) (t:ByteArray):AB.mh c (y.addText t)=(AB.mh c y).addText t:=by rw[AB.mh_eq,AB.mh_eq];rfl
section
variable {hp : AF → Prop} {T : Int → Prop}
theorem Ve {N:Nat} {x:AB} (H:bG hp T N x):∀r∈(AB.nrm x).rows,r.cells≠[]:=λr a=>by
 rw[HE λr a=>(H.rows r a).2.1]at a;obtain⟨r0,h0,rfl⟩:=ql.1 a;rw[(wb r0).1];simpa using(H.rows r0 h0).2.1
theorem Lm (c:AF->AF):∀{N:Nat} {l:List AB},wf hp T N l->F3 (AB.mhL c (AO l)) (AB.mhL c l)
 | 0,_,H=>H.elim
 | N + 1, l, H => fun Z => by
  have H:=DR.1 H;have e:∀x∈l,AB.nrm (AB.mh c (AB.nrm x))=AB.nrm (AB.mh c x):=λx f=>by
   have W:=H x f;have h1:=(Lm c W.flow).normal;have h2:((AB.nrm x).rows.map (AP.mh c)).map AP.nrm=(x.rows.map (AP.mh c)).map AP.nrm:=by
    rw[HE λr d=>(W.rows r d).2.1,ke,ke,ke];refine qL λr d=>?_;simp only[Function.comp];rw[AP.nrm_eq r,AP.mh_eq,AP.nrm_eq,AP.mh_eq,AP.nrm_eq];show AP.mk (c r.head) (((r.cells.map AH.nrm).map (AH.mh c)).map AH.nrm)=AP.mk (c r.head) ((r.cells.map (AH.mh c)).map AH.nrm);congr 1;rw[ke,ke,ke];refine qL λq k=>?_;simp only[Function.comp];rw[AH.nrm_eq q,AH.mh_eq,AH.nrm_eq,AH.mh_eq,AH.nrm_eq];show AH.mk q.id (c q.head) (AO (AB.mhL c (AO q.flow)))=AH.mk q.id (c q.head) (AO (AB.mhL c q.flow));rw[(Lm c ((W.rows r d).2.2 q k).2.2).normal]
   obtain⟨f1,f2,f3,f4,f5,f6,_⟩:=kB x;rw[AB.mh_eq c (AB.nrm x),AB.nrm_eq (.mk _ _ _ _ _ _ _),AB.mh_eq c x,AB.nrm_eq (.mk _ _ _ _ _ _ _)];show AB.mk (AB.nrm x).kind (AB.nrm x).code (AB.nrm x).id (AB.nrm x).text (c (AB.nrm x).head) (AO (AB.mhL c (AB.nrm x).flow)) ((((AB.nrm x).rows.map (AP.mh c)).map AP.nrm).filter λr=>!decide (r.cells.length=0))=AB.mk x.kind x.code x.id x.text (c x.head) (AO (AB.mhL c x.flow)) (((x.rows.map (AP.mh c)).map AP.nrm).filter λr=>!decide (r.cells.length=0));rw[h2,f1,f2,f3,f4,f5,f6,h1]
  have j:∀y,(AB.nrm (AB.mh c y)).kind=y.kind:=λy=>by rw[AB.mh_eq,AB.nrm_eq];rfl
  have key:=PI (h:=λy=>AB.nrm (AB.mh c y)) (P:=λy=>∀r∈y.rows,r.cells≠[]) j (λy=>by rw[AB.mh_eq,AB.nrm_eq];rfl) (λa b g=>by
   have:∀y,(AB.nrm (AB.mh c y)).head=c y.head:=λy=>by rw[AB.mh_eq,AB.nrm_eq];rfl
   rw[this,this,g]) (λy t=>by rw[aJ,Ye]) (λy t g=>g) (λy g=>by
   rw[AB.mh_eq,AB.nrm_eq];show((y.rows.map (AP.mh c)).map AP.nrm).filter (λr=>!decide (r.cells.length=0))=[]↔_;rw[GG,vO,vO];intro r d;obtain⟨r0,h0,rfl⟩:=ql.1 d;rw[AP.mh_eq];show r0.cells.map _≠[];simpa using g r0 h0) (l.map AB.nrm) [] Z (λy i=>by cases i) λy i=>by
   obtain⟨x,f,rfl⟩:=ql.1 i;exact Ve (H x f)
  have m:(AB.mhL c (AO l)).map AB.nrm=((l.map AB.nrm).foldl AQ []).map λy=>AB.nrm (AB.mh c y):=by
   unfold AO Cy;rw[AB.mhL_eq,kM,ke];rfl
  rw[m,key,AB.mhL_eq,ke,ke];show(l.map ((λy=>AB.nrm (AB.mh c y)) ∘ AB.nrm)).foldl AQ Z=_;congr 1;exact qL e
end
mutual
theorem AB.mh_id:∀x:AB,AB.mh (λh=>h) x=x
 | .mk ..=>by rw[AB.mh,AB.mhL_id,AP.mhL_id]
theorem AB.mhL_id:∀l:List AB,AB.mhL (λh=>h) l=l
 | []=>by rw[AB.mhL]
 | x::l=>by rw[AB.mhL,AB.mh_id x,AB.mhL_id l]
theorem AP.mh_id:∀x:AP,AP.mh (λh=>h) x=x
 | .mk ..=>by rw[AP.mh,AH.mhL_id]
theorem AP.mhL_id:∀l:List AP,AP.mhL (λh=>h) l=l
 | []=>by rw[AP.mhL]
 | x::l=>by rw[AP.mhL,AP.mh_id x,AP.mhL_id l]
theorem AH.mh_id:∀x:AH,AH.mh (λh=>h) x=x
 | .mk ..=>by rw[AH.mh,AB.mhL_id]
theorem AH.mhL_id:∀l:List AH,AH.mhL (λh=>h) l=l
 | []=>by rw[AH.mhL]
 | x::l=>by rw[AH.mhL,AH.mh_id x,AH.mhL_id l]
end
theorem S3 {hp:AF->Prop} {T:Int->Prop} {N:Nat} {l:List AB} (H:wf hp T N l):F3 (AO l) l:=by
 have:=Lm (λh=>h) H
 rwa [AB.mhL_id,AB.mhL_id]at this
theorem KN (s:ByteArray) {a:Nat}:∀{b:Nat},a<=b->Ar s a<=Ar s b
 | 0,h=>by rw[show a=0 by omega];exact qa _
 | b+1,h=>by
  by_cases c:a=b+1;rw[c];exact qa _;have:=KN s (a:=a) (b:=b) (by omega);simp only[Ar];split<;>omega
theorem Us {s:ByteArray} {a b:Nat} (c:a<=s.size) (hb:b<=s.size) (h1:JM s a) (h2:JM s b) (e:Ar s a=Ar s b):a=b:=by
 have key:∀{a b:Nat},b<=s.size->JM s a->Ar s a=Ar s b->¬a<b:=fun {a b} hb h1 e h=>by
  have d:EQ (An s a)=true:=by
   rcases h1 with h1|h1;omega;exact h1
  have:=KN s (show a+1<=b by omega);simp only[Ar]at this;rw[if_pos d]at this;omega
 have:=key hb h1 e;have:=key c h2 e.symm;omega
theorem TP {s:ByteArray} (f:A5 s=true) {u w:Int} (h0:0<=u) (h1:u<=w) (h2:w<=Ar s s.size):
 (Be (s.extract 0 (Be s w).1.toNat) u).1.toNat=(Be s u).1.toNat/\(Be s u).1.toNat<=(Be s w).1.toNat:=by
 obtain⟨o,l,r,b1,n1⟩:=Ge f (u:=u) h0 (by omega);obtain⟨q,j,k,g,n2⟩:=Ge f (u:=w) (by omega) h2;obtain⟨q',e,_,t,_,m1,_⟩:=Ef f (u:=w) (by omega) h2;rw[j]at e;subst e;rw[l,j];obtain⟨p,m,l3,d,n3⟩:=Ge t (u:=u) h0 (by omega);have z:=size_extract s 0 q k;have h:∀i,i<q->An (s.extract 0 q) i=An s i:=λi hi=>by rw[EN s 0 q i (by omega) k,qU]
 have hp:JM s p:=by
  rcases d with d|d;rw[show p=q by omega];exact g;by_cases c:p=q;rw[c];exact g;rw[h p (by omega)]at d;exact .inr d
 have n:=Ee s (s.extract 0 q) 0 p λi hi=>by rw[h i (by omega),qU]
 have e0:Ar s 0=0:=rfl;rw[qU]at n;have:=Us (a:=p) (b:=o) (by omega) r hp b1 (by omega);exact⟨by rw[m,this],by omega⟩
theorem Tq {s:ByteArray} (i:A5 s=true) (h:Ar s s.size=0):s.size=0:=by
 rcases Nat.eq_zero_or_pos s.size with e|e;exact e;exfalso;have h1:=GE.1 i;generalize hb:s.size=b at h1 e;cases h1 with
 | nil=>omega
 | cons h1 h2 h3=>
  obtain⟨i1,i2,_,_⟩:=Ig h1 h2;obtain⟨j,k⟩:=Kh s 0;have d:=UO _ j k;have g:=KN s (show 1<=s.size by omega);by_cases c:128<=An s 0/\An s 0<=191
  . have:DE (An s 0)=0:=by
     have a:=h2;unfold BJ at a;dsimp only at a;split at a;cases a
     . rename_i c0;exfalso;have:DE (An s 0)=0:=by unfold DE;(repeat' split)<;>omega
       omega
    omega
  rw[if_neg c]at d;have f:=d (by omega);simp only[Ar,f,if_true]at g;omega
def J5 (cu s:Int) (x:AB):AB:=x.setText (x.text.extract 0 (Be x.text (cu-s)).1.toNat)
def Ut (cu s:Int) (x:AB):AB:=x.setText (x.text.extract (Be x.text (cu-s)).1.toNat x.text.size)
def Kq (cu:Int):Int->List AB->List AB×List AB
 | _,[]=>([],[])
 | s,x::l=>if s+x.units<=cu then(x::(Kq cu (s+x.units) l).1,(Kq cu (s+x.units) l).2)else if cu<=s then((Kq cu (s+x.units) l).1,x::(Kq cu (s+x.units) l).2)
  else(J5 cu s x::(Kq cu (s+x.units) l).1,Ut cu s x::(Kq cu (s+x.units) l).2)
theorem RC (cu:Int):∀(l:List AB) (s:Int) (q:List AB×List AB),(E6 s l).foldl (B7 cu) q=(q.1++(Kq cu s l).1,q.2++(Kq cu s l).2)
 | [],s,q=>by simp[E6,Kq]
 | x::l,s,q=>by
  rw[E6,jy,RC cu l,Kq];unfold B7;dsimp only;by_cases c1:s+x.units<=cu;rw[if_pos c1,if_pos c1];simp;rw[if_neg c1,if_neg c1];by_cases a:cu<=s;rw[if_pos a,if_pos a];simp;rw[if_neg a,if_neg a];simp[J5,Ut]
theorem ES (l:List AB) (cu:Int):Ad l cu=Kq cu 0 l:=by
 unfold Ad CV;rw[qv (by rw[HU];exact qa _),RC];simp
theorem L7 (x:AB):0<=x.units:=(Ta x).2
theorem P0 {cu:Int}:∀{l:List AB} {s:Int},cu<s->Kq cu s l=([],l)
 | [],_,_=>rfl
 | x::l,s,h=>by
  have:=L7 x;rw[Kq,if_neg (by omega),if_pos (by omega),P0 (by omega)]
theorem UU (y:AB) (t:ByteArray):AB.nrm (y.setText t)=(AB.nrm y).setText t:=by rw[AB.nrm_eq,AB.nrm_eq];rfl
theorem NT {x:AB} {s cu:Int} (c1:¬s+x.units<=cu) (c2:¬cu<=s):x.kind=1:=by
 by_cases k:x.kind=1;exact k;have:x.units=1:=by rw[AB.units,if_neg k]
 omega
theorem II {x:AB} (k:x.kind=1) (a:A5 x.text=true):x.units=Ar x.text x.text.size:=by rw[AB.units,if_pos k,a];rfl
theorem LD {t:ByteArray} (h:0<Ar t t.size):t.size≠0:=λe=>by rw[e]at h;exact absurd h (by simp[Ar])
theorem Mz (cu:Int):∀(l:List AB) (s:Int),(∀x∈l,A5 x.text=true)->F3 ((Kq cu s l).1++(Kq cu s l).2) l
 | [],s,_=>.refl _
 | x :: l, s, hv => by
  have i:=Mz cu l (s+x.units) λy h=>hv y (qC _ h);have d:=hv x (qV ..);rw[Kq];by_cases c1:s+x.units<=cu;rw[if_pos c1];exact F3.app (.refl [x]) i;rw[if_neg c1];rw[P0 (l:=l) (s:=s+x.units) (by omega)];by_cases a:cu<=s;rw[if_pos a];exact .refl _;rw[if_neg a];refine F3.app (P:=[J5 cu s x,Ut cu s x]) (P':=[x]) (λZ=>?_) (.refl l);have e:=NT c1 a;have hu:=II e d;obtain⟨o,f,e2,v1,v2,n1,n2⟩:=Ef d (u:=cu-s) (by omega) (by omega);show AQ (AQ Z (AB.nrm (J5 cu s x))) (AB.nrm (Ut cu s x))=AQ Z (AB.nrm x);unfold J5 Ut;rw[f,UU,UU];have b:(AB.nrm x).kind=1:=by rw[(kB x).1];exact e
  have ht:(AB.nrm x).text=x.text:=(kB x).2.2.2.1;have nd:∀t:ByteArray,t.size≠0->¬BS ((AB.nrm x).setText t):=λt ht c=>by
   rcases c with c|c;have:((AB.nrm x).setText t).kind=1:=b;rw[this]at c;exact absurd c.1 (by decide);exact ht c.2
  have key:=TO (Z:=Z) (w:=(AB.nrm x).setText (x.text.extract 0 o)) (x:=(AB.nrm x).setText (x.text.extract o x.text.size)) (nd _ (LD (by omega))) (nd _ (LD (by omega))) ⟨b,b,rfl⟩;rw[key];have g:x.text.extract 0 o++x.text.extract o x.text.size=x.text:=by
   rw[ByteArray.extract_append_extract];simp
  show AQ Z (AB.mk (AB.nrm x).kind (AB.nrm x).code (AB.nrm x).id (x.text.extract 0 o++x.text.extract o x.text.size) (AB.nrm x).head (AB.nrm x).flow (AB.nrm x).rows)=_;rw[g,<-ht];congr 1;cases AB.nrm x;rfl
theorem UI {a b:Int} (f:a<=b):∀(l:List AB) (s:Int),(∀x∈l,A5 x.text=true)->(Kq a s (Kq b s l).1).1=(Kq a s l).1
 | [],s,_=>rfl
 | x :: l, s, hv => by
  have n:=UI f l (s+x.units) λy m=>hv y (qC _ m);have g:=hv x (qV ..);have hu0:=L7 x;rw[Kq,Kq.eq_2 (cu:=a)];by_cases c1:s+x.units<=b;rw[if_pos c1,Kq,n];by_cases d:s+x.units<=a;rw[if_pos d,if_pos d];rw[if_neg d,if_neg d];by_cases c:a<=s;rw[if_pos c,if_pos c];rw[if_neg c,if_neg c];rw[if_neg c1,if_neg (show ¬s+x.units<=a by omega),P0 (cu:=b) (l:=l) (s:=s+x.units) (by omega),P0 (cu:=a) (l:=l) (s:=s+x.units) (by omega)];by_cases e:b<=s;rw[if_pos e,if_pos (show a<=s by omega)];rfl;rw[if_neg e];have h:=NT c1 e;have hu:=II h g;obtain⟨o,i,e2,r,v2,p,n2⟩:=Ef g (u:=b-s) (by omega) (by omega);have q:(J5 b s x).units=b-s:=by
   have j:(J5 b s x).kind=1:=h;have k:(J5 b s x).text=x.text.extract 0 o:=by unfold J5;rw[i];rfl
   rw[AB.units,if_pos j,k,r];exact p
  show(Kq a s [J5 b s x]).1=_;rw[Kq,q];by_cases d:s+(b-s)<=a;have:a=b:=by omega
  subst this;rw[if_pos d,if_neg e];rfl;rw[if_neg d];by_cases c:a<=s;rw[if_pos c,if_pos c];rfl;rw[if_neg c,if_neg c];show[J5 a s (J5 b s x)]=[J5 a s x];obtain⟨f1,f2⟩:=TP g (u:=a-s) (w:=b-s) (by omega) (by omega) (by omega);unfold J5;show[x.setText ((x.text.extract 0 (Be x.text (b-s)).1.toNat).extract 0 (Be (x.text.extract 0 (Be x.text (b-s)).1.toNat) (a-s)).1.toNat)]=_;rw[f1,ByteArray.extract_extract];congr 2;congr 1;omega
theorem RD:∀(l:List AB) (s:Int),0<=s->(∀x∈l,A5 x.text=true)->F3 (Kq 0 s l).1 []
 | [],_,_,_=>.refl _
 | x::l,s,h0,hv=>by
  have a:=hv x (qV ..);have hu0:=L7 x;have b:=RD l (s+x.units) (by omega) λy d=>hv y (qC _ d);rw[Kq];by_cases c1:s+x.units<=0;rw[if_pos c1];refine F3.app (P:=[x]) (P':=[]) (λZ=>?_) b;have c:x.kind=1:=by
   by_cases k:x.kind=1;exact k;have:x.units=1:=by rw[AB.units,if_neg k]
   omega
  have hu:=II c a;have e:=Tq a (by omega);show AQ Z (AB.nrm x)=Z;unfold AQ;rw[if_pos (.inr ⟨by rw[(kB x).1];exact c,by rw[(kB x).2.2.2.1];exact e⟩)];rw[if_neg c1,if_pos (show(0:Int)<=s from h0)];exact b
section
variable {hp : AF → Prop} {T : Int → Prop}
theorem OL {N:Nat} {l:List AB} (W:wf hp T (N+1) l) (D:Dp (N+1) l) {a b:Int} (h0:0<=a) (h1:a<=b) (h2:b<=BQ l):
 F3 ((Ab l 0 a).1++(Ab l a b).1++(Ab l b (BF l).1).1) l:=by
 have g:=DQ D;have h:∀x∈l,A5 x.text=true:=λx f=>(D x f).1.1;have sl:∀p q:Int,0<=p->p<=q->q<=BQ l->F3 (Ab l p q).1 (Ad (Ad l q).1 p).2:=λp q g0 g1 g2=>by
  have d:DL l p q=0:=by
   unfold DL;rw[g];have:¬(p<0\/q<p\/BQ l<q):=by omega
   simp[this]
  unfold Ab;rw[if_pos d];exact S3 (Jk p (Jk q W).1).2
 rw[g];dsimp only;have c:(Ad l (BQ l)).1=l:=by
  unfold Ad;rw[J9 (λk _=>Mb l k) _ (qa _),qm]
 have s1:=sl 0 a (by omega) h0 (by omega);have s2:=sl a b h0 h1 h2;have s3:=sl b (BQ l) (by omega) h2 (by omega);rw[c]at s3;have val:∀q:Int,0<=q->∀x∈(Ad l q).1,A5 x.text=true:=λq i x f=>((GF q i D).1 x f).1.1;have j:F3 (Ad (Ad l a).1 0).2 (Ad l a).1:=by
  have p:=Mz 0 (Ad l a).1 0 (val a h0);have z:=RD (Ad l a).1 0 (by omega) (val a h0);rw[ES (Ad l a).1 0];exact((F3.app z (.refl _)).symm).trans p
 have t2:F3 ((Ad l a).1++(Ad (Ad l b).1 a).2) (Ad l b).1:=by
  have p:=Mz a (Ad l b).1 0 (val b (by omega));have e:=UI h1 l 0 h;rw[<-ES l b,<-ES l a,<-ES (Ad l b).1 a]at e;rw[<-ES (Ad l b).1 a,e]at p;exact p
 have t3:F3 ((Ad l b).1++(Ad l b).2) l:=by
  have p:=Mz b l 0 h
  rwa [<-ES l b]at p
 exact(F3.app ((F3.app (s1.trans j) s2).trans t2) s3).trans t3
end
mutual
def AB.dc (δ:AF->Option AF):AB->Option AB
 | .mk k c i t h f r=>(δ h).map λh'=>.mk k c i t h' (AB.dcL δ f) (AP.dcL δ r)
def AB.dcL (δ:AF->Option AF):List AB->List AB
 | []=>[]
 | x::l=>(AB.dc δ x).toList++AB.dcL δ l
def AP.dc (δ:AF->Option AF):AP->Option AP
 | .mk h c=>(δ h).map λh'=>.mk h' (AH.dcL δ c)
def AP.dcL (δ:AF->Option AF):List AP->List AP
 | []=>[]
 | x::l=>(AP.dc δ x).toList++AP.dcL δ l
def AH.dc (δ:AF->Option AF):AH->Option AH
 | .mk i h f=>(δ h).map λh'=>.mk i h' (AB.dcL δ f)
def AH.dcL (δ:AF->Option AF):List AH->List AH
 | []=>[]
 | x::l=>(AH.dc δ x).toList++AH.dcL δ l
end
theorem CN {α β:Type} (f:α->Option β) (x:α) (l:List α):(x::l).filterMap f=(f x).toList++l.filterMap f:=by
 rw[List.filterMap_cons];cases f x<;>rfl
theorem Le {α β:Type} (f:α->Option β) (a b:List α):(a++b).filterMap f=a.filterMap f++b.filterMap f:=List.filterMap_append
theorem GI {α β:Type} {f g:α->Option β}:∀{l:List α},(∀x∈l,f x=g x)->l.filterMap f=l.filterMap g
 | [],_=>rfl
 | x::l,h=>by rw[CN,CN,h x (qV ..),GI λy a=>h y (qC _ a)]
theorem Il {α β γ:Type} (f:β->Option γ) (g:α->β):∀l:List α,(l.map g).filterMap f=l.filterMap λx=>f (g x)
 | []=>rfl
 | x::l=>by rw[qr,CN,CN,Il f g l]
theorem He {α β γ:Type} (f:α->Option β) (g:β->γ):∀l:List α,(l.filterMap f).map g=l.filterMap λx=>(f x).map g
 | []=>rfl
 | x::l=>by rw[CN,CN,qc,He f g l];cases f x<;>rfl
section
variable (δ : AF → Option AF)
theorem AB.dcL_eq:∀l:List AB,AB.dcL δ l=l.filterMap (AB.dc δ)
 | []=>by rw[AB.dcL];rfl
 | x::l=>by rw[AB.dcL,AB.dcL_eq l,CN]
theorem AP.dcL_eq:∀l:List AP,AP.dcL δ l=l.filterMap (AP.dc δ)
 | []=>by rw[AP.dcL];rfl
 | x::l=>by rw[AP.dcL,AP.dcL_eq l,CN]
theorem AH.dcL_eq:∀l:List AH,AH.dcL δ l=l.filterMap (AH.dc δ)
 | []=>by rw[AH.dcL];rfl
 | x::l=>by rw[AH.dcL,AH.dcL_eq l,CN]
theorem AB.dc_eq (x:AB):AB.dc δ x=(δ x.head).map λh=>.mk x.kind x.code x.id x.text h (AB.dcL δ x.flow) (x.rows.filterMap (AP.dc δ)):=by cases x;rw[AB.dc,AP.dcL_eq];rfl
theorem AP.dc_eq (x:AP):AP.dc δ x=(δ x.head).map λh=>.mk h (x.cells.filterMap (AH.dc δ)):=by cases x;rw[AP.dc,AH.dcL_eq];rfl
theorem AH.dc_eq (x:AH):AH.dc δ x=(δ x.head).map λh=>.mk x.id h (AB.dcL δ x.flow):=by cases x;rw[AH.dc];rfl
end
def Cs (l:List AP):List AP:=l.filter λr=>!decide (r.cells.length=0)
theorem AB.nrm_mk (k c i:Int) (t:ByteArray) (h:AF) (f:List AB) (r:List AP):AB.nrm (.mk k c i t h f r)=.mk k c i t h (AO f) (Cs (r.map AP.nrm)):=by rw[AB.nrm_eq];rfl
theorem Hr (a b:List AP):Cs (a++b)=Cs a++Cs b:=ku ..
theorem Nj {p:AB->Option AB} (i:∀y z,p y=some z->z.kind=y.kind/\z.text=y.text)
 (l:∀a b:AB,a.kind=1->b.kind=1->a.head=b.head->(p a=none/\p b=none)\/∃z w,p a=some z/\p b=some w/\z.head=w.head)
 (j:∀y t,p (y.addText t)=(p y).map λz=>z.addText t) (n:∀y z,p y=some z->BS y->BS z):
 ∀(m o Z:List AB),(∀y∈o,¬BS y)->((m.foldl AQ o).filterMap p).foldl AQ Z=(m.filterMap p).foldl AQ ((o.filterMap p).foldl AQ Z)
 | [],_,_,_=>rfl
 | x :: m, o, Z, ho => by
  have key:((AQ o x).filterMap p).foldl AQ Z=((p x).toList).foldl AQ ((o.filterMap p).foldl AQ Z)/\∀y∈AQ o x,¬BS y:=by
   by_cases c:BS x;have d:AQ o x=o:=by unfold AQ;rw[if_pos c]
   rw[d];refine⟨?_,ho⟩;cases e:p x with
   | none=>rfl
   | some z=>
    show _=AQ _ z;unfold AQ;rw[if_pos (n x z e c)]
   have push:((o++[x]).filterMap p).foldl AQ Z=((p x).toList).foldl AQ ((o.filterMap p).foldl AQ Z)/\∀y∈o++[x],¬BS y:=by
    refine⟨by rw[Le,jw,CN,List.filterMap_nil,kv],λy A=>?_⟩;rcases qd.1 A with g|g;exact ho y g;rw[qy.1 g];exact c
   rw[Ln c];rcases List.eq_nil_or_concat o with e|⟨ys,y,e⟩
   subst e;exact push;rw[List.concat_eq_append]at e;subst e;rw[vg];dsimp only;by_cases k:x.kind=1/\y.kind=1/\y.head=x.head;have h:=ho y (by simp);rw[if_pos k,vN];refine⟨?_,λz B=>?_⟩;rw[Le,Le,jw,jw,CN,CN,List.filterMap_nil,kv,kv,j];rcases l y x k.2.1 k.1 k.2.2 with⟨d,f⟩|⟨z,w,d,f,v⟩
   rw[d,f];rfl;rw[d,f];obtain⟨q,C⟩:=i _ _ d;obtain⟨r,t2⟩:=i _ _ f;have u:¬BS z:=λg=>by
    rcases g with g|g;rw[q,k.2.1]at g;exact absurd g.1 (by decide);exact h (.inr ⟨k.2.1,by rw[<-C];exact g.2⟩)
   have s:¬BS w:=λg=>by
    rcases g with g|g;rw[r,k.1]at g;exact absurd g.1 (by decide);exact c (.inr ⟨k.1,by rw[<-t2];exact g.2⟩)
   show AQ _ (z.addText x.text)=AQ (AQ _ z) w;rw[TO u s ⟨by rw[r];exact k.1,by rw[q];exact k.2.1,v⟩,t2];rcases qd.1 B with g|g;exact ho z (by simp[g]);rw[qy.1 g];intro g;rcases g with g|g;exact h (.inl g);refine h (.inr ⟨g.1,?_⟩);have:(y.text++x.text).size=0:=g.2;rw[kT]at this;omega;rw[if_neg k];exact push
  rw[jy,CN,jw,Nj i l j n m _ Z key.2,key.1]
section
variable (δ : AF → Option AF)
def AB.dn (x:AB):Option AB:=(AB.dc δ x).map AB.nrm
theorem Jz (x:AB):AB.dn δ x=(δ x.head).map λh=>.mk x.kind x.code x.id x.text h (AO (AB.dcL δ x.flow)) (Cs ((x.rows.filterMap (AP.dc δ)).map AP.nrm)):=by
 unfold AB.dn;rw[AB.dc_eq];cases δ x.head with
 | none=>rfl
 | some h=>simp only[qO];rw[AB.nrm_mk]
theorem JN (l Z:List AB):((AB.dcL δ l).map AB.nrm).foldl AQ Z=(l.filterMap (AB.dn δ)).foldl AQ Z:=by
 rw[AB.dcL_eq,He];rfl
theorem Pz (m Z:List AB):((m.foldl AQ []).filterMap (AB.dn δ)).foldl AQ Z=(m.filterMap (AB.dn δ)).foldl AQ Z:=by
 refine Nj (p:=AB.dn δ) (λy z e=>?_) (λa b _ _ e=>?_) (λy t=>?_) (λy z e g=>?_) m [] Z λy c=>by cases c
 rw[Jz,qN]at e;obtain⟨h,_,rfl⟩:=e;exact⟨rfl,rfl⟩;rw[Jz,Jz,e];cases δ b.head with
 | none=>exact .inl ⟨rfl,rfl⟩
 | some h=>exact .inr ⟨_,_,rfl,rfl,rfl⟩
 rw[Jz,Jz,Option.map_map];rfl;rw[Jz,qN]at e;obtain⟨h,_,rfl⟩:=e;rcases g with g|g;refine .inl ⟨g.1,?_⟩;show Cs ((y.rows.filterMap (AP.dc δ)).map AP.nrm)=[];rw[g.2];rfl;exact .inr g
theorem IN (r:AP):(AP.nrm r).cells.length=r.cells.length:=by
 rw[AP.nrm_eq];exact qf ..
theorem Wu (δ:AF->Option AF) (l:List AP) (h:∀r∈l,(AP.dc δ (AP.nrm r)).map AP.nrm=(AP.dc δ r).map AP.nrm):
 Cs (((Cs (l.map AP.nrm)).filterMap (AP.dc δ)).map AP.nrm)=Cs ((l.filterMap (AP.dc δ)).map AP.nrm):=by
 induction l with
 | nil=>rfl
 | cons r l a=>
  have a:=a λx e=>h x (qC _ e);have d:=h r (qV ..);have b:Cs ((r::l).map AP.nrm)=Cs [AP.nrm r]++Cs (l.map AP.nrm):=Hr [AP.nrm r] _;rw[b,Le,qc,Hr,a,CN,qc,Hr];congr 1;by_cases c:r.cells.length=0;have a1:Cs [AP.nrm r]=[]:=by
   unfold Cs;rw[List.filter_cons_of_neg (by rw[IN,c];simp)];rfl
  rw[a1,AP.dc_eq];cases δ r.head with
  | none=>rfl
  | some h'=>
   have:r.cells=[]:=List.length_eq_zero_iff.1 c;rw[this];show[]=Cs [AP.nrm _];unfold Cs;rw[List.filter_cons_of_neg (by rw[IN];simp[AP.cells])];rfl
  have a1:Cs [AP.nrm r]=[AP.nrm r]:=by
   unfold Cs;rw[List.filter_cons_of_pos (by rw[IN];simp[c])];rfl
  have a2:∀o:Option AP,o.toList.map AP.nrm=(o.map AP.nrm).toList:=λo=>by cases o<;>rfl
  rw[a1,CN,List.filterMap_nil,kv,a2,a2,d]
mutual
theorem Z0:∀x:AB,AB.dn δ (AB.nrm x)=AB.dn δ x
 | .mk k c i t h f r => by
  have h1:F3 (AB.dcL δ (AO f)) (AB.dcL δ f):=λZ=>by
   rw[JN,JN];unfold AO Cy;rw[Pz,kM,Il,GI (Mx f)]
  have h2:=Wu δ r (Q6 r);rw[AB.nrm_mk,Jz,Jz];show(δ h).map (λh=>AB.mk k c i t h (AO (AB.dcL δ (AO f))) (Cs (((Cs (r.map AP.nrm)).filterMap (AP.dc δ)).map AP.nrm)))=(δ h).map λh=>AB.mk k c i t h (AO (AB.dcL δ f)) (Cs ((r.filterMap (AP.dc δ)).map AP.nrm));rw[h1.normal,h2]
theorem Mx:∀l:List AB,∀x∈l,AB.dn δ (AB.nrm x)=AB.dn δ x
 | [],x,hx=>by cases hx
 | y::l,x,hx=>by
  rcases qt.1 hx with e|e;rw[e];exact Z0 y;exact Mx l x e
theorem YN:∀r:AP,(AP.dc δ (AP.nrm r)).map AP.nrm=(AP.dc δ r).map AP.nrm
 | .mk h c => by
  have e:=Q5 c;rw[AP.nrm_eq,AP.dc_eq,AP.dc_eq];show((δ h).map λh=>AP.mk h ((c.map AH.nrm).filterMap (AH.dc δ))).map AP.nrm=((δ h).map λh=>AP.mk h (c.filterMap (AH.dc δ))).map AP.nrm;cases δ h with
  | none=>rfl
  | some h'=>
   simp only[qO];rw[AP.nrm_eq,AP.nrm_eq];show some (AP.mk h' (((c.map AH.nrm).filterMap (AH.dc δ)).map AH.nrm))=some (AP.mk h' ((c.filterMap (AH.dc δ)).map AH.nrm));rw[He,He,Il,GI e]
theorem Q6:∀l:List AP,∀r∈l,(AP.dc δ (AP.nrm r)).map AP.nrm=(AP.dc δ r).map AP.nrm
 | [],x,hx=>by cases hx
 | y::l,x,hx=>by
  rcases qt.1 hx with e|e;rw[e];exact YN y;exact Q6 l x e
theorem YM:∀c:AH,(AH.dc δ (AH.nrm c)).map AH.nrm=(AH.dc δ c).map AH.nrm
 | .mk i h f => by
  have h1:F3 (AB.dcL δ (AO f)) (AB.dcL δ f):=λZ=>by
   rw[JN,JN];unfold AO Cy;rw[Pz,kM,Il,GI (Mx f)]
  rw[AH.nrm_eq,AH.dc_eq,AH.dc_eq];show((δ h).map λh=>AH.mk i h (AB.dcL δ (AO f))).map AH.nrm=((δ h).map λh=>AH.mk i h (AB.dcL δ f)).map AH.nrm;cases δ h with
  | none=>rfl
  | some h'=>
   simp only[qO];rw[AH.nrm_eq,AH.nrm_eq];show some (AH.mk i h' (AO (AB.dcL δ (AO f))))=some (AH.mk i h' (AO (AB.dcL δ f)));rw[h1.normal]
theorem Q5:∀l:List AH,∀c∈l,(AH.dc δ (AH.nrm c)).map AH.nrm=(AH.dc δ c).map AH.nrm
 | [],x,hx=>by cases hx
 | y::l,x,hx=>by
  rcases qt.1 hx with e|e;rw[e];exact YM y;exact Q5 l x e
end
theorem LZ (l:List AB):F3 (AB.dcL δ (AO l)) (AB.dcL δ l):=λZ=>by
 rw[JN,JN];unfold AO Cy;rw[Pz,kM,Il,GI (Mx δ l)]
theorem Zz {P Q:List AB} (h:F3 P Q):F3 (AB.dcL δ P) (AB.dcL δ Q):=((LZ δ P).symm).trans (by rw[h.normal];exact LZ δ Q)
theorem Mw (P Q:List AB):AB.dcL δ (P++Q)=AB.dcL δ P++AB.dcL δ Q:=by rw[AB.dcL_eq,AB.dcL_eq,AB.dcL_eq,Le]
end
theorem F3.fm {f g:AB->Option AB}:∀{l:List AB},(∀x∈l,F3 (f x).toList (g x).toList)->F3 (l.filterMap f) (l.filterMap g)
 | [],_=>.refl _
 | x::l,h=>by rw[CN,CN];exact F3.app (h x (qV ..)) (F3.fm λy a=>h y (qC _ a))
theorem F3.one {f g:Option AB} (h:f.map AB.nrm=g.map AB.nrm):F3 f.toList g.toList:=λZ=>by
 have e:∀o:Option AB,o.toList.map AB.nrm=(o.map AB.nrm).toList:=λo=>by cases o<;>rfl
 rw[e,e,h]
section
variable {hp : AF → Prop} {T : Int → Prop}
theorem NU {g:Bool->AF->AF} {δ δ':AF->Option AF} (hc:∀mid h,hp h->δ' (g mid h)=δ h) (sc:BH):∀(N:Nat) (id:Int) (l:List AB) (mid:Bool),wf hp T N l->Dp N l->F3 (AB.dcL δ' (AT (gF g) sc N id l mid ()).1) (AB.dcL δ l)
 | 0,_,_,_,h,_=>h.elim
 | N + 1, id, l, mid, W, D => by
  have P:∀(mid:Bool) (l:List AB),wf hp T (N+1) l->Dp (N+1) l->F3 (AB.dcL δ' (A8 (gF g) (AT (gF g) sc N) mid l ()).1) (AB.dcL δ l):=λmid l W D=>by
   have W:=DR.1 W;rw[Ej,AB.dcL_eq,AB.dcL_eq,Il];refine F3.fm λx j=>F3.one ?_;show AB.dn δ' (NA g (AT (gF g) sc N) mid x)=AB.dn δ x;have w:=W x j;have d:=D x j;have c:(if x.kind=7 then x.rows.map (Sb g (AT (gF g) sc N) mid)else x.rows)=x.rows.map (Sb g (AT (gF g) sc N) mid):=by
    split;rfl;rename_i k;rw[w.k7 k];rfl
   have h1:AO (AB.dcL δ' (if x.kind=6 then(AT (gF g) sc N x.id x.flow mid ()).1 else x.flow))=AO (AB.dcL δ x.flow):=by
    split;rename_i k;exact(NU hc sc N x.id x.flow mid w.flow (d.2.1 k)).normal;rename_i k;rw[w.k6 k];rw[AB.dcL,AB.dcL]
   have h2:((x.rows.map (Sb g (AT (gF g) sc N) mid)).filterMap (AP.dc δ')).map AP.nrm=(x.rows.filterMap (AP.dc δ)).map AP.nrm:=by
    rw[Il,He,He];refine GI λr c=>?_;have k7:x.kind=7:=by
     by_cases k:x.kind=7;exact k;rw[w.k7 k]at c;cases c
    obtain⟨s,u2,m⟩:=w.rows r c;rw[AP.dc_eq,AP.dc_eq];show((δ' (g mid r.head)).map λh=>AP.mk h ((r.cells.map (Vk g (AT (gF g) sc N) mid)).filterMap (AH.dc δ'))).map AP.nrm=_;rw[hc _ _ s];cases δ r.head with
    | none=>rfl
    | some h' =>
     simp only[qO];rw[AP.nrm_eq,AP.nrm_eq];show some (AP.mk h' (((r.cells.map (Vk g (AT (gF g) sc N) mid)).filterMap (AH.dc δ')).map AH.nrm))=some (AP.mk h' ((r.cells.filterMap (AH.dc δ)).map AH.nrm));rw[Il,He,He];congr 2;refine GI λq e=>?_;rw[AH.dc_eq,AH.dc_eq];show((δ' (g mid q.head)).map λh=>AH.mk q.id h (AB.dcL δ' (AT (gF g) sc N q.id q.flow mid ()).1)).map AH.nrm=_;rw[hc _ _ (m q e).2.1];cases δ q.head with
     | none=>rfl
     | some h'=>
      simp only[qO];rw[AH.nrm_eq,AH.nrm_eq];show some (AH.mk q.id h' (AO (AB.dcL δ' (AT (gF g) sc N q.id q.flow mid ()).1)))=some (AH.mk q.id h' (AO (AB.dcL δ q.flow)));rw[(NU hc sc N q.id q.flow mid (m q e).2.2 ((d.2.2 k7 r c).2 q e)).normal]
   unfold NA;rw[c,Jz,Jz];show((δ' (g mid x.head)).map λh=>AB.mk x.kind x.code x.id x.text h (AO (AB.dcL δ' (if x.kind=6 then(AT (gF g) sc N x.id x.flow mid ()).1 else x.flow))) (Cs (((x.rows.map (Sb g (AT (gF g) sc N) mid)).filterMap (AP.dc δ')).map AP.nrm)))=_;rw[hc _ _ w.head,h1,h2]
  rw[AT];split;rename_i f;have o:mid=false:=by unfold F9 at f;cases mid;rfl;simp at f
  subst o;obtain⟨_,i,p,k3⟩:=(HS sc D).1 f;have q:∀(mid:Bool) (a b:Int),0<=a->0<=b->F3 (AB.dcL δ' (A8 (gF g) (AT (gF g) sc N) mid (Ab l a b).1 ()).1) (AB.dcL δ (Ab l a b).1):=λmid a b n hb=>P mid _ (Oa a b W) (C6 a b n hb D);show F3 (AB.dcL δ' ((A8 (gF g) (AT (gF g) sc N) false (Ab l 0 sc.a).1 ()).1++(A8 (gF g) (AT (gF g) sc N) true (Ab l sc.a sc.b).1 ()).1++(A8 (gF g) (AT (gF g) sc N) false (Ab l sc.b (BF l).1).1 ()).1)) (AB.dcL δ l);rw[Mw,Mw];have hn:0<=(BF l).1:=by rw[DQ D];dsimp only;omega
  refine(F3.app (F3.app (q false 0 sc.a (by omega) i) (q true sc.a sc.b i (by omega))) (q false sc.b (BF l).1 (by omega) hn)).trans ?_;rw[<-Mw,<-Mw];exact Zz δ (OL W D i p k3);exact P mid l W D
end
section
variable {E : CC} {P : Program} {N : Nat} {code : Code} {Q : Cu} {sa : SA} {h : Hp} {n : Nat}
end
end Go.Proofs.YtgakninlhfkkmaaGreat.Sh
namespace Go.Proofs
open Go.Shelf
end Go.Proofs
namespace Go.Proofs.YtgakninlhfkkmaaGreat.Sh
open Proofs
set_option maxRecDepth 10000
def jF (l:List Int) (x:Int):Bool:=decide (x≠0)&&decide (x∈l)
open Go.Sort (SWO)
end Go.Proofs.YtgakninlhfkkmaaGreat.Sh
namespace Go.Proofs.YtgakninlhfkkmaaGreat.Sh
open Proofs
set_option maxRecDepth 10000
theorem Mp {F:Nat->Int}:∀{n:Nat},(∀i,i<n->F i=0)->CD F n=0
 | 0,_=>rfl
 | n+1,h=>by rw[CD,if_pos (Mp λi hi=>h i (by omega))];exact h n (by omega)
theorem YU {F:Nat->Int} {i:Nat} (h:Gb F i=0):1<=F i/\F i<=1073741824/\(0<i->F (i-1)<F i):=by
 unfold Gb at h;by_cases c1:1<=F i/\F i<=1073741824;refine⟨c1.1,c1.2,λhi=>?_⟩;rw[if_neg (by simpa using c1)]at h;by_cases a:F i=F (i-1);rw[if_pos ⟨hi,a⟩]at h;cases h;rw[if_neg λg=>a g.2]at h;by_cases b:F i<F (i-1);rw[if_pos ⟨hi,b⟩]at h;cases h;omega;rw[if_pos c1]at h;cases h
theorem OB {l:List BC} (h:El l=0):Ct l=0:=by
 have hlen:=GK h;have h2:CD (IQ l) (min l.length 256)=0:=by
  have e:=h;unfold El at e;have hl:¬(256:Int)<l.length:=by omega
  simp[Bc,hl]at e;exact Classical.byContradiction λg=>g (e g)
 rw[Ct,if_neg (by omega)];refine Mp λi hi=>?_;have a:=JK h2 i (by omega);unfold IQ at a;unfold Fg;rw[qe hi]at a ⊢;dsimp only at a ⊢;have m:=Ik a;rw[Bc,if_pos m]at a;have d:=Ik a;rw[Bc,if_pos d]at a;have o:=Ik a;obtain⟨j,k,b⟩:=YU m
 try dsimp only at j k b
 rw[qe hi]at j k b
 try dsimp only at j k b
 have n:Dc l[i].author=true:=by
  cases p:Dc l[i].author with
  | true=>rfl
  | false=>rw[p]at d;simp at d
 have ht:0<=l[i].time/\l[i].time<=1099511627776:=by
  by_cases c:0<=l[i].time/\l[i].time<=1099511627776;exact c;simp[c]at o
 simp only[Dc,qo,decide_eq_true_eq]at n;have q:Cn l[i]=0:=by
  unfold Cn;rw[if_neg (by omega),if_neg (by omega),if_neg (by omega),if_neg (by rw[n.2];decide),if_neg (by omega)]
 rw[if_pos q];by_cases c:i=0;rw[if_pos c]
 . rw[if_neg c];have f:i-1<l.length:=by omega
   have b:=b (by omega);rw[qe f]at b ⊢
   try dsimp only at b ⊢
   unfold GD;rw[if_neg (by omega),if_pos b];simp;omega
theorem S5 {m2:List Int} {B:Nat}:∀{N:Nat} {l:List AB},Dq AF.sized B N l->Og N l->Xr m2 N l->M8 (HK m2) 150 150000 N l
 | 0,_,h,_,_=>h.elim
 | N+1,l,hl,hf,hk=>by
  obtain⟨_,_,k⟩:=Ci.1 hl;obtain⟨f1,f2⟩:=hf;refine TN.2 ⟨f1,?_,λx a=>?_⟩;have:=L5 l λx a=>(f2 x a).1.1;omega;obtain⟨a1,a2,a3,a4⟩:=k x a;obtain⟨⟨b1,b2⟩,e,f⟩:=f2 x a;obtain⟨c1,g,i,_,j⟩:=hk x a;refine⟨⟨a1,g.toUN⟩,S5 a2 e i,by omega,λr b=>?_⟩;obtain⟨m,u2,d⟩:=a4 r b;obtain⟨v1,n⟩:=f r b;obtain⟨w1,w2⟩:=j r b;exact⟨⟨m,w1.1.toUN⟩,by omega,λc hc=>⟨⟨(d c hc).1,(w2 c hc).1.toUN⟩,S5 (d c hc).2 (n c hc) (w2 c hc).2⟩⟩
theorem YV (l:List BC) (i:Nat) (r:BC):(FB l i r).length<=l.length+1:=by unfold FB;simp;omega
theorem Yv {B N:Nat} (_hB:B<=1048576) {d:AG} (hl:Dq AF.sized B N d.flow) (t:d.«end».sized) (l:d.settings.sized) (b:Re N d) (q:Og N d.flow) (rev:Int) (sc:BH) (nx:BC):
 (∃S,PC 15 [d.enc,AA rev,sc.enc,nx.enc] (.tup [(EE d rev nx (DM N d rev sc) S (Dl N d rev sc nx).normal).1.enc,AA (EE d rev nx (DM N d rev sc) S (Dl N d rev sc nx).normal).2]))/\
   M8 (HK (nx.id::BU [] (d.revs.map (·.id)))) (3*150) (2*150000) N (Dl N d rev sc nx).flow/\(Dl N d rev sc nx).«end» = d.«end»:=by
 obtain⟨m2,a⟩:∃m2,m2=BU [] (d.revs.map (·.id)):=⟨_,rfl⟩
 rw[<-a];have hrl:=GK b.revs;have hm:m2.length<=999:=by
  have:=NL (d.revs.map (·.id)) [];rw[a];simp at this;omega
 have h1:Dq (HK m2) 150000 N d.flow:=M6 hl q (a▸b.flow);have i:M8 (HK m2) 150 150000 N d.flow:=S5 hl q (a▸b.flow);have h2:HK m2 d.«end»:=⟨t,a▸b.end.toUN⟩
 have f:=h1.sized (λx g=>g.1) (by omega);have j:Dp N d.flow:=Iu (a▸b.flow) h1;have w1:=Kn (W:=(BM (C1 (Hj rev)) sc N d d.revs (0,0)).1) (by omega) (by omega) (IH (λs p g=>g) N 0 d.flow false (0,0) h1).1 h2 (by show d.revs.length<=_;omega) l;have co:=c13 (HK m2) 150000 (by omega) (λh g=>⟨⟨g.1,Wn g⟩,g.1⟩) N d rev sc h1 h2 (by omega) (λfl e=>by
  have o:=KB f.1 f.2 fl (List.mem_of_find?_eq_some e);exact⟨o.1,vZ o.2⟩) w1.1 w1.2.1 w1.2.2
 have w2:=Kn (W:=(BM (C1 eD) sc N d d.revs []).1) (by omega) (by omega) (IH (λs p g=>g) N 0 d.flow false [] h1).1 h2 (by show d.revs.length<=_;omega) l;have r:M8 (HK (nx.id::m2)) (3*150) (2*150000) N (Dl N d rev sc nx).flow:=by
  unfold Dl BM;rw[Hw];refine Nt (gR rev nx.id) sc (λh mid g=>?_) (λh g=>K3 g) N 0 d.flow false j i;cases mid;exact K3 g;exact aY g
 have m:(Dl N d rev sc nx).«end» = d.«end»:=by unfold Dl BM;rw[Hw];rfl
 have v:(Dl N d rev sc nx).revs.length<=1048576:=by
  have:=YV d.revs (I5 d nx) nx;show(FB d.revs (I5 d nx) nx).length<=_;omega
 have w3:=Kn (W:=Dl N d rev sc nx) (m2:=nx.id::m2) (K:=300000) (by simp;omega) (by omega) (QD (by omega) (by omega) r) (by rw[m];exact K3 h2) v l;refine⟨⟨(BM (C1 eD) sc N d d.revs []).2,fK d rev sc nx (DM N d rev sc) _ _ co (by omega) (λk H n hn u=>io (ju k) (HK m2) 150000 (by omega) (λh g=>⟨g.1,g.1⟩) N d [] h1 h2 w2.1 w2.2.1 w2.2.2 hn u) (OB b.revs) (λe c=>?_) (λH n=>?_)⟩,r,m⟩;have:(CT d.revs rev).2=false:=by rw[c];rfl
 unfold DM at e;split at e;cases e;split at e;cases e
 first|cases e|(rw[if_pos this]at e;cases e)
 have:=d49 (sc:=sc) (df 0 nx rev) (HK m2) 150000 (by omega) (λh g=>⟨⟨g.1,by have:=g.2.dlen;omega⟩,g.1⟩) N d (FB d.revs (I5 d nx) nx) () h1 h2 w3.1 w3.2.1 w3.2.2 (H:=H) (n:=n) (qg _) (by rintro o y ⟨⟩);rw[db]at this;exact this
section
variable {H : Hp} {p q : Nat} {a b : SV}
end
def P1 (a:Int) (y:Int):Bool:=y==a
def SK (l:List BC):Prop:=l.length<=256/\(∀r∈l,Cn r=0)/\l.Pairwise λa b=>a.id<b.id
theorem af {l:List BC} (h:Ct l=0):SK l:=by
 have hl:¬256<l.length:=λg=>by rw[Ct,if_pos g]at h;cases h
 refine⟨by omega,λr c=>?_,?_⟩;rw[Ct,if_neg hl]at h;obtain⟨i,hi,rfl⟩:=kW.1 c;have:=JK h i hi;unfold Fg at this;rw[qe hi]at this;dsimp only at this;by_cases e:Cn l[i]=0;exact e;rw[if_neg e]at this;exact this;exact kG.2 λi j hi b a=>I6 h i j a b
theorem Vc {l:List BC} (h:SK l):Ct l=0:=by
 obtain⟨h1,h2,b⟩:=h;rw[Ct,if_neg (by omega)];refine Mp λi hi=>?_;unfold Fg;rw[qe hi];dsimp only;rw[if_pos (h2 _ (qi hi))];by_cases c:i=0;rw[if_pos c];rw[if_neg c];have a:i-1<l.length:=by omega
 rw[qe a];dsimp only;have:=kG.1 b (i-1) i a hi (by omega);unfold GD;rw[if_neg (by omega),if_pos this];simp;omega
theorem Yw {l:List BC} (h:SK l) {r s:BC} (b:r∈l) (d:s∈l) (e:r.id=s.id):r=s:=by
 obtain⟨i,hi,rfl⟩:=kW.1 b;obtain⟨j,a,rfl⟩:=kW.1 d;rcases Nat.lt_trichotomy i j with c|c|c;have:=kG.1 h.2.2 i j hi a c;omega;subst c;rfl;have:=kG.1 h.2.2 j i a hi c;omega
theorem IS {l:List BC} (h:SK l) (p:BC->Bool):SK (l.filter p):=
 ⟨qI (kr _ _) h.1,λr a=>h.2.1 r (kD.1 a).1,h.2.2.sublist List.filter_sublist⟩
theorem XL:∀{a b:List BC},a.Pairwise (λa b=>a.id<b.id)->b.Pairwise (λa b=>a.id<b.id)->(∀y,y∈a↔y∈b)->a=b
 | [],[],_,_,_=>rfl
 | [],y::_,_,_,h=>absurd ((h y).2 (by simp)) (by simp)
 | x::_,[],_,_,h=>absurd ((h x).1 (by simp)) (by simp)
 | x :: a, y :: b, ha, hb, h => by
  obtain⟨a1,a2⟩:=ve.1 ha;obtain⟨b1,d⟩:=ve.1 hb;have e:x=y:=by
   rcases qt.1 ((h x).1 (by simp))with e|e;exact e;rcases qt.1 ((h y).2 (by simp))with g|g;exact g.symm;have:=b1 x e;have:=a1 y g;omega
  subst e;rw[XL a2 d λz=>?_];constructor;intro c;rcases qt.1 ((h z).1 (by simp[c]))with e|e;subst e;have:=a1 z c;omega;exact e;intro c;rcases qt.1 ((h z).2 (by simp[c]))with e|e;subst e;have:=b1 z c;omega;exact e
theorem U1 {l:List BC} (h:SK l) {r:BC} (d:r∈l):CT l r.id=(r,true):=by
 have h0:=Vc h;have h1:=OD ⟨r,d,rfl⟩;unfold CT at h1 ⊢;rw[if_pos h0]at h1 ⊢;split at h1;rename_i h2;rw[if_pos h2];have a:=Fw _ _ h2;obtain⟨k,c⟩:∃k,k=(Az (F6 l r.id) l.length).1:=⟨_,rfl⟩
 rw[<-c]at a ⊢;rw[qe a];have b:F6 l r.id k=0:=by
  simp only[Az,decide_eq_true_eq]at h2 c;rw[<-c]at h2;exact h2.2
 unfold F6 GD at b;rw[qe a]at b;dsimp only at b;have:l[k].id=r.id:=by
  split at b;omega;split at b;omega;omega
 rw[Yw h (qi a) d this];rfl;simp at h1
theorem WY {l:List BC} (h:SK l) {id:Int} (e:(CT l id).2=true):(CT l id).1∈l/\(CT l id).1.id=id:=by
 obtain⟨r,a,rfl⟩:=VJ e;rw[U1 h a];exact⟨a,rfl⟩
theorem P4 {l:List BC} {id:Int} (e:(CT l id).2=false):∀r∈l,r.id≠id:=λr a h=>by
 rw[OD ⟨r,a,h⟩]at e;cases e
theorem WF:∀{l:List BC},l.Pairwise (λa b=>a.id<b.id)->∀x:Int,∃k,k<=l.length/\(∀r∈l.take k,r.id<x)/\∀r∈l.drop k,x<=r.id
 | [],_,_=>⟨0,qa _,by simp,by simp⟩
 | a::l,h,x=>by
  obtain⟨h1,h2⟩:=ve.1 h;by_cases c:a.id<x;obtain⟨k,k1,e,k3⟩:=WF h2 x;refine⟨k+1,by simp;omega,λr d=>?_,λr d=>k3 r (by simpa using d)⟩;rw[kn]at d;rcases qt.1 d with rfl|d;exact c;exact e r d;refine⟨0,qg _,by simp,λr d=>?_⟩;rw[vt]at d;rcases qt.1 d with rfl|d;omega;have:=h1 r d;omega
def Ud (l:List BC) (r:BC):Nat:=(Az (F6 l r.id) l.length).1
theorem HD {l:List BC} {k:Nat} {r x:BC}:x∈FB l k r↔x=r\/x∈l:=by
 unfold FB
 conv=>rhs;rw[<-qM k l]
 simp only[qd,qt];exact⟨λh=>h.elim (λh=>.inr (.inl h)) λh=>h.elim .inl λh=>.inr (.inr h),λh=>h.elim (λh=>.inr (.inl h)) λh=>h.elim .inl λh=>.inr (.inr h)⟩
theorem UQ {l:List BC} (h:SK l) {r:BC} (hn:∀x∈l,x.id≠r.id):Az (F6 l r.id) l.length=(Ud l r,false)/\Ud l r<=l.length/\(l.length<256->Cn r=0->SK (FB l (Ud l r) r)):=by
 obtain⟨k,f,g,k3⟩:=WF h.2.2 r.id;have hc:∀m,(b:m<l.length)->F6 l r.id m=GD l[m].id r.id:=λm b=>by unfold F6;rw[qe b]
 have c1:∀m,m<k->F6 l r.id m<0:=λm b=>by
  have:=g (l[m]'(by omega)) (kW.2 ⟨m,by rw[vD];omega,by rw[List.getElem_take]⟩);rw[hc m (by omega)];unfold GD;rw[if_pos this];omega
 have i:∀m,k<=m->m<l.length->¬F6 l r.id m<0:=λm h1 b=>by
  have:=k3 l[m] (kW.2 ⟨m-k,by rw[vf];omega,by rw[List.getElem_drop];congr 1;omega⟩);rw[hc m b];unfold GD;rw[if_neg (by omega)];split<;>omega
 have e:EI (F6 l r.id) 0 l.length=k:=Mt c1 i l.length 0 l.length (by omega) (qg _) f (qa _);have j:Ud l r=k:=e;rw[j];refine⟨?_,f,λhl n=>⟨?_,λx a=>?_,?_⟩⟩;unfold Az;rw[e];have:¬(k<l.length/\F6 l r.id k=0):=λ⟨u,v⟩=>by
  rw[hc k u]at v;have:=hn l[k] (qi u);unfold GD at v;split at v;omega;split at v;omega;omega
 rw[decide_eq_false this];rw[RR _ _ _ f];omega;rcases HD.1 a with rfl|a;exact n;exact h.2.1 x a;unfold FB;have c:=h.2.2;rw[<-qM k l,List.pairwise_append]at c;refine List.pairwise_append.2 ⟨c.1,ve.2 ⟨λx a=>?_,c.2.1⟩,λx a y d=>?_⟩;have:=k3 x a;have:=hn x (kb a);omega;rcases qt.1 d with rfl|d;exact g x a;exact c.2.2 x a y d
theorem U8 {d:AG} {x:Int}:x∈Gc d↔x≠0/\x∈AB.usL d.flow++d.«end».all:=by
 unfold Gc C9;rw[List.mem_mergeSort,kD,Id];simp[and_comm]
theorem RX {U:List Int} {x:Int} (h:(Az (Js U x) U.length).2=true):x∈U:=by
 have a:=Fw _ _ h;simp only[Az,decide_eq_true_eq]at h a;obtain⟨k,b⟩:∃k,k=EI (Js U x) 0 U.length:=⟨_,rfl⟩
 rw[<-b]at h a;have:=h.2;unfold Js at this;rw[qe a]at this;dsimp only at this;split at this;omega;split at this;rename_i e;rw[<-e];exact qi a;omega
theorem IM {D:AG} {r:BC} (h0:r.id≠0):r∈D.normal.revs↔r∈D.revs/\r.id∈AB.usL (AO D.flow)++D.«end».all:=by
 show r∈D.revs.filter _↔_;rw[kD];constructor;rintro⟨h1,h2⟩;exact⟨h1,(U8.1 (RX h2)).2⟩;rintro⟨h1,h2⟩;exact⟨h1,SU h0 h2⟩
end Go.Proofs.YtgakninlhfkkmaaGreat.Sh
