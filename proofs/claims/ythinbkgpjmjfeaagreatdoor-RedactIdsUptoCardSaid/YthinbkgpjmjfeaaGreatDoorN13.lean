/- A part of the proof (part 13 of 17). -/
import Derived.Test.YthinbkgpjmjfeaaGreatDoorN12
namespace Go.Proofs.YthinbkgpjmjfeaaGreatDoor.Sh
open Go.Proofs.Tryz
abbrev ua:=@AF.zk
abbrev ud:=@AL.hd_eq
abbrev ue:=@AF.hd_eq
abbrev uf:=@AB.hd_eq
abbrev wV:=@AB.zk
abbrev wZ:=@AL.zk
open Proofs
set_option maxRecDepth 10000
set_option maxHeartbeats 4000000
def OQ(R:List Int)(nv:Int->Int->Int)(h:AG):AG:=
 { h with I:=BI R h.I,move:=nv h.I h.move,Y:=h.Y.map λd=>{ d with rev:=BI R d.rev,move:=nv d.rev d.move },Z:=h.Z.map λl=>{ l with rev:=BI R l.rev } }
def Qu(C:List Int)(c:AR):AR:={ c with id:=BI C c.id,parent:=BI C c.parent }
def Zi(R C:List Int)(nv:Int->Int->Int)(B:List Int×List Int)(e:AI):AI:=
 ⟨AB.miL (OQ R nv) (Io B) e.W,OQ R nv e.T0,FM e.V 0,{ e.S with C:=e.S.C.map (Qu C) }⟩
structure HR(R:List Int)(h:AG):Prop where
 I:h.I≠0->h.I∈R
 move:h.I=0->h.move=0
 Y:∀d∈h.Y,d.rev∈R
 lays:∀d∈h.Z,d.rev∈R
def GI:List Int->List AR->Prop
 | _,[]=>True
 | t,c::l=>c.id≠0/\c.id∉t/\(c.parent=0\/c.parent∈t)/\GI (t++[c.id]) l
structure Hc(N:Nat)(e:AI):Prop where
 wf:∃T,wf (HR (e.V.map (·.id))) T N e.W
 endi:e.T0.I=0
 endm:e.T0.move=0
 endd:e.T0.Y=[]
 endl:∀d∈e.T0.Z,d.rev∈e.V.map (·.id)
 revn:(e.V.map (·.id)).Nodup
 rev0:(0:Int)∉e.V.map (·.id)
 coms:GI [] e.S.C
 anch:∀a∈AB.anL e.W,ZG a
theorem If.zero:If True 1 [((0:Int),(0:Int))] [] where
 get x:=by simp[Cj,BI]
 len:=rfl
 val p hp:=by rw[qw]at hp;exact .inl ⟨trivial,by rw[hp]⟩
theorem Rg:∀(l:List By)(m:List (Int×Int))(t:List Int),If True 1 m t->(t++l.map (·.id)).Nodup->(0:Int)∉l.map (·.id)->If True 1 (Dk l t.length m) (t++l.map (·.id))
 | [],m,t,S,_,_=>by simpa[Dk]using S
 | r :: l, m, t, S, hn, h0 => by
  rw[Dk];have b:r.id∉t:=λg=>by
   rw[qu]at hn;exact hn.2.2 _ g _ mr rfl
  have a:=S.I (x:=r.id) (λ_ e=>h0 (by simp[e])) b;have:=Rg l _ (t++[r.id]) a (by simpa using hn) (λg=>h0 (by simp only[qi,qe];exact .inr g));simpa using this
theorem NR:∀(l:List AR)(m:List (Int×Int))(t:List Int),If True 1 m t->GI t l->If True 1 (CF l t.length m).2 (t++l.map (·.id))/\∀C,(∃r,C=t++l.map (·.id)++r)->0∉C->(CF l t.length m).1=l.map (Qu C)
 | [],m,t,S,_=>⟨by simpa[CF]using S,λ_ _ _=>rfl⟩
 | c :: l, m, t, S, hc => by
  obtain⟨c0,c1,f,h⟩:=hc;rw[CF];have a:=S.I (x:=c.id) (λ_=>c0) c1;obtain⟨h1,h2⟩:=NR l _ (t++[c.id]) a h;rw[ql,wl]at h1 h2;refine⟨by simpa using h1,λC d h0=>?_⟩;have hC2:=d;obtain⟨r,hr⟩:=d;have e:C=t++(c.id::(l.map (·.id)++r)):=by rw[hr];simp
  rw[qi];have b:=h2 C ⟨r,by rw[hr];simp⟩ h0
  push_cast at b
  rw[b];congr 1;unfold Qu;have i:BI C c.id=t.length+1:=by rw[e,Fy,mw c1,my mr];simp[BI]
  have j:Cj (DQ m c.id (t.length+1)) c.parent=BI C c.parent:=by
   rw[a.get];rcases f with g|g;rw[g,Cd.2 h0];refine Cd.2 λk=>?_;rcases qd.1 k with g3|g3;exact h0 (by rw[e];simp[g3]);rw[qw]at g3;exact c0 g3.symm;rw[Fy,my g,e,Fy,my g]
  rw[i,j]
theorem GI.pos:∀{l:List AR} {t:List Int},GI t l->(0:Int)∉l.map (·.id)
 | [],_,_=>by simp
 | c::l,t,h=>by
  obtain⟨c0,_,_,a⟩:=h;simp only[qi,qe,not_or];exact⟨λg=>c0 g.symm,a.pos⟩
theorem HR.met{R:List Int}{h:AG}(H:HR R h){p:Int×Int}(hp:p∈h.mvs)(h0:p.2≠0):p.1∈R:=by
 unfold AG.mvs at hp;rcases qe.1 hp with e|e;subst e;exact H.I λg=>h0 (H.move g);obtain⟨d,hd,rfl⟩:=qa.1 e;exact H.Y d hd
mutual
theorem Xi{hp:AG->Prop}{g g':AG->AG}{f f':Int×Int->Int}(hg:∀h,hp h->g h=g' h):∀(x:AB),(∀h∈x.hd,hp h)->(∀a∈x.an,f a=f' a)->AB.mi g f x=AB.mi g' f' x
 | .mk k c i t h fl r,hh,ha=>by
  rw[AB.hd]at hh;rw[AB.an]at ha;rw[AB.mi,AB.mi,Hj hg fl (λh m=>hh h (by simp[m])) (λa m=>ha a (by simp[m])),O1 hg r (λh m=>hh h (by simp[m])) (λa m=>ha a (by simp[m])),hg h (hh h mr)];congr 1;split
  . next e=>exact ha _ (by simp[e])
  rfl
theorem Hj{hp:AG->Prop}{g c:AG->AG}{f b:Int×Int->Int}(hg:∀h,hp h->g h=c h):∀(l:List AB),(∀h∈AB.hdL l,hp h)->(∀a∈AB.anL l,f a=b a)->AB.miL g f l=AB.miL c b l
 | [],_,_=>by rw[AB.miL,AB.miL]
 | x::l,hh,ha=>by
  rw[AB.hdL]at hh;rw[AB.anL]at ha;rw[AB.miL,AB.miL,Xi hg x (λh m=>hh h (by simp[m])) (λa m=>ha a (by simp[m])),Hj hg l (λh m=>hh h (by simp[m])) (λa m=>ha a (by simp[m]))]
theorem VV{hp:AG->Prop}{g d:AG->AG}{f b:Int×Int->Int}(hg:∀h,hp h->g h=d h):∀(x:AL),(∀h∈x.hd,hp h)->(∀a∈x.an,f a=b a)->AL.mi g f x=AL.mi d b x
 | .mk h c,hh,ha=>by
  rw[AL.hd]at hh;rw[AL.an]at ha;rw[AL.mi,AL.mi,O0 hg c (λh m=>hh h (by simp[m])) (λa m=>ha a (by simp[m])),hg h (hh h mr)]
theorem O1{hp:AG->Prop}{g c:AG->AG}{f b:Int×Int->Int}(hg:∀h,hp h->g h=c h):∀(l:List AL),(∀h∈AL.hdL l,hp h)->(∀a∈AL.anL l,f a=b a)->AL.miL g f l=AL.miL c b l
 | [],_,_=>by rw[AL.miL,AL.miL]
 | x::l,hh,ha=>by
  rw[AL.hdL]at hh;rw[AL.anL]at ha;rw[AL.miL,AL.miL,VV hg x (λh m=>hh h (by simp[m])) (λa m=>ha a (by simp[m])),O1 hg l (λh m=>hh h (by simp[m])) (λa m=>ha a (by simp[m]))]
theorem VU{hp:AG->Prop}{g c:AG->AG}{f b:Int×Int->Int}(hg:∀h,hp h->g h=c h):∀(x:AF),(∀h∈x.hd,hp h)->(∀a∈x.an,f a=b a)->AF.mi g f x=AF.mi c b x
 | .mk i h fl,hh,ha=>by
  rw[AF.hd]at hh;rw[AF.an]at ha;rw[AF.mi,AF.mi,Hj hg fl (λh m=>hh h (by simp[m])) (λa m=>ha a (by simp[m])),hg h (hh h mr)]
theorem O0{hp:AG->Prop}{g c:AG->AG}{f b:Int×Int->Int}(hg:∀h,hp h->g h=c h):∀(l:List AF),(∀h∈AF.hdL l,hp h)->(∀a∈AF.anL l,f a=b a)->AF.miL g f l=AF.miL c b l
 | [],_,_=>by rw[AF.miL,AF.miL]
 | x::l,hh,ha=>by
  rw[AF.hdL]at hh;rw[AF.anL]at ha;rw[AF.miL,AF.miL,VU hg x (λh m=>hh h (by simp[m])) (λa m=>ha a (by simp[m])),O0 hg l (λh m=>hh h (by simp[m])) (λa m=>ha a (by simp[m]))]
end
theorem AL.hdL_eq:∀l:List AL,AL.hdL l=l.flatMap AL.hd
 | []=>by rw[AL.hdL];rfl
 | x::l=>by rw[AL.hdL,AL.hdL_eq l];rfl
theorem AF.hdL_eq:∀l:List AF,AF.hdL l=l.flatMap AF.hd
 | []=>by rw[AF.hdL];rfl
 | x::l=>by rw[AF.hdL,AF.hdL_eq l];rfl
theorem AB.hdL_eq:∀l:List AB,AB.hdL l=l.flatMap AB.hd
 | []=>by rw[AB.hdL];rfl
 | x::l=>by rw[AB.hdL,AB.hdL_eq l];rfl
theorem I8{hp:AG->Prop}{T:Int->Prop}:∀{N:Nat} {l:List AB},wf hp T N l->∀h∈AB.hdL l,hp h
 | 0,_,H,_,_=>H.elim
 | N+1,l,H,h,hh=>by
  rw[AB.hdL_eq,qE]at hh;obtain⟨x,j,hm⟩:=hh;obtain⟨a,b,c,d,e,f,q⟩:=DG.1 H x j;rw[uf]at hm;rcases qe.1 hm with g|g;rw[g];exact a;rcases qd.1 g with g|g;exact I8 f h g;rw[AL.hdL_eq,qE]at g;obtain⟨r,hr,hm⟩:=g;rw[ud]at hm;rcases qe.1 hm with g|g;rw[g];exact(q r hr).1;rw[AF.hdL_eq,qE]at g;obtain⟨y,i,hm⟩:=g;rw[ue]at hm;rcases qe.1 hm with g|g;rw[g];exact((q r hr).2.2 y i).2.1;exact I8 ((q r hr).2.2 y i).2.2 h g
abbrev A6(e:AI):List Int:=e.V.map (·.id)
abbrev Ee(e:AI):List Int:=e.S.C.map (·.id)
def Mm(e:AI):List (List Int):=(C6 (AB.hdL e.W)).foldl (E3 (A6 e)) (List.replicate (A6 e).length [])
def H5(e:AI):List Int×List Int:=(AB.anL e.W).foldl MK ([],Ee e)
def MR(e:AI):AI:=Zi (A6 e) (Ee e) (Dy (A6 e) (Mm e)) (H5 e) e
theorem T5{N:Nat}{e:AI}(H:Hc N e):Jg N e=MR e:=by
 obtain⟨T,hw⟩:=H.wf;have l:=H.coms.pos;have j:=Rg e.V _ [] If.zero (by simpa using H.revn) H.rev0;obtain⟨k,o⟩:=NR e.S.C _ [] If.zero H.coms;have n:=o (Ee e) ⟨[],by simp[Ee]⟩ l;simp only[qI,vU,Int.natCast_zero]at j k n;have q:OO ((CF e.S.C 0 [(0,0)]).2,[]) ([],Ee e):=⟨k,⟨λx=>rfl,rfl,λp hp=>by cases hp⟩⟩
 have b:∀p,p∈HY N e↔p.2≠0/\p∈C6 (AB.hdL e.W):=λp=>by
  rw[Px hw,(Ld _ [] List.nodup_nil).2];simp only[vG,false_or];refine and_congr_right λh0=>?_;simp only[C6,qH,qd];refine⟨λg=>g.elim id λg=>?_,.inl⟩;simp only[va,List.flatMap_nil,qV,AG.mvs,H.endd,H.endi,H.endm,vN,qw]at g;exact absurd (by rw[g]) h0
 have c:(HY N e).Nodup:=by rw[Px hw];exact(Ld _ [] List.nodup_nil).1
 have f:∀r∈A6 e,∀m,FK (FD (DS (HY N e))).2 (r,m)=Dy (A6 e) (Mm e) r m:=λr hr m=>dL c b hr m;have i:∀h:AG,HR (A6 e) h->FK (FD (DS (HY N e))).2 (h.I,h.move)=Dy (A6 e) (Mm e) h.I h.move:=λh hh=>by
  by_cases h0:h.I=0;rw[h0,hh.move h0,Xt c (λg=>((b _).1 g).1 rfl),Dy,mw (by rw[Cd.2 H.rev0];simp)];exact f _ (hh.I h0) _
 have hg:∀h,HR (A6 e) h->L7 (FD (DS (HY N e))).2 (Dk e.V 0 [(0,0)]) h=OQ (A6 e) (Dy (A6 e) (Mm e)) h:=λh hh=>by
  have hd:h.Y.map (λd=>{ d with rev:=Cj (Dk e.V 0 [(0,0)]) d.rev,move:=FK (FD (DS (HY N e))).2 (d.rev,d.move) })=h.Y.map λd=>{ d with rev:=BI (A6 e) d.rev,move:=Dy (A6 e) (Mm e) d.rev d.move }:=
   qF λd hd=>by rw[j.get,f _ (hh.Y d hd)]
  have u:h.Z.map (λd=>{ d with rev:=Cj (Dk e.V 0 [(0,0)]) d.rev })=h.Z.map λd=>{ d with rev:=BI (A6 e) d.rev }:=
   qF λd hd=>by rw[j.get]
  unfold L7 OQ;rw[hd,u,i h hh,j.get]
 have hend:HR (A6 e) e.T0:=⟨λg=>absurd H.endi g,λ_=>H.endm,λd hd=>(by rw[H.endd]at hd;cases hd),H.endl⟩
 unfold Jg MR Zi IT;dsimp only;rw[WU hw _ _ _ _ (λg=>by have:=k.len;dsimp only at g;rw[g]at this;simp at this)];dsimp only;rw[n];have t:((MS (FD (DS (HY N e))).2 (Dk e.V 0 [(0,0)])).H e.T0 ((AB.anL e.W).foldl G4 ((CF e.S.C 0 [(0,0)]).2,[]))).1=OQ (A6 e) (Dy (A6 e) (Mm e)) e.T0:=hg _ hend;rw[t];congr 1;exact Hj (hp:=HR (A6 e)) hg _ (I8 hw) λa s=>(q.fold H.anch).look (H.anch a s)
mutual
def AB.gm(g:AG->AG)(p:Int->Int->Int->Int)(q:Int->Int):AB->AB
 | .mk k c i t h f r=>.mk k c (p k c i) t (g h) (AB.gmL g p q f) (AL.gmL g p q r)
def AB.gmL(g:AG->AG)(p:Int->Int->Int->Int)(q:Int->Int):List AB->List AB
 | []=>[]
 | x::l=>AB.gm g p q x::AB.gmL g p q l
def AL.gm(g:AG->AG)(p:Int->Int->Int->Int)(q:Int->Int):AL->AL
 | .mk h c=>.mk (g h) (AF.gmL g p q c)
def AL.gmL(g:AG->AG)(p:Int->Int->Int->Int)(q:Int->Int):List AL->List AL
 | []=>[]
 | x::l=>AL.gm g p q x::AL.gmL g p q l
def AF.gm(g:AG->AG)(p:Int->Int->Int->Int)(q:Int->Int):AF->AF
 | .mk i h f=>.mk (q i) (g h) (AB.gmL g p q f)
def AF.gmL(g:AG->AG)(p:Int->Int->Int->Int)(q:Int->Int):List AF->List AF
 | []=>[]
 | x::l=>AF.gm g p q x::AF.gmL g p q l
end
section
variable(g:AG->AG)(p:Int->Int->Int->Int)(q:Int->Int)
theorem AB.gmL_eq:∀l:List AB,AB.gmL g p q l=l.map (AB.gm g p q)
 | []=>by rw[AB.gmL];rfl
 | x::l=>by rw[AB.gmL,AB.gmL_eq l];rfl
theorem AL.gmL_eq:∀l:List AL,AL.gmL g p q l=l.map (AL.gm g p q)
 | []=>by rw[AL.gmL];rfl
 | x::l=>by rw[AL.gmL,AL.gmL_eq l];rfl
theorem AF.gmL_eq:∀l:List AF,AF.gmL g p q l=l.map (AF.gm g p q)
 | []=>by rw[AF.gmL];rfl
 | x::l=>by rw[AF.gmL,AF.gmL_eq l];rfl
theorem AB.gm_eq(x:AB):AB.gm g p q x=.mk x.x x.code (p x.x x.code x.id) x.J (g x.H) (AB.gmL g p q x.W) (x.R.map (AL.gm g p q)):=by cases x;rw[AB.gm,AL.gmL_eq];rfl
theorem AL.gm_eq(x:AL):AL.gm g p q x=.mk (g x.H) (x.cells.map (AF.gm g p q)):=by cases x;rw[AL.gm,AF.gmL_eq];rfl
theorem AF.gm_eq(x:AF):AF.gm g p q x=.mk (q x.id) (g x.H) (AB.gmL g p q x.W):=by cases x;rw[AF.gm];rfl
end
section
variable(g:AG->AG)(f:Int×Int->Int)
abbrev U7(f:Int×Int->Int)(k c i:Int):Int:=if k=8 then f (c,i)else i
mutual
theorem iG:∀x:AB,AB.mi g f x=AB.gm g (U7 f) id x
 | .mk k c i t h fl r=>by rw[AB.mi,AB.gm,KB fl,Xk r]
theorem KB:∀l:List AB,AB.miL g f l=AB.gmL g (U7 f) id l
 | []=>by rw[AB.miL,AB.gmL]
 | x::l=>by rw[AB.miL,AB.gmL,iG x,KB l]
theorem dH:∀x:AL,AL.mi g f x=AL.gm g (U7 f) id x
 | .mk h c=>by rw[AL.mi,AL.gm,Xj c]
theorem Xk:∀l:List AL,AL.miL g f l=AL.gmL g (U7 f) id l
 | []=>by rw[AL.miL,AL.gmL]
 | x::l=>by rw[AL.miL,AL.gmL,dH x,Xk l]
theorem dG:∀x:AF,AF.mi g f x=AF.gm g (U7 f) id x
 | .mk i h fl=>by rw[AF.mi,AF.gm,KB fl];rfl
theorem Xj:∀l:List AF,AF.miL g f l=AF.gmL g (U7 f) id l
 | []=>by rw[AF.miL,AF.gmL]
 | x::l=>by rw[AF.miL,AF.gmL,dG x,Xj l]
end
end
section
variable{hp hp':AG->Prop}{T T':Int->Prop}{p:Int->Int->Int->Int}{q:Int->Int}
theorem Y3{g:AG->AG}(hg:∀x,hp x->hp' (g x)):∀{N:Nat} {l:List AB},wf hp T N l->wf hp' (λ_=>True) N (AB.gmL g p q l)
 | 0,_,h=>h.elim
 | N+1,l,H=>DG.2 λy i=>by
  rw[AB.gmL_eq]at i;obtain⟨x,m,rfl⟩:=qa.1 i;obtain⟨a,b,c,d,e,f,w⟩:=DG.1 H x m;rw[AB.gm_eq];refine⟨hg _ a,λk=>?_,λk=>?_,λk=>?_,λ_=>trivial,Y3 hg f,λr hr=>?_⟩;show AB.gmL g p q x.W=[];rw[b k,AB.gmL];show x.R.map _=[];rw[c k];rfl;show x.R.map _≠[];simpa using d k;obtain⟨r0,h0,rfl⟩:=qa.1 hr;obtain⟨u,v,z⟩:=w r0 h0;rw[AL.gm_eq];refine⟨hg _ u,by show r0.cells.map _≠[];simpa using v,λc j=>?_⟩;obtain⟨c0,h1,rfl⟩:=qa.1 j;obtain⟨u1,n,o⟩:=z c0 h1;rw[AF.gm_eq];exact⟨trivial,hg _ n,Y3 hg o⟩
theorem H8(g:AG->AG)(x:AB):Bf (AB.gm g p q x)↔Bf x:=by
 rw[AB.gm_eq];unfold Bf;show(x.x=7/\x.R.map _=[]\/x.x=1/\x.J.size=0)↔_;rw[List.map_eq_nil_iff]
theorem RS{g:AG->AG}(hg:∀a b,hp a->hp b->g a=g b->a=b){out:List AB}{x:AB}(i:∀y∈out,hp y.H)(j:hp x.H):Ah (out.map (AB.gm g p q)) (AB.gm g p q x)=(Ah out x).map (AB.gm g p q):=by
 unfold Ah;by_cases c:Bf x;rw[my c,my ((H8 g x).2 c)];rw[mw c,mw λe=>c ((H8 g x).1 e),List.getLast?_map];cases h:out.getLast? with
 | none=>simp
 | some y=>
  have l:=i y (List.mem_of_getLast? h);have d:(AB.gm g p q x).x=x.x/\(AB.gm g p q x).H=g x.H/\(AB.gm g p q x).J=x.J:=by rw[AB.gm_eq];exact⟨rfl,rfl,rfl⟩
  have f:(AB.gm g p q y).x=y.x/\(AB.gm g p q y).H=g y.H:=by rw[AB.gm_eq];exact⟨rfl,rfl⟩
  simp only[vE];rw[d.1,d.2.1,d.2.2,f.1,f.2];by_cases k:x.x=1/\y.x=1/\y.H=x.H;rw[my k,my ⟨k.1,k.2.1,by rw[k.2.2]⟩,qc,List.map_dropLast];congr 1;show[_]=[_];rw[AB.gm_eq,AB.gm_eq];rfl;rw[mw k,mw λe=>k ⟨e.1,e.2.1,hg _ _ l j e.2.2⟩,qc];rfl
theorem UD{g:AG->AG}(hg:∀a b,hp a->hp b->g a=g b->a=b):∀(l out:List AB),(∀y∈out,hp y.H)->(∀y∈l,hp y.H)->(l.map (AB.gm g p q)).foldl Ah (out.map (AB.gm g p q))=(l.foldl Ah out).map (AB.gm g p q)
 | [],_,_,_=>rfl
 | x::l,out,ho,hl=>by
  rw[qi,qL,qL,RS hg ho (hl x mr)];exact UD hg l _ (Ky (p:=λy=>hp y.H) (λ_ _ h=>h) ho (hl x mr)) λy c=>hl y (by simp[c])
theorem Lc{g:AG->AG}(hg:∀a b,hp a->hp b->g a=g b->a=b):∀{N:Nat} {l:List AB},wf hp T N l->AY (AB.gmL g p q l)=AB.gmL g p q (AY l)
 | 0,_,h=>h.elim
 | N + 1, l, H => by
  have H:=DG.1 H;have e:∀x∈l,AB.N (AB.gm g p q x)=AB.gm g p q (AB.N x):=λx i=>by
   obtain⟨a,b,c,d,e,f,z⟩:=H x i;have h1:=Lc hg f;have h2:((x.R.map (AL.gm g p q)).map AL.N).filter (λr=>!decide (r.cells.length=0))=((x.R.map AL.N).filter λr=>!decide (r.cells.length=0)).map (AL.gm g p q):=by
    have k:(x.R.map (AL.gm g p q)).map AL.N=(x.R.map AL.N).map (AL.gm g p q):=by
     rw[vO,vO];refine qF λr hr=>?_;obtain⟨u,v,w⟩:=z r hr;simp only[Function.comp];rw[AL.gm_eq,wZ,wZ,AL.gm_eq];show AL.mk (g r.H) ((r.cells.map (AF.gm g p q)).map AF.N)=AL.mk (g r.H) ((r.cells.map AF.N).map (AF.gm g p q));congr 1;rw[vO,vO];refine qF λc m=>?_;have:=Lc hg (w c m).2.2;simp only[Function.comp];rw[AF.gm_eq,ua,ua,AF.gm_eq];show AF.mk (q c.id) (g c.H) (AY (AB.gmL g p q c.W))=AF.mk (q c.id) (g c.H) (AB.gmL g p q (AY c.W));rw[this]
    rw[k,List.filter_map];congr 1;refine List.filter_congr λr _=>?_;simp only[Function.comp];rw[AL.gm_eq];show(!decide ((r.cells.map (AF.gm g p q)).length=0))=_;rw[qf]
   rw[AB.gm_eq,wV,wV,AB.gm_eq];show AB.mk x.x x.code (p x.x x.code x.id) x.J (g x.H) (AY (AB.gmL g p q x.W)) (((x.R.map (AL.gm g p q)).map AL.N).filter λr=>!decide (r.cells.length=0))=AB.mk x.x x.code (p x.x x.code x.id) x.J (g x.H) (AB.gmL g p q (AY x.W)) (((x.R.map AL.N).filter λr=>!decide (r.cells.length=0)).map (AL.gm g p q));rw[h1,h2]
  have:=UD (p:=p) (q:=q) hg (l.map AB.N) [] (λy j=>by cases j) λy j=>by
   obtain⟨x,i,rfl⟩:=qa.1 j;rw[wV];exact(H x i).H
  unfold AY EM;rw[wH,wH,AB.gmL_eq,AB.gmL_eq,<-this,vO,vO];congr 1;exact qF λx i=>e x i
end
def jT(x y:AB):Prop:=y.x=1/\x.x=1/\x.H=y.H
def SK:List AB->Prop
 | []=>True
 | [x]=>¬Bf x
 | x::y::l=>¬Bf x/\¬jT x y/\SK (y::l)
theorem SK.snoc:∀{l:List AB} {y:AB},SK l->¬Bf y->(∀z,l.getLast? = some z->¬jT z y)->SK (l++[y])
 | [],y,_,h,_=>h
 | [x],y,h1,h2,h3=>⟨h1,h3 x rfl,h2⟩
 | x::z::l,y,h1,h2,h3=>⟨h1.1,h1.2.1,SK.snoc (l:=z::l) h1.2.2 h2 λw hw=>h3 w (by rw[List.getLast?_cons_cons];exact hw)⟩
theorem NF.adj{l:List AB}(h:NF l):SK l:=by
 induction h with
 | nil=>trivial
 | @snoc out y h e ih =>
  unfold Ah at e;have nd:¬Bf y:=λc=>by
   rw[my c]at e;have:=congrArg List.length e;simp at this
  rw[mw nd]at e;refine ih.snoc nd λz b k=>?_;rw[b]at e;dsimp only at e;unfold jT at k;rw[my k]at e;have a:out≠[]:=λh=>by rw[h]at b;cases b
  have:=congrArg List.length e;have:=qD.2 a;simp at *;omega
theorem SK.fold:∀{l:List AB} {x:AB} {out:List AB},SK (x::l)->l.foldl Ah (out++[x])=out++x::l
 | [],_,_,_=>rfl
 | y :: l, x, out, h => by
  have nd:¬Bf y:=by
   cases l with
   | nil=>exact h.2.2
   | cons=>exact h.2.2.1
  have e:Ah (out++[x]) y=(out++[x])++[y]:=by
   unfold Ah;rw[mw nd,wt];dsimp only;have a:=h.2.1;unfold jT at a;rw[mw a]
  rw[qL,e,SK.fold h.2.2];simp
theorem SK.fix{l:List AB}(h:SK l):l.foldl Ah []=l:=by
 cases l with
 | nil=>rfl
 | cons x l =>
  have nd:¬Bf x:=by
   cases l with
   | nil=>exact h
   | cons=>exact h.1
  have e:Ah [] x=[]++[x]:=by unfold Ah;rw[mw nd];rfl
  rw[qL,e,h.fold];rfl
def UX:Nat->List AB->Prop
 | 0,_=>False
 | N+1,l=>SK l/\∀x∈l,UX N x.W/\∀r∈x.R,r.cells≠[]/\∀c∈r.cells,UX N c.W
theorem UX.fix:∀{N:Nat} {l:List AB},UX N l->AY l=l
 | 0,_,h=>h.elim
 | N + 1, l, ⟨h1, h2⟩ => by
  have:AB.nrmL l=l:=by
   rw[wH]
   conv=>rhs;rw[<-wB l]
   refine qF λx f=>?_;obtain⟨g1,a⟩:=h2 x f;have hr:=Fw λr hr=>(a r hr).1;have e:x.R.map AL.N=x.R:=by
    conv=>rhs;rw[<-wB x.R]
    refine qF λr hr=>?_;have b:r.cells.map AF.N=r.cells:=by
     conv=>rhs;rw[<-wB r.cells]
     refine qF λc d=>?_;rw[ua,UX.fix ((a r hr).2 c d)];cases c;rfl
    rw[wZ,b];cases r;rfl
   rw[wV,hr,e,UX.fix g1];cases x;rfl
  unfold AY EM;rw[this,h1.fix]
section
variable{hp:AG->Prop}{T:Int->Prop}
theorem KC:∀{N:Nat} {l:List AB},wf hp T N l->UX N (AY l)
 | 0,_,h=>h.elim
 | N+1,l,H=>by
  refine⟨(NF.folds _ .nil).adj,?_⟩;unfold AY EM;rw[wH];refine JG (p:=λx=>UX N x.W/\∀r∈x.R,r.cells≠[]/\∀c∈r.cells,UX N c.W) (λx t h=>h) _ _ (λy g=>by cases g) λy g=>?_;obtain⟨x,j,rfl⟩:=qa.1 g;obtain⟨a,b,c,d,e,f,w⟩:=DG.1 H x j;have hr:=Fw λr hr=>(w r hr).2.1;rw[wV,hr];refine⟨KC f,λr hr=>?_⟩;obtain⟨r0,h0,rfl⟩:=qa.1 hr;obtain⟨u,v,z⟩:=w r0 h0;rw[wZ];refine⟨by show r0.cells.map _≠[];simpa using v,λc i=>?_⟩;obtain⟨c0,h1,rfl⟩:=qa.1 i;rw[ua];exact KC (z c0 h1).2.2
theorem WB{g:AG->AG}{p:Int->Int->Int->Int}{q:Int->Int}(hg:∀a b,hp a->hp b->g a=g b->a=b):∀{l:List AB},(∀x∈l,hp x.H)->SK l->SK (l.map (AB.gm g p q))
 | [],_,_=>trivial
 | [x],_,h=>λe=>h ((H8 g x).1 e)
 | x::y::l,hh,h=>by
  refine⟨λe=>h.1 ((H8 g x).1 e),λe=>h.2.1 ?_,WB hg (l:=y::l) (λz i=>hh z (by simp only[qe];exact .inr (by simpa using i))) h.2.2⟩;obtain⟨d,f,c⟩:=e;rw[AB.gm_eq]at d f c;rw[AB.gm_eq g p q y]at c;exact⟨d,f,hg _ _ (hh x mr) (hh y mr) c⟩
theorem TJ{g:AG->AG}{p:Int->Int->Int->Int}{q:Int->Int}(hg:∀a b,hp a->hp b->g a=g b->a=b):∀{N:Nat} {l:List AB},wf hp T N l->UX N l->UX N (AB.gmL g p q l)
 | 0,_,h,_=>h.elim
 | N+1,l,H,⟨h1,h2⟩=>by
  rw[AB.gmL_eq];have H:=DG.1 H;refine⟨WB hg (λx i=>(H x i).H) h1,λy m=>?_⟩;obtain⟨x,i,rfl⟩:=qa.1 m;obtain⟨a,b,c,d,e,f,w⟩:=H x i;rw[AB.gm_eq];refine⟨TJ hg f (h2 x i).1,λr hr=>?_⟩;obtain⟨r0,h0,rfl⟩:=qa.1 hr;rw[AL.gm_eq];refine⟨by show r0.cells.map _≠[];simpa using((h2 x i).2 r0 h0).1,λc k=>?_⟩;obtain⟨c0,j,rfl⟩:=qa.1 k;rw[AF.gm_eq];exact TJ hg ((w r0 h0).2.2 c0 j).2.2 (((h2 x i).2 r0 h0).2 c0 j)
end
mutual
theorem dt:∀(x:AB)(c:Int),Fi c (Fi c x).1=Fi c x
 | .mk k co i t h f r,c=>by
  rw[Fi];split
  . next e=>dsimp only;rw[Fi,my e,QC f]
  . next e=>
    split
    . next e2=>dsimp only;rw[Fi,mw e,my e2,YL r]
    . next e2=>dsimp only;rw[Fi,mw e,mw e2]
theorem QC:∀(l:List AB)(c:Int),Cu c (Cu c l).1=Cu c l
 | [],c=>by rw[Cu,Cu]
 | x::l,c=>by rw[Cu];dsimp only;rw[Cu,dt x,QC l]
theorem du:∀(x:AL)(c:Int),Ib c (Ib c x).1=Ib c x
 | .mk h cs,c=>by rw[Ib];dsimp only;rw[Ib,YJ cs]
theorem YL:∀(l:List AL)(c:Int),Do c (Do c l).1=Do c l
 | [],c=>by rw[Do,Do]
 | x::l,c=>by rw[Do];dsimp only;rw[Do,du x,YL l]
theorem dq:∀(x:AF)(c:Int),Ia c (Ia c x).1=Ia c x
 | .mk i h f,c=>by rw[Ia];dsimp only;rw[Ia,QC f]
theorem YJ:∀(l:List AF)(c:Int),Dm c (Dm c l).1=Dm c l
 | [],c=>by rw[Dm,Dm]
 | x::l,c=>by rw[Dm];dsimp only;rw[Dm,dq x,YJ l]
end
mutual
theorem dm:∀(x:AB)(c:Int),AB.hd (Fi c x).1=AB.hd x
 | .mk k co i t h f r,c=>by
  rw[Fi];split
  . next e=>dsimp only;rw[AB.hd,AB.hd,N0 f]
  . next e=>
    split
    . next e2=>dsimp only;rw[AB.hd,AB.hd,YI r]
    rfl
theorem N0:∀(l:List AB)(c:Int),AB.hdL (Cu c l).1=AB.hdL l
 | [],c=>by rw[Cu]
 | x::l,c=>by rw[Cu];dsimp only;rw[AB.hdL,AB.hdL,dm x,N0 l]
theorem dn:∀(x:AL)(c:Int),AL.hd (Ib c x).1=AL.hd x
 | .mk h cs,c=>by rw[Ib];dsimp only;rw[AL.hd,AL.hd,YH cs]
theorem YI:∀(l:List AL)(c:Int),AL.hdL (Do c l).1=AL.hdL l
 | [],c=>by rw[Do]
 | x::l,c=>by rw[Do];dsimp only;rw[AL.hdL,AL.hdL,dn x,YI l]
theorem dj:∀(x:AF)(c:Int),AF.hd (Ia c x).1=AF.hd x
 | .mk i h f,c=>by rw[Ia];dsimp only;rw[AF.hd,AF.hd,N0 f]
theorem YH:∀(l:List AF)(c:Int),AF.hdL (Dm c l).1=AF.hdL l
 | [],c=>by rw[Dm]
 | x::l,c=>by rw[Dm];dsimp only;rw[AF.hdL,AF.hdL,dj x,YH l]
end
mutual
theorem dg:∀(x:AB)(c:Int),AB.an (Fi c x).1=AB.an x
 | .mk k co i t h f r,c=>by
  rw[Fi];split
  . next e=>dsimp only;rw[AB.an,AB.an,Nz f,mw (show ¬k=8 by omega),mw (show ¬k=8 by omega)]
  . next e=>
    split
    . next e2=>dsimp only;rw[AB.an,AB.an,YD r,mw (show ¬k=8 by omega),mw (show ¬k=8 by omega)]
    rfl
theorem Nz:∀(l:List AB)(c:Int),AB.anL (Cu c l).1=AB.anL l
 | [],c=>by rw[Cu]
 | x::l,c=>by rw[Cu];dsimp only;rw[AB.anL,AB.anL,dg x,Nz l]
theorem dh:∀(x:AL)(c:Int),AL.an (Ib c x).1=AL.an x
 | .mk h cs,c=>by rw[Ib];dsimp only;rw[AL.an,AL.an,YC cs]
theorem YD:∀(l:List AL)(c:Int),AL.anL (Do c l).1=AL.anL l
 | [],c=>by rw[Do]
 | x::l,c=>by rw[Do];dsimp only;rw[AL.anL,AL.anL,dh x,YD l]
theorem df:∀(x:AF)(c:Int),AF.an (Ia c x).1=AF.an x
 | .mk i h f,c=>by rw[Ia];dsimp only;rw[AF.an,AF.an,Nz f]
theorem YC:∀(l:List AF)(c:Int),AF.anL (Dm c l).1=AF.anL l
 | [],c=>by rw[Dm]
 | x::l,c=>by rw[Dm];dsimp only;rw[AF.anL,AF.anL,df x,YC l]
end
mutual
theorem dz:∀(x:AB)(c:Int),AB.us (Fi c x).1=AB.us x
 | .mk k co i t h f r,c=>by
  rw[Fi];split
  . next e=>dsimp only;rw[AB.us,AB.us,QE f]
  . next e=>
    split
    . next e2=>dsimp only;rw[AB.us,AB.us,YQ r]
    rfl
theorem QE:∀(l:List AB)(c:Int),AB.U (Cu c l).1=AB.U l
 | [],c=>by rw[Cu]
 | x::l,c=>by rw[Cu];dsimp only;rw[AB.U,AB.U,dz x,QE l]
theorem d8:∀(x:AL)(c:Int),AL.us (Ib c x).1=AL.us x
 | .mk h cs,c=>by rw[Ib];dsimp only;rw[AL.us,AL.us,YO cs]
theorem YQ:∀(l:List AL)(c:Int),AL.U (Do c l).1=AL.U l
 | [],c=>by rw[Do]
 | x::l,c=>by rw[Do];dsimp only;rw[AL.U,AL.U,d8 x,YQ l]
theorem dy:∀(x:AF)(c:Int),AF.us (Ia c x).1=AF.us x
 | .mk i h f,c=>by rw[Ia];dsimp only;rw[AF.us,AF.us,QE f]
theorem YO:∀(l:List AF)(c:Int),AF.U (Dm c l).1=AF.U l
 | [],c=>by rw[Dm]
 | x::l,c=>by rw[Dm];dsimp only;rw[AF.U,AF.U,dy x,YO l]
end
abbrev p6(p:Int->Int->Int->Int)(k c i:Int):Int:=if k=6\/k=7 then i else p k c i
section
variable{g:AG->AG}{p:Int->Int->Int->Int}{q:Int->Int}{hp:AG->Prop}{T:Int->Prop}
def ZM(g:AG->AG)(p:Int->Int->Int->Int)(q:Int->Int)(l:List AB):Prop:=∀c,Cu c (AB.gmL g p q l)=(AB.gmL g (p6 p) id (Cu c l).1,(Cu c l).2)
theorem YE:∀(l:List AF)(c:Int),(∀y∈l,ZM g p q y.W)->Dm c (AF.gmL g p q l)=(AF.gmL g (p6 p) id (Dm c l).1,(Dm c l).2)
 | [],c,_=>by rw[AF.gmL,Dm,AF.gmL]
 | .mk i h f::l,c,hl=>by
  have h1:ZM g p q f:=hl (.mk i h f) mr;rw[AF.gmL,AF.gm,Dm,Dm,Ia,Ia,h1];dsimp only;rw[YE l _ λy a=>hl y (by simp[a]),AF.gmL,AF.gm];rfl
theorem YF:∀(l:List AL)(c:Int),(∀r∈l,∀y∈r.cells,ZM g p q y.W)->Do c (AL.gmL g p q l)=(AL.gmL g (p6 p) id (Do c l).1,(Do c l).2)
 | [],c,_=>by rw[AL.gmL,Do,AL.gmL]
 | .mk h cs::l,c,hl=>by
  have h1:∀y∈cs,ZM g p q y.W:=hl (.mk h cs) mr;rw[AL.gmL,AL.gm,Do,Do,Ib,Ib,YE cs _ h1];dsimp only;rw[YF l _ λy a=>hl y (by simp[a]),AL.gmL,AL.gm]
theorem di(x:AB)(c:Int)(k6:x.x≠6->x.W=[])(k7:x.x≠7->x.R=[])(b:ZM g p q x.W)(hr:∀r∈x.R,∀y∈r.cells,ZM g p q y.W):Fi c (AB.gm g p q x)=(AB.gm g (p6 p) id (Fi c x).1,(Fi c x).2):=by
 obtain⟨k,co,i,t,h,f,r⟩:=x;have k6:k≠6->f=[]:=k6;have k7:k≠7->r=[]:=k7;have b:ZM g p q f:=b;have hr:∀x∈r,∀y∈x.cells,ZM g p q y.W:=hr;rw[AB.gm,Fi,Fi];by_cases e:k=6;rw[my e,my e,b,k7 mq,AB.gm,p6,my (.inl e),AL.gmL,AL.gmL];rw[mw e,mw e,k6 e];by_cases a:k=7;rw[my a,my a,YF r _ hr,AB.gm,p6,my (.inr a),AB.gmL,AB.gmL];rw[mw a,mw a,k7 a,AB.gm,p6,mw mq,AB.gmL,AB.gmL,AL.gmL,AL.gmL]
theorem YG:∀(l:List AB)(c:Int),(∀x∈l,∀c,Fi c (AB.gm g p q x)=(AB.gm g (p6 p) id (Fi c x).1,(Fi c x).2))->Cu c (AB.gmL g p q l)=(AB.gmL g (p6 p) id (Cu c l).1,(Cu c l).2)
 | [],c,_=>by rw[AB.gmL,Cu,AB.gmL]
 | x::l,c,h=>by
  rw[AB.gmL,Cu,Cu,h x mr];dsimp only;rw[YG l _ λy a=>h y (by simp[a]),AB.gmL]
theorem Um:∀(N:Nat)(l:List AB),wf hp T N l->ZM g p q l
 | 0,_,h=>h.elim
 | N+1,l,H=>λc=>by
  refine YG l c λx a c=>?_;have w:=DG.1 H x a;exact di x c w.k6 w.k7 (Um N _ w.W) λr hr y b=>Um N _ ((w.R r hr).2.2 y b).2.2
end
section
variable{hp:AG->Prop}{T:Int->Prop}
structure bz(p q:AB):Prop where
 x:q.x=p.x
 code:q.code=p.code
 J:q.J=p.J
 H:q.H=p.H
 R:q.R=[]↔p.R=[]
theorem aR(l:List AL)(c:Int):(Do c l).1=[]↔l=[]:=by cases l<;>simp[Do]
theorem Ui(l:List AF)(c:Int):(Dm c l).1=[]↔l=[]:=by cases l<;>simp[Dm]
theorem Rl(x:AB)(c:Int):bz x (Fi c x).1:=by
 obtain⟨k,co,i,t,h,f,r⟩:=x;rw[Fi];split;exact⟨rfl,rfl,rfl,rfl,Iff.rfl⟩;split;exact⟨rfl,rfl,rfl,rfl,aR r _⟩;exact⟨rfl,rfl,rfl,rfl,Iff.rfl⟩
theorem bz.drop{x y:AB}(h:bz x y):Bf y↔Bf x:=by unfold Bf;rw[h.x,h.R,h.J]
theorem WC:∀{l:List AB} (c:Int),SK l->SK (Cu c l).1
 | [],c,_=>by rw[Cu];trivial
 | [x],c,h=>by rw[Cu,Cu];exact λe=>h ((Rl x c).drop.1 e)
 | x::y::l,c,h=>by
  have h2:=WC (l:=y::l) (Fi c x).2 h.2.2;rw[Cu];rw[Cu]at h2 ⊢;refine⟨λe=>h.1 ((Rl x c).drop.1 e),λe=>h.2.1 ?_,h2⟩;obtain⟨a,b,d⟩:=e;rw[(Rl _ _).x]at a b;rw[(Rl _ _).H,(Rl _ _).H]at d;exact⟨a,b,d⟩
theorem Mr:∀{l:List AB} {c:Int} {y:AB},y∈(Cu c l).1->∃x∈l,∃a,y=(Fi a x).1
 | [],c,y,h=>by rw[Cu]at h;cases h
 | x::l,c,y,h=>by
  rw[Cu]at h;rcases qe.1 h with e|e;exact⟨x,by simp,c,e⟩;obtain⟨z,b,a,e⟩:=Mr e;exact⟨z,by simp[b],a,e⟩
theorem Mt:∀{l:List AL} {c:Int} {y:AL},y∈(Do c l).1->∃x∈l,∃a,y=(Ib a x).1
 | [],c,y,h=>by rw[Do]at h;cases h
 | x::l,c,y,h=>by
  rw[Do]at h;rcases qe.1 h with e|e;exact⟨x,by simp,c,e⟩;obtain⟨z,b,a,e⟩:=Mt e;exact⟨z,by simp[b],a,e⟩
theorem Mq:∀{l:List AF} {c:Int} {y:AF},y∈(Dm c l).1->∃x∈l,∃a,y=(Ia a x).1
 | [],c,y,h=>by rw[Dm]at h;cases h
 | x::l,c,y,h=>by
  rw[Dm]at h;rcases qe.1 h with e|e;exact⟨x,by simp,c,e⟩;obtain⟨z,b,a,e⟩:=Mq e;exact⟨z,by simp[b],a,e⟩
theorem K8(x:AB)(c:Int):(Fi c x).1.W=x.W\/∃c',(Fi c x).1.W=(Cu c' x.W).1:=by
 obtain⟨k,co,i,t,h,f,r⟩:=x;rw[Fi];split;exact .inr ⟨c+1,rfl⟩;split<;>exact .inl rfl
theorem K9(x:AB)(c:Int):(Fi c x).1.R=x.R\/∃c',(Fi c x).1.R=(Do c' x.R).1:=by
 obtain⟨k,co,i,t,h,f,r⟩:=x;rw[Fi];split;exact .inl rfl;split;exact .inr ⟨c+1,rfl⟩;exact .inl rfl
theorem TK:∀{N:Nat} {l:List AB} (c:Int),UX N l->UX N (Cu c l).1
 | 0,_,_,h=>h.elim
 | N+1,l,c,⟨h1,h2⟩=>by
  refine⟨WC c h1,λy b=>?_⟩;obtain⟨x,m,d,rfl⟩:=Mr b;obtain⟨g1,j⟩:=h2 x m;refine⟨?_,λr hr=>?_⟩;rcases K8 x d with e|⟨g,e⟩
  rw[e];exact g1;rw[e];exact TK g g1;rcases K9 x d with e|⟨g,e⟩
  rw[e]at hr;exact j r hr;rw[e]at hr;obtain⟨r0,h0,c3,rfl⟩:=Mt hr;obtain⟨v,z⟩:=j r0 h0;obtain⟨hd,k⟩:=r0;rw[Ib];refine⟨λe=>v ((Ui k _).1 e),λy b=>?_⟩;obtain⟨c0,a,c4,rfl⟩:=Mq b;have:=z c0 a;obtain⟨i,hh,f⟩:=c0;rw[Ia];exact TK _ this
theorem Y5:∀{N:Nat} {l:List AB} (c:Int),wf hp T N l->wf hp (λ_=>True) N (Cu c l).1
 | 0,_,_,h=>h.elim
 | N+1,l,c,H=>DG.2 λy m=>by
  obtain⟨x,p,b,rfl⟩:=Mr m;have W:=DG.1 H x p;have S:=Rl x b;have a:∀{l:List AB},wf hp T N l->wf hp (λ_=>True) N l:=λh=>OL (λ_ h=>h) (λ_ _=>trivial) h;refine⟨by rw[S.H];exact W.H,λk=>?_,λk=>?_,λk=>?_,λ_=>trivial,?_,λr hr=>?_⟩;rw[S.x]at k;have:=W.k6 k;rcases K8 x b with e|⟨d,e⟩
  rw[e];exact this;rw[e,this,Cu];rw[S.x]at k;exact S.R.2 (W.k7 k);rw[S.x]at k;exact λg=>W.ne k (S.R.1 g);rcases K8 x b with e|⟨d,e⟩
  rw[e];exact a W.W;rw[e];exact Y5 d W.W;rcases K9 x b with e|⟨d,e⟩
  rw[e]at hr;obtain⟨u,v,z⟩:=W.R r hr;exact⟨u,v,λc n=>⟨trivial,(z c n).2.1,a (z c n).2.2⟩⟩;rw[e]at hr;obtain⟨r0,h0,c3,rfl⟩:=Mt hr;obtain⟨u,v,z⟩:=W.R r0 h0;obtain⟨hd,o⟩:=r0;rw[Ib];refine⟨u,λe=>v ((Ui o _).1 e),λy m=>?_⟩;obtain⟨c0,j,c4,rfl⟩:=Mq m;obtain⟨_,q,z3⟩:=z c0 j;obtain⟨i,hh,f⟩:=c0;rw[Ia];exact⟨trivial,q,Y5 _ z3⟩
end
theorem Gt{u:Int->Int}{x:Int}:∀{L:List Int},(∀a∈L,u a=u x->a=x)->BI (L.map u) (u x)=BI L x
 | [],_=>rfl
 | a::L,h=>by
  rw[qi,BI,BI,Gt λb hb=>h b (by simp[hb])];by_cases e:a=x;rw[my e,my (by rw[e])];rw[mw e,mw λg=>e (h a mr g)]
theorem M9{w:Int->Int}:∀(l t:List Int),(∀a∈t++l,∀b∈l,w a=w b->a=b)->BG (t.map w) (l.map w)=(BG t l).map w
 | [],_,_=>rfl
 | x :: l, t, h => by
  have e:DM (t.map w) (w x)=(DM t x).map w:=by
   unfold DM;by_cases c:x∈t;rw[my c,my (qa.2 ⟨x,c,rfl⟩)];rw[mw c,mw];simp;intro g;obtain⟨a,d,hh⟩:=qa.1 g;exact c (by rw[<-h a (by simp[d]) x mr hh];exact d)
  show BG (DM (t.map w) (w x)) (l.map w)=(BG (DM t x) l).map w;rw[e];refine M9 l _ λa d b hb=>h a ?_ b (by simp[hb]);rcases qd.1 d with g|g;unfold DM at g;split at g;simp[g];rcases qd.1 g with g|g;simp[g];rw[qw]at g;simp[g];simp[g]
section
variable(g g':AG->AG)(f f':Int×Int->Int)
mutual
theorem iH:∀x:AB,AB.mi g' f' (AB.mi g f x)=AB.mi (λh=>g' (g h)) (λa=>f' (a.1,f a)) x
 | .mk k c i t h fl r=>by
  rw[AB.mi,AB.mi,AB.mi,Pz fl,Xm r];congr 1;split
  . next e=>rfl
  rfl
theorem Pz:∀l:List AB,AB.miL g' f' (AB.miL g f l)=AB.miL (λh=>g' (g h)) (λa=>f' (a.1,f a)) l
 | []=>by rw[AB.miL,AB.miL,AB.miL]
 | x::l=>by rw[AB.miL,AB.miL,AB.miL,iH x,Pz l]
theorem dJ:∀x:AL,AL.mi g' f' (AL.mi g f x)=AL.mi (λh=>g' (g h)) (λa=>f' (a.1,f a)) x
 | .mk h c=>by rw[AL.mi,AL.mi,AL.mi,Xl c]
theorem Xm:∀l:List AL,AL.miL g' f' (AL.miL g f l)=AL.miL (λh=>g' (g h)) (λa=>f' (a.1,f a)) l
 | []=>by rw[AL.miL,AL.miL,AL.miL]
 | x::l=>by rw[AL.miL,AL.miL,AL.miL,dJ x,Xm l]
theorem dI:∀x:AF,AF.mi g' f' (AF.mi g f x)=AF.mi (λh=>g' (g h)) (λa=>f' (a.1,f a)) x
 | .mk i h fl=>by rw[AF.mi,AF.mi,AF.mi,Pz fl]
theorem Xl:∀l:List AF,AF.miL g' f' (AF.miL g f l)=AF.miL (λh=>g' (g h)) (λa=>f' (a.1,f a)) l
 | []=>by rw[AF.miL,AF.miL,AF.miL]
 | x::l=>by rw[AF.miL,AF.miL,AF.miL,dI x,Xl l]
end
mutual
theorem fW:∀x:AB,(AB.mi g f x).an=x.an.map λa=>(a.1,f a)
 | .mk k c i t h fl r=>by
  rw[AB.mi,AB.an,AB.an,NE fl,WG r,qc,qc];congr 1;split
  . next e=>rfl
  rfl
theorem NE:∀l:List AB,AB.anL (AB.miL g f l)=(AB.anL l).map λa=>(a.1,f a)
 | []=>by rw[AB.miL,AB.anL];rfl
 | x::l=>by rw[AB.miL,AB.anL,AB.anL,fW x,NE l,qc]
theorem cM:∀x:AL,(AL.mi g f x).an=x.an.map λa=>(a.1,f a)
 | .mk h c=>by rw[AL.mi,AL.an,AL.an,WF c]
theorem WG:∀l:List AL,AL.anL (AL.miL g f l)=(AL.anL l).map λa=>(a.1,f a)
 | []=>by rw[AL.miL,AL.anL];rfl
 | x::l=>by rw[AL.miL,AL.anL,AL.anL,cM x,WG l,qc]
theorem cL:∀x:AF,(AF.mi g f x).an=x.an.map λa=>(a.1,f a)
 | .mk i h fl=>by rw[AF.mi,AF.an,AF.an,NE fl]
theorem WF:∀l:List AF,AF.anL (AF.miL g f l)=(AF.anL l).map λa=>(a.1,f a)
 | []=>by rw[AF.miL,AF.anL];rfl
 | x::l=>by rw[AF.miL,AF.anL,AF.anL,cL x,WF l,qc]
end
end
section
variable(g:AG->AG)(p:Int->Int->Int->Int)(q:Int->Int)
mutual
theorem gj:∀x:AB,(AB.gm g p q x).hd=x.hd.map g
 | .mk k c i t h fl r=>by rw[AB.gm,AB.hd,AB.hd,LU fl,XM r,qi,qc]
theorem LU:∀l:List AB,AB.hdL (AB.gmL g p q l)=(AB.hdL l).map g
 | []=>by rw[AB.gmL,AB.hdL];rfl
 | x::l=>by rw[AB.gmL,AB.hdL,AB.hdL,gj x,LU l,qc]
theorem cx:∀x:AL,(AL.gm g p q x).hd=x.hd.map g
 | .mk h c=>by rw[AL.gm,AL.hd,AL.hd,XL c,qi]
theorem XM:∀l:List AL,AL.hdL (AL.gmL g p q l)=(AL.hdL l).map g
 | []=>by rw[AL.gmL,AL.hdL];rfl
 | x::l=>by rw[AL.gmL,AL.hdL,AL.hdL,cx x,XM l,qc]
theorem cw:∀x:AF,(AF.gm g p q x).hd=x.hd.map g
 | .mk i h fl=>by rw[AF.gm,AF.hd,AF.hd,LU fl,qi]
theorem XL:∀l:List AF,AF.hdL (AF.gmL g p q l)=(AF.hdL l).map g
 | []=>by rw[AF.gmL,AF.hdL];rfl
 | x::l=>by rw[AF.gmL,AF.hdL,AF.hdL,cw x,XL l,qc]
end
variable{g p q}{u:Int->Int}(hg:∀ h,(g h).all=h.all.map u)
include hg
mutual
theorem iq:∀x:AB,(AB.gm g p q x).us=x.us.map u
 | .mk k c i t h fl r=>by
  rw[AB.gm,AB.us,AB.us,hg,qc];congr 1;split;exact OJ fl;split;exact Yz r;rfl
theorem OJ:∀l:List AB,AB.U (AB.gmL g p q l)=(AB.U l).map u
 | []=>by have _:=hg;rw[AB.gmL,AB.U];rfl
 | x::l=>by rw[AB.gmL,AB.U,AB.U,iq x,OJ l,qc]
theorem eU:∀x:AL,(AL.gm g p q x).us=x.us.map u
 | .mk h c=>by rw[AL.gm,AL.us,AL.us,Yy c,hg,qc]
theorem Yz:∀l:List AL,AL.U (AL.gmL g p q l)=(AL.U l).map u
 | []=>by have _:=hg;rw[AL.gmL,AL.U];rfl
 | x::l=>by rw[AL.gmL,AL.U,AL.U,eU x,Yz l,qc]
theorem eT:∀x:AF,(AF.gm g p q x).us=x.us.map u
 | .mk i h fl=>by rw[AF.gm,AF.us,AF.us,OJ fl,hg,qc]
theorem Yy:∀l:List AF,AF.U (AF.gmL g p q l)=(AF.U l).map u
 | []=>by have _:=hg;rw[AF.gmL,AF.U];rfl
 | x::l=>by rw[AF.gmL,AF.U,AF.U,eT x,Yy l,qc]
end
end
def I7(u:Int->Int)(v:Int->Int->Int)(h:AG):AG:=
 { h with I:=u h.I,move:=v h.I h.move,Y:=h.Y.map λd=>{ d with rev:=u d.rev,move:=v d.rev d.move },Z:=h.Z.map λl=>{ l with rev:=u l.rev } }
theorem MZ(u:Int->Int)(v:Int->Int->Int)(h:AG):(I7 u v h).all=h.all.map u:=by
 simp[AG.all,I7,wu]
theorem aD(u:Int->Int)(v:Int->Int->Int)(h:AG):(I7 u v h).mvs=h.mvs.map λp=>(u p.1,v p.1 p.2):=by
 simp[AG.mvs,I7,wu]
theorem aB(u:Int->Int)(v:Int->Int->Int)(a:List AG):C6 (a.map (I7 u v))=(C6 a).map λp=>(u p.1,v p.1 p.2):=by
 unfold C6;rw[List.flatMap_map,List.map_flatMap];congr 1;funext h;exact aD u v h
def MN(u:Int->Int)(v:Int->Int->Int)(f:Int×Int->Int)(wc:Int->Int)(e:AI):AI:=
 ⟨AB.miL (I7 u v) f e.W,I7 u v e.T0,e.V.map λr=>{ r with id:=u r.id },{ e.S with C:=e.S.C.map λc=>{ c with id:=wc c.id,parent:=wc c.parent } }⟩
structure SU(u:Int->Int)(v:Int->Int->Int)(f:Int×Int->Int)(wb wc:Int->Int)(e:AI):Prop where
 u0:u 0=0
 ui:∀a∈A6 e,∀b,b∈A6 e\/b=0->u a=u b->a=b
 v0:∀r,v r 0=0
 vn:∀r m,(r,m)∈C6 (AB.hdL e.W)->m≠0->v r m≠0
 vm:∀r m m',(r,m)∈C6 (AB.hdL e.W)->(r,m')∈C6 (AB.hdL e.W)->m≠0->m'≠0->m<m'->v r m<v r m'
 fe:∀a∈AB.anL e.W,f a=if a.1<=2 then wb a.2 else wc a.2
 wbi:∀a∈AB.anL e.W,a.1<=2->∀b∈AB.anL e.W,b.1<=2->wb a.2=wb b.2->a.2=b.2
 wc0:wc 0=0
 wci:∀x y,(x∈Ee e\/(∃a∈AB.anL e.W,¬a.1<=2/\a.2=x))->(y∈Ee e\/y=0\/(∃a∈AB.anL e.W,¬a.1<=2/\a.2=y))->wc x=wc y->x=y
theorem Ua(u:Int->Int):∀(l:List By)(i:Int),FM (l.map λr=>{ r with id:=u r.id }) i=FM l i
 | [],_=>rfl
 | r::l,i=>by rw[qi,FM,FM,Ua u l]
theorem GI.par:∀{l:List AR} {t:List Int},GI t l->∀c∈l,c.parent=0\/c.parent∈t++l.map (·.id)
 | [],_,_,c,h=>by cases h
 | x::l,t,h,c,hc=>by
  obtain⟨_,_,h2,a⟩:=h;rcases qe.1 hc with e|e;rw[e];exact h2.imp_right λg=>qz _ g;rcases a.par c e with g|g;exact .inl g;right;simpa using g
theorem HR.mvs{R:List Int}{h:AG}(H:HR R h){p:Int×Int}(hp:p∈h.mvs):p.1∈R\/p=(0,0):=by
 unfold AG.mvs at hp;rcases qe.1 hp with e|e;subst e;by_cases h0:h.I=0;right;rw[h0,H.move h0];exact .inl (H.I h0);obtain⟨d,hd,rfl⟩:=qa.1 e;exact .inl (H.Y d hd)
section
variable{u:Int->Int}{v:Int->Int->Int}{f:Int×Int->Int}{wb wc:Int->Int}{e:AI}{N:Nat}
theorem Ly(_H:Hc N e)(K:SU u v f wb wc e){r:Int}(hr:r∈A6 e\/r=0):BI ((A6 e).map u) (u r)=BI (A6 e) r:=
 Gt λa b h=>K.ui a b r hr h
theorem eQ(H:Hc N e)(K:SU u v f wb wc e){r m:Int}(hm:(r,m)∈C6 (AB.hdL e.W)):
 Dy ((A6 e).map u) (((C6 (AB.hdL e.W)).map λp=>(u p.1,v p.1 p.2)).foldl (E3 ((A6 e).map u)) (List.replicate ((A6 e).map u).length [])) (u r) (v r m)=Dy (A6 e) (Mm e) r m:=by
 obtain⟨T,hw⟩:=H.wf;have w:∀p∈C6 (AB.hdL e.W),p.1∈A6 e\/p=(0,0):=λp hp=>by
  unfold C6 at hp;obtain⟨h,hh,hp⟩:=qE.1 hp;exact(I8 hw h hh).mvs hp
 have l:∀p∈C6 (AB.hdL e.W),BI ((A6 e).map u) (u p.1)=BI (A6 e) p.1:=λp hp=>by
  rcases w p hp with g|g;exact Ly H K (.inl g);rw[g];exact Ly H K (.inr rfl)
 have hk:=l (r,m) hm;dsimp only at hk;unfold Dy;rw[hk];by_cases h0:BI (A6 e) r≠0;rw[my h0,my h0];have hr:=CZ.1 h0;have hg:=Fs (A6 e) r;have d:∀n k,G8 (List.replicate n ([]:List Int)) k=[]:=λn k=>by unfold G8;rw[List.getElem?_replicate];split<;>rfl
 obtain⟨_,a2⟩:=Ng (A6 e) (C6 (AB.hdL e.W)) (List.replicate (A6 e).length []) λk=>by rw[d];exact List.Pairwise.nil
 obtain⟨_,q⟩:=Ng ((A6 e).map u) ((C6 (AB.hdL e.W)).map λp=>(u p.1,v p.1 p.2)) (List.replicate ((A6 e).map u).length []) λk=>by rw[d];exact List.Pairwise.nil
 obtain⟨a3,a4⟩:=a2 (BI (A6 e) r-1).toNat (by rw[List.length_replicate];omega);obtain⟨s,t⟩:=q (BI (A6 e) r-1).toNat (by rw[List.length_replicate,qf];omega);rw[show(C6 (AB.hdL e.W)).foldl (E3 (A6 e)) (List.replicate (A6 e).length [])=Mm e from rfl]at a3 a4;have c:∀y,y∈G8 (Mm e) (BI (A6 e) r-1).toNat↔y≠0/\(r,y)∈C6 (AB.hdL e.W):=λy=>by
  rw[a4,d];constructor;rintro(g|⟨g1,⟨a,b⟩,i,g3,j⟩);cases g;dsimp only at g3 j;have:a=r:=(Gs hr mq).symm;subst this;subst j;exact⟨g1,i⟩;rintro⟨g1,i⟩;exact .inr ⟨g1,(r,y),i,by dsimp only;omega,rfl⟩
 have el:G8 (((C6 (AB.hdL e.W)).map λp=>(u p.1,v p.1 p.2)).foldl (E3 ((A6 e).map u)) (List.replicate ((A6 e).map u).length [])) (BI (A6 e) r-1).toNat=(G8 (Mm e) (BI (A6 e) r-1).toNat).map (v r):=by
  refine Ps s ?_ λy=>?_;rw[List.pairwise_map];refine a3.imp_of_mem fun {a b} o hb hab=>?_
  exact K.vm r a b ((c a).1 o).2 ((c b).1 hb).2 ((c a).1 o).1 ((c b).1 hb).1 hab;rw[t,d];constructor;rintro(g|⟨g1,p',i,g3,j⟩);cases g;obtain⟨⟨a,b⟩,hp,rfl⟩:=qa.1 i;dsimp only at g3 j;have h1:=l _ hp;dsimp only at h1;have:a=r:=(Gs hr mq).symm;subst this;subst j;exact qa.2 ⟨b,(c b).2 ⟨λg=>g1 (by rw[g];exact K.v0 _),hp⟩,rfl⟩;intro g;obtain⟨b,hb,rfl⟩:=qa.1 g;obtain⟨m1,m2⟩:=(c b).1 hb;exact .inr ⟨K.vn r b m2 m1,(u r,v r b),List.mem_map.2 ⟨(r,b),m2,rfl⟩,by dsimp only;rw[hk];omega,rfl⟩
 rw[el];refine Gt λa o h=>?_;obtain⟨m1,m2⟩:=(c a).1 o;by_cases m0:m=0;rw[m0,K.v0]at h;exact absurd h (K.vn r a m2 m1);rcases Int.lt_trichotomy a m with g|g|g;have:=K.vm r a m m2 hm m1 m0 g;omega;exact g;have:=K.vm r m a hm m2 m0 m1 g;omega;rw[mw h0,mw h0]
theorem cZ(H:Hc N e)(K:SU u v f wb wc e):MR (MN u v f wc e)=MR e:=by
 obtain⟨T,hw⟩:=H.wf;have J:A6 (MN u v f wc e)=(A6 e).map u:=by simp[A6,MN,wu]
 have G:Ee (MN u v f wc e)=(Ee e).map wc:=by simp[Ee,MN,wu]
 have F:AB.anL (MN u v f wc e).W=(AB.anL e.W).map λa=>(a.1,f a):=NE _ _ _;have O:AB.hdL (MN u v f wc e).W=(AB.hdL e.W).map (I7 u v):=by show AB.hdL (AB.miL _ _ _)=_;rw[KB,LU]
 have hC0:=H.coms.pos;have q:=H.coms.par;have w:(H5 (MN u v f wc e)).1=(H5 e).1.map wb:=by
  unfold H5;rw[Jj,Jj,F];show BG [] _=(BG [] _).map wb;rw[<-M9];congr 1;rw[List.filter_map,vO,vO];refine qF λa i=>?_;simp only[wu,qW,decide_eq_true_eq]at i ⊢;rw[K.fe a i.1,my i.2];intro a i b hb h;rw[qI]at i;obtain⟨x,j,rfl⟩:=qa.1 i;obtain⟨y,k,rfl⟩:=qa.1 hb;simp only[qW,decide_eq_true_eq]at j k;exact K.wbi x j.1 j.2 y k.1 k.2 h
 have z:(H5 (MN u v f wc e)).2=(H5 e).2.map wc:=by
  unfold H5;rw[Jj,Jj,F,G];show BG ((Ee e).map wc) _=(BG (Ee e) _).map wc;rw[<-M9];congr 1;rw[List.filter_map,vO,vO];refine qF λa i=>?_;simp only[wu,qW,qS,decide_eq_false_iff_not]at i ⊢;rw[K.fe a i.1,mw i.2];intro a i b hb h;obtain⟨y,k,rfl⟩:=qa.1 hb;simp only[qW,qS,decide_eq_false_iff_not]at k;refine K.wci a _ ?_ (.inr (.inr ⟨y,k.1,k.2,rfl⟩)) h;rcases qd.1 i with g|g;exact .inl g;obtain⟨x,j,rfl⟩:=qa.1 g;simp only[qW,qS,decide_eq_false_iff_not]at j;exact .inr ⟨x,j.1,j.2,rfl⟩
 have n:∀x∈(H5 e).1,∃a∈AB.anL e.W,a.1<=2/\a.2=x:=λx j=>by
  unfold H5 at j;rw[Jj]at j;have:=(Du _ _ _).1 j;simp only[vG,false_or,qa,qW,decide_eq_true_eq]at this;obtain⟨a,h1,h2⟩:=this;exact⟨a,h1.1,h1.2,h2⟩
 have o:∀x∈(H5 e).2,x∈Ee e\/∃a∈AB.anL e.W,¬a.1<=2/\a.2=x:=λx j=>by
  unfold H5 at j;rw[Jj]at j;have:=(Du _ _ _).1 j;refine this.imp_right λg=>?_;obtain⟨a,h1,h2⟩:=qa.1 g;simp only[qW,qS,decide_eq_false_iff_not]at h1;exact⟨a,h1.1,h1.2,h2⟩
 have m:∀a∈AB.anL e.W,Io (H5 (MN u v f wc e)) (a.1,f a)=Io (H5 e) a:=λa i=>by
  unfold Io;dsimp only;rw[w,z,K.fe a i];by_cases c:a.1<=2;rw[my c,my c,my c];refine Gt λb hb h=>?_;obtain⟨y,k,h1,rfl⟩:=n b hb;exact K.wbi y k h1 a i c h;rw[mw c,mw c,mw c];exact Gt λb hb h=>K.wci b _ (o b hb) (.inr (.inr ⟨a,i,c,rfl⟩)) h
 have P:Mm (MN u v f wc e)=((C6 (AB.hdL e.W)).map λp=>(u p.1,v p.1 p.2)).foldl (E3 ((A6 e).map u)) (List.replicate ((A6 e).map u).length []):=by
  unfold Mm;rw[O,aB,J]
 have s:∀h∈AB.hdL e.W,∀p∈h.mvs,p∈C6 (AB.hdL e.W):=λh hh p hp=>qE.2 ⟨h,hh,hp⟩;have l:∀h,HR (A6 e) h->(∀p∈h.mvs,p∈C6 (AB.hdL e.W)\/p=(0,0))->OQ ((A6 e).map u) (Dy ((A6 e).map u) (Mm (MN u v f wc e))) (I7 u v h)=OQ (A6 e) (Dy (A6 e) (Mm e)) h:=λh hh hp=>by
  have t:∀p∈h.mvs,Dy ((A6 e).map u) (Mm (MN u v f wc e)) (u p.1) (v p.1 p.2)=Dy (A6 e) (Mm e) p.1 p.2:=λp D=>by
   rcases hp p D with g|g;rw[P];exact eQ H K g;rw[g];have h1:=Ly H K (r:=0) (.inr rfl);have h2:BI (A6 e) 0=0:=Cd.2 H.rev0;unfold Dy;dsimp only;rw[h1,h2,mw mr,mw mr]
  have n1:=t (h.I,h.move) (by simp[AG.mvs]);have V:BI ((A6 e).map u) (u h.I)=BI (A6 e) h.I:=Ly H K (by by_cases h0:h.I=0;exact .inr h0;exact .inl (hh.I h0));have hd:(h.Y.map λd=>({ d with rev:=u d.rev,move:=v d.rev d.move }:Di)).map (λd=>{ d with rev:=BI ((A6 e).map u) d.rev,move:=Dy ((A6 e).map u) (Mm (MN u v f wc e)) d.rev d.move })=h.Y.map λd=>{ d with rev:=BI (A6 e) d.rev,move:=Dy (A6 e) (Mm e) d.rev d.move }:=by
   rw[vO];refine qF λd hd=>?_;have M:=t (d.rev,d.move) (by simp only[AG.mvs,qe,qa];exact .inr ⟨d,hd,rfl⟩);have E:=Ly H K (.inl (hh.Y d hd));dsimp only[Function.comp]at M ⊢;rw[M,E]
  have Q:(h.Z.map λd=>({ d with rev:=u d.rev }:A3)).map (λd=>{ d with rev:=BI ((A6 e).map u) d.rev })=h.Z.map λd=>{ d with rev:=BI (A6 e) d.rev }:=by
   rw[vO];refine qF λd hd=>?_;have E:=Ly H K (.inl (hh.lays d hd));dsimp only[Function.comp];rw[E]
  unfold OQ I7;dsimp only at n1 ⊢;rw[hd,Q,n1,V]
 have hend:HR (A6 e) e.T0:=⟨λg=>absurd H.endi g,λ_=>H.endm,λd hd=>(by rw[H.endd]at hd;cases hd),H.endl⟩
 unfold MR Zi;rw[J,G];congr 1;show AB.miL _ _ (AB.miL _ _ _)=_;rw[Pz];exact Hj (hp:=λh=>HR (A6 e) h/\∀p∈h.mvs,p∈C6 (AB.hdL e.W)) (λh hh=>l h hh.1 λp hp=>.inl (hh.2 p hp)) _ (λh hh=>⟨I8 hw h hh,s h hh⟩) m;exact l _ hend λp hp=>.inr (by simpa[AG.mvs,H.endi,H.endm,H.endd]using hp);exact Ua u _ _;have A:((MN u v f wc e).S.C.map (Qu ((Ee e).map wc)))=e.S.C.map (Qu (Ee e)):=?_;rw[A];rfl;show(e.S.C.map _).map _=_;rw[vO];refine qF λc L=>?_;have B:c.id∈Ee e:=qa.2 ⟨c,L,rfl⟩;have R:BI ((Ee e).map wc) (wc c.id)=BI (Ee e) c.id:=Gt λa i h=>K.wci a _ (.inl i) (.inl B) h;have U:BI ((Ee e).map wc) (wc c.parent)=BI (Ee e) c.parent:=Gt λa i h=>K.wci a _ (.inl i) (by
  rcases q c L with g|g;exact .inr (.inl g);exact .inl (by simpa using g)) h
 simp only[wu,Qu];rw[R,U]
end
theorem QS{hp g:AG->Prop}{T:Int->Prop}:∀{N:Nat} {l:List AB},wf hp T N l->(∀h∈AB.hdL l,g h)->wf (λh=>hp h/\g h) T N l
 | 0,_,h,_=>h.elim
 | N+1,l,H,hh=>DG.2 λx n=>by
  obtain⟨a,b,c,d,e,f,q⟩:=DG.1 H x n;have i:∀h∈x.hd,g h:=λh hm=>hh h (by rw[AB.hdL_eq,qE];exact⟨x,n,hm⟩);rw[uf]at i;refine⟨⟨a,i _ mr⟩,b,c,d,e,QS f λh hm=>i h (by simp[hm]),λr hr=>?_⟩;have k:∀h∈r.hd,g h:=λh hm=>i h (by rw[AL.hdL_eq];simp only[qe,qd,qE];exact .inr (.inr ⟨r,hr,hm⟩));rw[ud]at k;obtain⟨u,v,w⟩:=q r hr;refine⟨⟨u,k _ mr⟩,v,λc m=>?_⟩;obtain⟨o,p,s⟩:=w c m;have j:∀h∈c.hd,g h:=λh hm=>k h (by rw[AF.hdL_eq];simp only[qe,qE];exact .inr ⟨c,m,hm⟩);rw[ue]at j;exact⟨o,⟨p,j _ mr⟩,QS s λh hm=>j h (by simp[hm])⟩
theorem Gw{α β:Type}{F:α->β}:∀{l c:List α},(∀a∈l,∀b∈c,F a=F b->a=b)->l.map F=c.map F->l=c
 | [],[],_,_=>rfl
 | [],b::c,_,h=>by cases h
 | a::l,[],_,h=>by cases h
 | a::l,b::c,hi,h=>by
  rw[qi,qi,List.cons.injEq]at h;rw[hi a mr b mr h.1,Gw (λx d y e=>hi x (by simp[d]) y (by simp[e])) h.2]
theorem Kx{F:Int->Int}:∀{l:List Int},l.Nodup->(∀a∈l,∀b∈l,F a=F b->a=b)->(l.map F).Nodup
 | [],_,_=>List.nodup_nil
 | a::l,hn,hi=>by
  rw[qU]at hn;rw[qi,qU];refine⟨λg=>?_,Kx hn.2 λx c y d=>hi x (by simp[c]) y (by simp[d])⟩;obtain⟨b,hb,e⟩:=qa.1 g;exact hn.1 (by rw[hi a mr b (by simp[hb]) e.symm];exact hb)
structure HW(N:Nat)(e:AI):Prop extends Hc N e where
 nf:UX N e.W
 rn:(Cu 0 e.W).1=e.W
 used:∀r∈e.V,r.id∈AB.U e.W++e.T0.all
theorem RT{e:AI}(h1:AY e.W=e.W)(h2:∀r∈e.V,r.id∈AB.U e.W++e.T0.all)(h0:(0:Int)∉A6 e):e.normal=e:=by
 have hr:e.normal.V=e.V:=by
  show e.V.filter _=e.V;rw[vP];intro r hr;have:r∈e.normal.V:=(Gx (λg=>h0 (by rw[<-g];exact qa.2 ⟨r,hr,rfl⟩))).2 ⟨hr,by rw[h1];exact h2 r hr⟩;exact(qW.1 this).2
 exact Sk h1 rfl hr rfl
theorem HW.normal{N:Nat}{e:AI}(H:HW N e):e.normal=e:=RT H.nf.fix H.used H.rev0
theorem HW.renum{N:Nat}{e:AI}(H:HW N e):e.renum=e:=Sk H.rn rfl rfl rfl
section
variable{u:Int->Int}{v:Int->Int->Int}{f:Int×Int->Int}{wb wc:Int->Int}{e:AI}{N:Nat}
theorem HR.tr{R:List Int}{h:AG}(H:HR R h)(u0:u 0=0)(v0:∀r,v r 0=0)(ui:∀a∈R,∀b,b∈R\/b=0->u a=u b->a=b)(_r0:(0:Int)∉R):HR (R.map u) (I7 u v h) where
 I hi:=by
  have:h.I≠0:=λg=>hi (by show u h.I=0;rw[g,u0]);exact qa.2 ⟨h.I,H.I this,rfl⟩
 move hi:=by
  have hi:u h.I=0:=hi;have:h.I=0:=Classical.byContradiction λg=>by
   have hm:=H.I g;exact g (ui _ hm 0 (.inr rfl) (by rw[hi,u0]))
  show v h.I h.move=0;rw[H.move this,v0]
 Y d hd:=by
  obtain⟨c,h0,rfl⟩:=qa.1 hd;exact qa.2 ⟨c.rev,H.Y c h0,rfl⟩
 lays d hd:=by
  obtain⟨c,h0,rfl⟩:=qa.1 hd;exact qa.2 ⟨c.rev,H.lays c h0,rfl⟩
theorem GI.tr{a:Int->Int}(wc0:a 0=0){S:Int->Prop}(wci:∀x y,S x->(S y\/y=0)->a x=a y->x=y):∀{l:List AR} {t:List Int},GI t l->(∀x∈t,S x)->(∀c∈l,S c.id)->GI (t.map a) (l.map λc=>{ c with id:=a c.id,parent:=a c.parent })
 | [],_,_,_,_=>trivial
 | c::l,t,⟨c0,c1,c2,c3⟩,ht,hl=>by
  have d:=hl c mr;refine⟨λg=>c0 (wci _ 0 d (.inr rfl) (by rw[wc0];exact g)),λg=>?_,?_,?_⟩;obtain⟨x,b,e⟩:=qa.1 g;exact c1 (by rw[<-wci x _ (ht x b) (.inl d) e];exact b);rcases c2 with g|g;exact .inl (by show a c.parent=0;rw[g,wc0]);exact .inr (qa.2 ⟨_,g,rfl⟩);have:=GI.tr wc0 wci c3 (λx b=>by
   rcases qd.1 b with g|g;exact ht x g;rw[qw]at g;rw[g];exact d) λc f=>hl c (by simp[f])
  simpa using this
theorem eP(_H:Hc N e)(K:SU u v f wb wc e)(a b:AG)(j:HR (A6 e) a/\∀p∈a.mvs,p∈C6 (AB.hdL e.W))(hb:HR (A6 e) b/\∀p∈b.mvs,p∈C6 (AB.hdL e.W))(h:I7 u v a=I7 u v b):a=b:=by
 have w:∀r m m',(r,m)∈C6 (AB.hdL e.W)->(r,m')∈C6 (AB.hdL e.W)->v r m=v r m'->m=m':=λr m m' h1 h2 g=>by
  by_cases m0:m=0;by_cases m1:m'=0;rw[m0,m1];rw[m0,K.v0]at g;exact absurd g.symm (K.vn r m' h2 m1);by_cases m1:m'=0;rw[m1,K.v0]at g;exact absurd g (K.vn r m h1 m0);rcases Int.lt_trichotomy m m' with q|q|q;have:=K.vm r m m' h1 h2 m0 m1 q;omega;exact q;have:=K.vm r m' m h2 h1 m1 m0 q;omega
 have t:∀{x:AG},HR (A6 e) x->x.I∈A6 e\/x.I=0:=fun {x} g=>by
  by_cases h0:x.I=0;exact .inr h0;exact .inl (g.I h0)
 have i:∀x y,(x∈A6 e\/x=0)->(y∈A6 e\/y=0)->u x=u y->x=y:=λx y c d g=>by
  rcases c with c|c;exact K.ui x c y d g;rcases d with d|d;exact(K.ui y d x (.inr c) g.symm).symm;rw[c,d]
 obtain⟨p1,o,m1,z,J⟩:=a;obtain⟨p2,G,m2,A,L⟩:=b;simp only[I7,AG.mk.injEq]at h;obtain⟨B,C,D,E,F⟩:=h;have M:o=G:=i _ _ (t j.1) (t hb.1) C;subst M;have O:m1=m2:=w o m1 m2 (j.2 _ (by simp[AG.mvs])) (hb.2 _ (by simp[AG.mvs])) D;have P:z=A:=Gw (λx c y d g=>by
  obtain⟨k,n1⟩:=x;obtain⟨l,s⟩:=y;simp only[Di.mk.injEq]at g;have n:k=l:=i _ _ (.inl (j.1.Y _ c)) (.inl (hb.1.Y _ d)) g.1;subst n;rw[w k n1 s (j.2 _ (by simp only[AG.mvs,qe,qa];exact .inr ⟨_,c,rfl⟩)) (hb.2 _ (by simp only[AG.mvs,qe,qa];exact .inr ⟨_,d,rfl⟩)) g.2]) E
 have Q:J=L:=Gw (λx c y d g=>by
  obtain⟨k,n1,b1,c1⟩:=x;obtain⟨l,s,b2,c2⟩:=y;simp only[A3.mk.injEq]at g;have n:k=l:=i _ _ (.inl (j.1.lays _ c)) (.inl (hb.1.lays _ d)) g.1;rw[n,g.2.1,g.2.2.1,g.2.2.2]) F
 subst B O P Q;rfl
theorem U9(H:Hc N e):wf (λh=>HR (A6 e) h/\∀p∈h.mvs,p∈C6 (AB.hdL e.W)) (λ_=>True) N e.W:=by
 obtain⟨T,hw⟩:=H.wf;exact OL (λ_ h=>h) (λ_ _=>trivial) (QS hw λh hh p hp=>qE.2 ⟨h,hh,hp⟩)
theorem bp(H:HW N e)(K:SU u v f wb wc e)(A:∀a∈AB.anL e.W,f a≠0):HW N (MN u v f wc e):=by
 obtain⟨T,hw⟩:=H.wf;have w:A6 (MN u v f wc e)=(A6 e).map u:=by simp[A6,MN,wu]
 have j:(MN u v f wc e).V.map (·.id)=(A6 e).map u:=w;have un:∀a∈A6 e,u a≠0:=λa l g=>by
  have:=K.ui a l 0 (.inr rfl) (by rw[g,K.u0]);exact H.rev0 (by rw[<-this];exact l)
 have m:(MN u v f wc e).W=AB.gmL (I7 u v) (U7 f) id e.W:=KB _ _ _;have s:AB.anL (MN u v f wc e).W=(AB.anL e.W).map λa=>(a.1,f a):=NE _ _ _;refine { wf:=⟨λ_=>True,?_⟩,endi:=?_,endm:=?_,endd:=?_,endl:=?_,revn:=?_,rev0:=?_,coms:=?_,anch:=?_,nf:=?_,rn:=?_,used:=?_ };rw[j,m];exact Y3 (λh hh=>hh.tr K.u0 K.v0 K.ui H.rev0) hw;show u e.T0.I=0;rw[H.endi,K.u0];show v _ e.T0.move=0;rw[H.endm,K.v0];show e.T0.Y.map _=[];rw[H.endd];rfl;intro d hd;obtain⟨q,h0,rfl⟩:=qa.1 (show d∈e.T0.Z.map _ from hd);rw[j];exact qa.2 ⟨q.rev,H.endl q h0,rfl⟩;rw[j];exact Kx H.revn λa l b hb=>K.ui a l b (.inl hb);rw[j];intro g;obtain⟨a,l,h⟩:=qa.1 g;exact un a l h;exact GI.tr (t:=[]) (S:=λx=>x∈Ee e) K.wc0 (λx y o B=>K.wci x y (.inl o) (B.elim .inl λg=>.inr (.inl g))) H.coms (λx o=>by cases o) λc z=>qa.2 ⟨c,z,rfl⟩;rw[s];intro a l;obtain⟨a0,h0,rfl⟩:=qa.1 l;have:=H.anch a0 h0;exact⟨this.1,this.2.1,A a0 h0⟩;rw[m];exact TJ (λa b=>eP H.toHc K a b) (U9 H.toHc) H.nf;have p:p6 (U7 f)=U7 f:=by
  funext k c i;unfold p6 U7;by_cases h:k=6\/k=7;rw[my h,mw mq];rw[mw h]
 rw[m,Um N _ hw,p,H.rn];intro r hr;obtain⟨r0,h0,rfl⟩:=qa.1 (show r∈e.V.map _ from hr);have n:AB.U (MN u v f wc e).W=(AB.U e.W).map u:=by rw[m];exact OJ (MZ u v) _
 have hend:(MN u v f wc e).T0.all=e.T0.all.map u:=MZ u v _;rw[n,hend,<-qc];exact qa.2 ⟨_,H.used r0 h0,rfl⟩
end
theorem UZ:∀(l:List By)(t:List Int),(t++l.map (·.id)).Nodup->FM l t.length=l.map λr=>{ r with id:=BI (t++l.map (·.id)) r.id }
 | [],_,_=>rfl
 | r :: l, t, hn => by
  have b:r.id∉t:=λg=>by
   rw[qu]at hn;exact hn.2.2 _ g _ mr rfl
  have a:=UZ l (t++[r.id]) (by simpa using hn);rw[ql,wl]at a
  push_cast at a
  rw[FM,a,qi];congr 1;rw[Fy,mw b,my mr];simp[BI];simp
theorem UO:∀{L:List Int} {a b:Int},L.Pairwise (· < ·)->a∈L->b∈L->a<b->BI L a<BI L b
 | [],_,_,_,h,_,_=>by cases h
 | x :: L, a, b, hp, ha, hb, hab => by
  rw[wD]at hp;have c:b∈L:=by
   rcases qe.1 hb with e|e;rcases qe.1 ha with g|g;omega;have:=hp.1 a g;omega;exact e
  have i:¬x=b:=by have:=hp.1 b c;omega
  have j:=CZ.2 c;have gb:=Fs L b;rw[BI,BI,mw i,mw j];by_cases d:x=a;rw[my d];omega;have f:a∈L:=by rcases qe.1 ha with e|e;exact absurd e.symm d;exact e
  rw[mw d,mw (CZ.2 f)];have:=UO hp.2 f c hab;omega
theorem LY{t:List Int}{x:Int}(a:x∈t):∀(l:List Int) ,BI (BG t l) x=BI t x
 | []=>rfl
 | y::l=>by
  have h1:x∈DM t y:=by unfold DM;split<;>simp[a]
  show BI (BG (DM t y) l) x=_;rw[LY h1 l,VR,my a]
section
variable{e:AI}{N:Nat}
theorem TH(_H:Hc N e){r:Int}(hr:r∈A6 e):(G8 (Mm e) (BI (A6 e) r-1).toNat).Pairwise (· < ·)/\∀y,y∈G8 (Mm e) (BI (A6 e) r-1).toNat↔y≠0/\(r,y)∈C6 (AB.hdL e.W):=by
 have h0:=CZ.2 hr;have hg:=Fs (A6 e) r;have c:∀n k,G8 (List.replicate n ([]:List Int)) k=[]:=λn k=>by unfold G8;rw[List.getElem?_replicate];split<;>rfl
 obtain⟨_,a2⟩:=Ng (A6 e) (C6 (AB.hdL e.W)) (List.replicate (A6 e).length []) λk=>by rw[c];exact List.Pairwise.nil
 obtain⟨a3,a4⟩:=a2 (BI (A6 e) r-1).toNat (by rw[List.length_replicate];omega);refine⟨a3,λy=>?_⟩;unfold Mm;rw[a4,c];constructor;rintro(g|⟨g1,⟨a,b⟩,d,g3,f⟩);cases g;dsimp only at g3 f;have:a=r:=(Gs hr mq).symm;subst this;subst f;exact⟨g1,d⟩;rintro⟨g1,d⟩;exact .inr ⟨g1,(r,y),d,by dsimp only;omega,rfl⟩
theorem VA(H:Hc N e):MR e=MN (BI (A6 e)) (Dy (A6 e) (Mm e)) (Io (H5 e)) (BI (H5 e).2) e:=by
 have d:=H.coms.pos;have b:=H.coms.par;have a2:(H5 e).2=BG (Ee e) (((AB.anL e.W).filter λa=>!decide (a.1<=2)).map (·.2)):=by unfold H5;rw[Jj]
 have z:BI (H5 e).2 0=0:=Cd.2 λg=>by
  rw[a2,Du]at g;rcases g with g|g;exact d g;obtain⟨a,h1,h2⟩:=qa.1 g;exact(H.anch a (qW.1 h1).1).2.2 h2
 unfold MR Zi MN;have i:FM e.V 0=e.V.map λr=>{ r with id:=BI (A6 e) r.id }:=by
  have:=UZ e.V [] (by simpa using H.revn);simpa using this
 have j:e.S.C.map (Qu (Ee e))=e.S.C.map λc=>{ c with id:=BI (H5 e).2 c.id,parent:=BI (H5 e).2 c.parent }:=by
  refine qF λc h=>?_;have f:c.id∈Ee e:=qa.2 ⟨c,h,rfl⟩;have k:BI (H5 e).2 c.id=BI (Ee e) c.id:=by rw[a2,LY f]
  have l:BI (H5 e).2 c.parent=BI (Ee e) c.parent:=by
   rcases b c h with g|g;rw[g,z];exact(Cd.2 d).symm;rw[a2,LY (by simpa using g)]
  unfold Qu;rw[k,l]
 rw[i,j];rfl
theorem Qq(H:Hc N e):SU (BI (A6 e)) (Dy (A6 e) (Mm e)) (Io (H5 e)) (BI (H5 e).1) (BI (H5 e).2) e/\∀a∈AB.anL e.W,Io (H5 e) a≠0:=by
 obtain⟨T,hw⟩:=H.wf;have hC0:=H.coms.pos;have a1:(H5 e).1=BG [] (((AB.anL e.W).filter λa=>decide (a.1<=2)).map (·.2)):=by unfold H5;rw[Jj]
 have a2:(H5 e).2=BG (Ee e) (((AB.anL e.W).filter λa=>!decide (a.1<=2)).map (·.2)):=by unfold H5;rw[Jj]
 have m1:∀a∈AB.anL e.W,a.1<=2->a.2∈(H5 e).1:=λa ha c=>by
  rw[a1,Du];exact .inr (qa.2 ⟨a,qW.2 ⟨ha,by simpa using c⟩,rfl⟩)
 have m2:∀a∈AB.anL e.W,¬a.1<=2->a.2∈(H5 e).2:=λa ha c=>by
  rw[a2,Du];exact .inr (qa.2 ⟨a,qW.2 ⟨ha,by simpa using c⟩,rfl⟩)
 have m3:∀x∈Ee e,x∈(H5 e).2:=λx hx=>by rw[a2,Du];exact .inl hx
 have z:(0:Int)∉(H5 e).2:=λg=>by
  rw[a2,Du]at g;rcases g with g|g;exact hC0 g;obtain⟨a,h1,h2⟩:=qa.1 g;exact(H.anch a (qW.1 h1).1).2.2 h2
 have hR:∀r m,(r,m)∈C6 (AB.hdL e.W)->m≠0->r∈A6 e:=λr m hm h0=>by
  obtain⟨h,hh,hp⟩:=qE.1 hm;exact(I8 hw h hh).met hp h0
 refine⟨{ u0:=Cd.2 H.rev0,ui:=λa ha b _ h=>Gs ha h,v0:=λr=>?_,vn:=λr m hm h0=>?_,vm:=λr m m' h1 h2 n1 n2 hlt=>?_,fe:=λa _=>rfl,wbi:=λa ha ca b hb cb h=>Gs (m1 a ha ca) h,wc0:=Cd.2 z,wci:=λx y hx hy h=>?_ },λa ha=>?_⟩
 . unfold Dy;split
   . next h=>exact Cd.2 λg=>(((TH H (CZ.1 h)).2 0).1 g).1 rfl
   rfl
 have hr:=hR r m hm h0;unfold Dy;rw[my (CZ.2 hr)];exact CZ.2 (((TH H hr).2 m).2 ⟨h0,hm⟩);have hr:=hR r m h1 n1;unfold Dy;rw[my (CZ.2 hr),my (CZ.2 hr)];obtain⟨g1,g2⟩:=TH H hr;exact UO g1 ((g2 m).2 ⟨n1,h1⟩) ((g2 m').2 ⟨n2,h2⟩) hlt;refine Gs ?_ h;rcases hx with g|⟨a,ha,c,rfl⟩
 exact m3 x g;exact m2 a ha c
 . unfold Io;split
   . next c=>exact CZ.2 (m1 a ha c)
   . next c=>exact CZ.2 (m2 a ha c)
theorem NN{d:AI}(H:HW N d.normal.renum):Jh N d=MR d.normal.renum/\HW N (MR d.normal.renum):=by
 have h2:HW N (MR d.normal.renum):=by
  rw[VA H.toHc];exact bp H (Qq H.toHc).1 (Qq H.toHc).2
 refine⟨?_,h2⟩;unfold Jh;rw[T5 H.toHc,h2.normal]
end
def EC(f:FuncId)(args:List SV):Prop:=∃e:Int,PC f args (AA e)
theorem EC.fam{f:FuncId}{A:Nat->List SV}{N:Nat}(h:∀j,j<N->EC f (A j)):∃F:Nat->Int,∀j,j<N->PC f (A j) (AA (F j)):=by
 have h2:∀j,∃e:Int,j<N->PC f (A j) (AA e):=λj=>by
  by_cases g:j<N;obtain⟨e,a⟩:=h j g;exact⟨e,λ_=>a⟩;exact⟨0,λk=>absurd k g⟩
 exact⟨λj=>(h2 j).choose,λj g=>(h2 j).choose_spec g⟩
noncomputable def RV(q:Int->Prop):Int:=open Classical in if h:∃e:Int,q e then h.choose else 0
theorem KE{q:Int->Prop}(h:∃e:Int,q e):q (RV q):=by
 unfold RV;rw[dif_pos h];exact h.choose_spec
theorem c83(s:AQ){b c d f:Int}(h1:PC 139 [AT s.A] (AA b))(h2:PC 140 [Bi s.L] (AA c))(k:PC 141 [Af s.C] (AA d))(l:PC 142 [CA s.vars] (AA f)):PC 79 [s.h] (AA (BL [b,c,d,f])):=by
 intro h n;refine FF func79 rfl λi=>?_;have a:=i.lt;refine As 1 [(1,.q s.j)] h n ?_ (λm hm=>?_);simp[go_sem,AQ.h,AQ.j];exact⟨Ap (Ai a (IO _)) (AE _ _ _),AW a AC⟩;refine AV 0 (α:=Unit) (λ_=>[(2,AA (BL [b,c,d,f]))]) (λ_=>h) (λ_ m=>n<=m) (CN trS rfl mu mu ?_) (λ_ m hm=>?_);have g:∀j y,h j=some y->j<m:=λj y e=>by have:=a j y e;omega
 simp[go_sem,trS,AQ.j];refine qY h1 ?_;simp[go_sem];refine qY h2 ?_;simp[go_sem];refine qY k ?_;simp[go_sem];refine qY l ?_;simp[go_sem];refine wW (bs:=[.y 1 ([b,c,d,f].map AA) false]) (h2:=h) 1 (AW g AC) ⟨?_,trivial⟩ ?_;exact E7 (es:=[AA b,AA c,AA d,AA f]) (Ai g (IO _)) mr (by rw[AE];simp[SV.cells]) (by simp[SV.B,SV.cells]);refine(SO _ mr).use ?_;simp[go_sem,Or];omega;refine AK ?_;simp[go_sem];exact Ar i rfl rfl
theorem lK(l:List FT)(hl:l.length<=1048576)(g:∀i,i<l.length->EC 189 [AA i,.q [Bi l]]):EC 140 [Bi l]:=by
 obtain⟨F,d⟩:=EC.fam (A:=λi=>[AA i,.q [Bi l]]) g;refine⟨BL [if(64:Int)<l.length then 9 else 0,CI F (min l.length 64)],?_⟩;intro h n;refine FF func140 rfl λc=>?_;have a:=c.lt;refine As 1 [(1,.q [Bi l])] h n ?_ (λm hm=>?_);simp[go_sem];exact⟨Ap (Ai a (IO _)) (AE _ _ _),AW a AC⟩;refine AV 0 (α:=Unit) (λ_=>[(2,AA (BL [if(64:Int)<l.length then 9 else 0,CI F (min l.length 64)]))]) (λ_=>h) (λ_ m=>n<=m) (CN fL rfl mu mu ?_) (λ_ m hm=>?_);have b:∀j y,h j=some y->j<m:=λj y e=>by have:=a j y e;omega
 have f:(if(64:Int)<l.length then(64:Int)else l.length)=((min l.length 64:Nat):Int):=by split<;>omega
 simp[go_sem,fL];refine(Kc _ _).use ?_;simp[go_sem,f];refine(Zb (min l.length 64) mq 189 [] [.q [Bi l]] F (λj hj=>d j mq)).use ?_;simp[go_sem];generalize CI F (min l.length 64)=e2;generalize(if 64<(l.length:Int)then(9:Int)else 0)=e1;refine wW (bs:=[.y 1 ([e1,e2].map AA) false]) (h2:=h) 1 (AW b AC) ⟨?_,trivial⟩ ?_;exact E7 (es:=[AA e1,AA e2]) (Ai b (IO _)) mr (by rw[AE];simp[SV.cells]) (by simp[SV.B,SV.cells]);refine(SO _ mr).use ?_;simp[go_sem,Or];omega;refine AK ?_;simp[go_sem];exact Ar c rfl rfl
theorem jy(l:List AR)(hl:l.length<=1048576)(F:Nat->Int)(d:∀i,i<l.length->PC 192 [AA i,.q [Af l]] (AA (F i))):PC 141 [Af l] (AA (BL [if(1024:Int)<l.length then 9 else 0,CI F (min l.length 1024)])):=by
 intro h n;refine FF func141 rfl λc=>?_;have a:=c.lt;refine As 1 [(1,.q [Af l])] h n ?_ (λm hm=>?_);simp[go_sem];exact⟨Ap (Ai a (IO _)) (AE _ _ _),AW a AC⟩;refine AV 0 (α:=Unit) (λ_=>[(2,AA (BL [if(1024:Int)<l.length then 9 else 0,CI F (min l.length 1024)]))]) (λ_=>h) (λ_ m=>n<=m) (CN fL rfl mu mu ?_) (λ_ m hm=>?_);have b:∀j y,h j=some y->j<m:=λj y e=>by have:=a j y e;omega
 have f:(if(1024:Int)<l.length then(1024:Int)else l.length)=((min l.length 1024:Nat):Int):=by split<;>omega
 simp[go_sem,fL];refine(Kc _ _).use ?_;simp[go_sem,f];refine(Zb (min l.length 1024) mq 192 [] [.q [Af l]] F (λj hj=>d j mq)).use ?_;simp[go_sem];generalize CI F (min l.length 1024)=e2;generalize(if 1024<(l.length:Int)then(9:Int)else 0)=e1;refine wW (bs:=[.y 1 ([e1,e2].map AA) false]) (h2:=h) 1 (AW b AC) ⟨?_,trivial⟩ ?_;exact E7 (es:=[AA e1,AA e2]) (Ai b (IO _)) mr (by rw[AE];simp[SV.cells]) (by simp[SV.B,SV.cells]);refine(SO _ mr).use ?_;simp[go_sem,Or];omega;refine AK ?_;simp[go_sem];exact Ar c rfl rfl
theorem lL(l:List Ge)(hl:l.length<=1048576)(g:∀i,i<l.length->EC 197 [AA i,.q [CA l]]):EC 142 [CA l]:=by
 obtain⟨F,d⟩:=EC.fam (A:=λi=>[AA i,.q [CA l]]) g;refine⟨BL [if(128:Int)<l.length then 9 else 0,CI F (min l.length 128)],?_⟩;intro h n;refine FF func142 rfl λc=>?_;have a:=c.lt;refine As 1 [(1,.q [CA l])] h n ?_ (λm hm=>?_);simp[go_sem];exact⟨Ap (Ai a (IO _)) (AE _ _ _),AW a AC⟩;refine AV 0 (α:=Unit) (λ_=>[(2,AA (BL [if(128:Int)<l.length then 9 else 0,CI F (min l.length 128)]))]) (λ_=>h) (λ_ m=>n<=m) (CN fL rfl mu mu ?_) (λ_ m hm=>?_);have b:∀j y,h j=some y->j<m:=λj y e=>by have:=a j y e;omega
 have f:(if(128:Int)<l.length then(128:Int)else l.length)=((min l.length 128:Nat):Int):=by split<;>omega
 simp[go_sem,fL];refine(Kc _ _).use ?_;simp[go_sem,f];refine(Zb (min l.length 128) mq 197 [] [.q [CA l]] F (λj hj=>d j mq)).use ?_;simp[go_sem];generalize CI F (min l.length 128)=e2;generalize(if 128<(l.length:Int)then(9:Int)else 0)=e1;refine wW (bs:=[.y 1 ([e1,e2].map AA) false]) (h2:=h) 1 (AW b AC) ⟨?_,trivial⟩ ?_;exact E7 (es:=[AA e1,AA e2]) (Ai b (IO _)) mr (by rw[AE];simp[SV.cells]) (by simp[SV.B,SV.cells]);refine(SO _ mr).use ?_;simp[go_sem,Or];omega;refine AK ?_;simp[go_sem];exact Ar c rfl rfl
theorem lN(l:List FT)(hl:l.length<=1048576)(i:Nat)(hi:i<l.length)(f:EC 191 [DP (l[i]).levels]):EC 189 [AA i,.q [Bi l]]:=by
 obtain⟨d,f⟩:=f;obtain⟨a,k⟩:∃a,a=HK (λj=>match l[j]? with|some r=>r.id|none=>0) i:=⟨_,rfl⟩
 refine⟨BL [a,d],?_⟩;intro h n;refine FF func189 rfl λo=>?_;have g:=o.lt;obtain⟨x,p⟩:∃x,l[i]=x:=⟨_,rfl⟩
 rw[p]at f;refine As 0 [(0,AA i),(1,.q [Bi l])] h n ?_ (λm hm=>?_);simp[go_sem,Or];refine AV 0 (α:=Unit) (λ_=>[(3,AA (BL [a,d]))]) (λ_=>h) (λ_ m=>n<=m) (CN trO rfl mu mu ?_) (λ_ m hm=>?_);have b:∀j y,h j=some y->j<m:=λj y e=>by have:=g j y e;omega
 simp[go_sem,trO,hi,p,FT.h];have s:∀j,j<=i->PC 190 ([]++[AA j]++[.q [Bi l]]) (AA (match l[j]? with|some r=>r.id|none=>0)):=λj hj=>by
  have c:j<l.length:=by omega
  simpa[c]using kJ l j c
 refine(cT i mq 190 [] [.q [Bi l]] (λj=>match l[j]? with|some r=>r.id|none=>0) s).use ?_;rw[<-k];simp[go_sem];refine f.use ?_;simp[go_sem];refine wW (bs:=[.y 1 ([a,d].map AA) false]) (h2:=h) 1 (AW b AC) ⟨?_,trivial⟩ ?_;exact E7 (es:=[AA a,AA d]) (Ai b (IO _)) mr (by rw[AE];simp[SV.cells]) (by simp[SV.B,SV.cells]);refine(SO _ mr).use ?_;simp[go_sem,Or];omega;refine AK ?_;simp[go_sem];exact Ar o rfl rfl
def Si(l:List AR)(i:Nat):Int:=match l[i]? with
 | none=>0
 | some x=>BL [HK (λj=>match l[j]? with|some r=>r.id|none=>0) i,if(decide (x.parent=0)||MQ (λj=>match(l.take i)[j]? with|some y=>decide (y.id=x.parent)|none=>false) (l.take i).length)=false then 8 else 0,if Dw x.O=false then 39 else 0,if x.time<0\/1099511627776<x.time then 40 else 0,IK x.J]
theorem kK(l:List AR)(hl:l.length<=1048576)(L:∀x∈l,x.O.size<=1048576/\x.J.size<=1048576)(i:Nat)(hi:i<l.length):PC 192 [AA i,.q [Af l]] (AA (Si l i)):=by
 obtain⟨x,F⟩:∃x,l[i]=x:=⟨_,rfl⟩
 obtain⟨b,hb⟩:∃b:Bool,b=(decide (x.parent=0)||MQ (λj=>match(l.take i)[j]? with|some y=>decide (y.id=x.parent)|none=>false) (l.take i).length):=⟨_,rfl⟩
 obtain⟨c,f⟩:∃c,c=HK (λj=>match l[j]? with|some r=>r.id|none=>0) i:=⟨_,rfl⟩
 obtain⟨e,G⟩:∃e,e=BL [c,if b=false then 8 else 0,if Dw x.O=false then 39 else 0,if x.time<0\/1099511627776<x.time then 40 else 0,IK x.J]:=⟨_,rfl⟩
 have D:Si l i=e:=by
  rw[Si,qk hi,F];dsimp only;rw[G,f,hb]
 rw[D];intro h n;refine FF func192 rfl λI=>?_;have a:=I.lt;have hxs:=L x (by rw[<-F];exact qn hi);obtain⟨X,A⟩:∃X:SV,X=.q [AA x.id,AA x.parent,.str x.O,AA x.time,.str x.J,.bool x.done]:=⟨_,rfl⟩
 refine Al 0 [(0,AA i),(1,.q [Af l])] h n ?_ (λm hm=>?_);simp[go_sem,Or];subst hm;refine As 1 [(0,AA i),(1,.q [Af l]),(4,X)] h n ?_ (λm hm=>?_);rw[A];simp[go_sem,Or,hi,F,AR.h,AE];exact⟨Ap (Ai a (IO _)) (AE _ _ _),AW a (AW a AC)⟩;refine As 0 [(0,AA i),(1,.q [Af l]),(4,X),(5,.bool b)] h n ?_ (λm hm=>?_)
 . rw[A];by_cases t:x.parent=0;have:b=true:=by rw[hb];simp[t]
   simp[go_sem,t,Or,hm,this]
   . have E:i<=l.length:=by omega
     have C:=kL (l.take i) (by simp;omega) 194 [] [.q [AA x.id,AA x.parent,.str x.O,AA x.time,.str x.J,.bool x.done]] (λj=>match(l.take i)[j]? with|some y=>decide (y.id=x.parent)|none=>false) (λj H=>by rw[qk H];exact kM x _);have IZ:MQ (λj=>match(l.take i)[j]? with|some y=>decide (y.id=x.parent)|none=>false) (l.take i).length=b:=by rw[hb];simp[t]
     rw[IZ]at C;rw[wq]at C;simp[go_sem,t,E,-List.map_take];refine qY C ?_;simp[go_sem,Or,hm,t]
 refine AV 0 (α:=Unit) (λ_=>[(3,AA e)]) (λ_=>h) (λ_ m=>n<=m) (CN trT rfl mu mu ?_) (λ_ m hm=>?_);have d:∀j y,h j=some y->j<m:=λj y e=>by have:=a j y e;omega
 rw[A];simp[go_sem,trT];have K:∀j,j<=i->PC 195 ([]++[AA j]++[.q [Af l]]) (AA (match l[j]? with|some r=>r.id|none=>0)):=λj H=>by
  have s:j<l.length:=by omega
  simpa[s]using kN l j s
 refine(cT i mq 195 [] [.q [Af l]] (λj=>match l[j]? with|some r=>r.id|none=>0) K).use ?_;rw[<-f];simp[go_sem];refine(Kc _ _).use ?_;simp[go_sem];refine(fh x.O mq).use ?_;simp[go_sem];refine(Kc _ _).use ?_;simp[go_sem];refine(LQ _ _ _).use ?_;simp[go_sem];refine(Kc _ _).use ?_;simp[go_sem];refine(cV x.J mq).use ?_;simp[go_sem];obtain⟨u,g⟩:∃u,u=(if b=false then(8:Int)else 0):=⟨_,rfl⟩
 obtain⟨v,k⟩:∃v,v=(if Dw x.O=false then(39:Int)else 0):=⟨_,rfl⟩
 obtain⟨w,o⟩:∃w,w=(if x.time<0\/1099511627776<x.time then(40:Int)else 0):=⟨_,rfl⟩
 obtain⟨z,p⟩:∃z,z=IK x.J:=⟨_,rfl⟩
 rw[<-g,<-k,<-o,<-p];refine wW (bs:=[.y 1 ([c,u,v,w,z].map AA) false]) (h2:=h) 1 (AW d AC) ⟨?_,trivial⟩ ?_;exact E7 (es:=[AA c,AA u,AA v,AA w,AA z]) (Ai d (IO _)) mr (by rw[AE];simp[SV.cells]) (by simp[SV.B,SV.cells]);refine(SO _ mr).use ?_;simp[go_sem];exact⟨by omega,by rw[G,<-g,<-k,<-o,<-p];exact Or⟩;refine AK ?_;simp[go_sem];exact Ar I rfl rfl
def JD(l:List AR):Int:=BL [if(1024:Int)<l.length then 9 else 0,CI (Si l) (min l.length 1024)]
noncomputable def ah(s:AQ):Int:=BL [RV (λe=>PC 139 [AT s.A] (AA e)),RV (λe=>PC 140 [Bi s.L] (AA e)),JD s.C,RV (λe=>PC 142 [CA s.vars] (AA e))]
theorem V5{s:AQ}(h1:EC 139 [AT s.A])(h2:EC 140 [Bi s.L])(a:s.C.length<=1048576)(c:∀x∈s.C,x.O.size<=1048576/\x.J.size<=1048576)(b:EC 142 [CA s.vars]):PC 79 [s.h] (AA (ah s)):=
 c83 s (KE h1) (KE h2) (jy _ a (Si s.C) λi hi=>kK _ a c i hi) (KE b)
def cn(x:AB):Bool:=decide (x.x=8)&&decide (x.code=1)
def lR(x:AB):Bool:=decide (x.x=1)||decide (x.x=5)||cn x
def bL(x:AB):Bool:=decide (x.x=6)||decide (x.x=7)||decide (x.x=8)
def ZC(x:AB):Bool:=if x.x=4 then decide (1<=x.code/\x.code<=3)else if x.x=6 then decide (1<=x.code/\x.code<=2)else if x.x=8 then decide (1<=x.code/\x.code<=4)else true
def fD(x:AB):Bool:=decide (x.x=4)||decide (x.x=6)||decide (x.x=8)
def So(x:AB):Bool:=!decide (1<=x.x/\x.x<=8) || !ZC x
def Sp(x:AB):Bool:=(!fD x&&decide (x.code≠0))||(!bL x&&decide (x.id≠0))||(!lR x&&decide (x.J.toList≠[]))||(decide (x.x≠6)&&decide (0<x.W.length))||(decide (x.x≠7)&&decide (0<x.R.length))
def On(x:AB):Bool:=(decide (x.x=1)||decide (x.x=5))&&decide (x.J.toList=[])
def UC(x:AB):Bool:=decide (x.x=5)&&decide ((1024:Int)<x.J.size)
def Hi(x:AB):Int:=if So x then 3 else if Sp x then 15 else if Ci x.J=false then 12 else if On x then 11 else if UC x then 10 else if cn x && !Fv x.J then 13 else 0
theorem kO(x:AB)(hx:x.l):PC 201 [x.h] (AA (Hi x)):=by
 obtain⟨v,Mi⟩:∃b,b=cn x:=⟨_,rfl⟩
 obtain⟨y,Vx⟩:∃b,b=lR x:=⟨_,rfl⟩
 obtain⟨K,ZD⟩:∃b,b=bL x:=⟨_,rfl⟩
 obtain⟨b6,QZ⟩:∃b,b=ZC x:=⟨_,rfl⟩
 obtain⟨S,w⟩:∃b,b=fD x:=⟨_,rfl⟩
 obtain⟨B,F⟩:∃b,b=So x:=⟨_,rfl⟩
 obtain⟨C,G⟩:∃b,b=Sp x:=⟨_,rfl⟩
 obtain⟨t,g⟩:∃b,b=On x:=⟨_,rfl⟩
 obtain⟨u,r⟩:∃b,b=UC x:=⟨_,rfl⟩
 obtain⟨s,D⟩:∃b,b = !Ci x.J:=⟨_,rfl⟩
 obtain⟨i,E⟩:∃b,b=(cn x && !Fv x.J):=⟨_,rfl⟩
 obtain⟨V,p⟩:∃V:Int,V=if B then 3 else if C then 15 else if s then 12 else if t then 11 else if u then 10 else if i then 13 else 0:=⟨_,rfl⟩
 have O:V=Hi x:=by
  rw[p,Hi,F,G,D,g,r,E];cases Ci x.J<;>rfl
 rw[<-O];have a:C=((!S&&decide (x.code≠0))||(!K&&decide (x.id≠0))||(!y&&decide (x.J.toList≠[]))||(decide (x.x≠6)&&decide (0<x.W.length))||(decide (x.x≠7)&&decide (0<x.R.length))):=by rw[G,Sp,w,ZD,Vx]
 have q4:y=(decide (x.x=1)||decide (x.x=5)||v):=by rw[Vx,lR,Mi]
 have N:B=(!decide (1<=x.x/\x.x<=8) || !b6):=by rw[F,So,QZ]
 have L:i=(v && !Fv x.J):=by rw[E,Mi]
 intro h n;refine FF func201 rfl λho=>?_;obtain⟨X,A⟩:∃X:SV,X=.q [AA x.x,AA x.code,AA x.id,.str x.J,AO x.H.Q,AA x.H.I,AA x.H.move,AX x.H.Y,AN x.H.Z,AH x.W,Au x.R]:=⟨_,rfl⟩
 refine As 1 [(1,X)] h n ?_ (λm hm=>?_);rw[A];simp[go_sem,qy];exact⟨Ap (ho.none (IO n)) (AE _ _ _),AW (λj z e=>(ho j z e).1) AC⟩;refine As 0 [(1,X),(3,.bool v)] h n ?_ (λm hm=>?_);rw[A];by_cases k:x.x=8;by_cases c:x.code=1;simp[go_sem,Or,k,c,hm,Mi,cn];simp[go_sem,Or,k,c,beq_eq_false_iff_ne.2 c,hm,Mi,cn];simp[go_sem,Or,k,hm,Mi,cn];refine As 0 [(1,X),(3,.bool v),(4,.bool y)] h n ?_ (λm hm=>?_);rw[A];by_cases k:x.x=1;simp[go_sem,Or,k,hm,q4];by_cases o:x.x=5;simp[go_sem,Or,o,hm,q4];simp[go_sem,Or,k,o,hm,q4];refine As 0 [(1,X),(3,.bool v),(4,.bool y),(5,.bool K)] h n ?_ (λm hm=>?_);rw[A];by_cases k:x.x=6;simp[go_sem,Or,k,hm,ZD,bL];by_cases o:x.x=7;simp[go_sem,Or,o,hm,ZD,bL];by_cases M:x.x=8;simp[go_sem,Or,M,hm,ZD,bL];simp[go_sem,Or,k,o,M,beq_eq_false_iff_ne.2 M,hm,ZD,bL];refine As 0 [(1,X),(3,.bool v),(4,.bool y),(5,.bool K),(6,.bool true)] h n ?_ (λm hm=>?_);simp[go_sem,Or,hm];refine As 0 [(1,X),(3,.bool v),(4,.bool y),(5,.bool K),(6,.bool b6)] h n ?_ (λm hm=>?_);rw[A];by_cases k:x.x=4;simp[go_sem,k];refine qY (LQ _ _ _) ?_;by_cases c:1<=x.code/\x.code<=3;simp[go_sem,Or,k,hm,QZ,ZC,c];simp[go_sem,Or,k,hm,QZ,ZC,c];by_cases T:x.x=6;simp[go_sem,T];refine qY (LQ _ _ _) ?_;by_cases c:1<=x.code/\x.code<=2;simp[go_sem,Or,T,hm,QZ,ZC,c];simp[go_sem,Or,T,hm,QZ,ZC,c];by_cases U:x.x=8;simp[go_sem,U];refine qY (LQ _ _ _) ?_;by_cases c:1<=x.code/\x.code<=4;simp[go_sem,Or,U,hm,QZ,ZC,c];simp[go_sem,Or,U,hm,QZ,ZC,c];simp[go_sem,Or,k,T,U,hm,QZ,ZC];refine As 0 [(1,X),(3,.bool v),(4,.bool y),(5,.bool K),(6,.bool b6),(7,.bool S)] h n ?_ (λm hm=>?_);rw[A];by_cases k:x.x=4;simp[go_sem,Or,k,hm,w,fD];by_cases o:x.x=6;simp[go_sem,Or,o,hm,w,fD];by_cases M:x.x=8;simp[go_sem,Or,M,hm,w,fD];simp[go_sem,Or,k,o,M,beq_eq_false_iff_ne.2 M,hm,w,fD];have out:∀(e:Int)(m:Nat),V=e->Ce n h m (AA e) (Is (AA V) h n):=λe m he=>Ar ho rfl (by rw[he]);refine CH 0 [] h (λm=>n<=m/\V=0) ?_ (λm hm=>?_)
 . refine AP ?_;refine As 0 [(1,X),(3,.bool v),(4,.bool y),(5,.bool K),(7,.bool S),(70,.bool B)] h n ?_ (λm hm=>?_);rw[A];simp[go_sem];refine qY (LQ _ _ _) ?_;by_cases c:1<=x.x/\x.x<=8;simp[go_sem,Or,c,hm,N];simp[go_sem,Or,c,hm,N];refine BD (b:=B) ms ?_;cases B with
   | true=>exact AK (by simp[go_sem];exact out 3 _ (by rw[p];rfl))
   | false=>
   simp only[qt,if_false]at p ⊢;clear G w ZD Vx q4 F N O;refine As 0 [(1,X),(3,.bool v),(79,.bool C)] h n ?_ (λm hm=>?_);rw[A];clear out p;cases S with
   | true =>
    cases K with
    | true =>
     cases y with
     | true=>
      by_cases k6:x.x=6;by_cases r0:x.R=[];simp[go_sem,Or,hm,k6,r0,a];have d:0<x.R.length:=qD.2 r0;simp[go_sem,Or,hm,k6,d,a];by_cases f0:x.W=[];by_cases k7:x.x=7;simp[go_sem,Or,hm,f0,k7,a];by_cases r0:x.R=[];simp[go_sem,Or,hm,k6,f0,k7,r0,a];have d:0<x.R.length:=qD.2 r0;simp[go_sem,Or,hm,k6,f0,k7,d,a];have f1:0<x.W.length:=qD.2 f0;simp[go_sem,Or,hm,k6,f1,a]
     | false=>
      by_cases t0:x.J.toList=[];by_cases k6:x.x=6;by_cases r0:x.R=[];simp[go_sem,Or,hm,t0,k6,r0,a];have d:0<x.R.length:=qD.2 r0;simp[go_sem,Or,hm,t0,k6,d,a];by_cases f0:x.W=[];by_cases k7:x.x=7;simp[go_sem,Or,hm,t0,f0,k7,a];by_cases r0:x.R=[];simp[go_sem,Or,hm,t0,k6,f0,k7,r0,a];have d:0<x.R.length:=qD.2 r0;simp[go_sem,Or,hm,t0,k6,f0,k7,d,a];have f1:0<x.W.length:=qD.2 f0;simp[go_sem,Or,hm,t0,k6,f1,a];simp[go_sem,Or,hm,t0,a]
    | false=>
     by_cases f:x.id=0;cases y with
     | true=>
      by_cases k6:x.x=6;by_cases r0:x.R=[];simp[go_sem,Or,hm,f,k6,r0,a];have d:0<x.R.length:=qD.2 r0;simp[go_sem,Or,hm,f,k6,d,a];by_cases f0:x.W=[];by_cases k7:x.x=7;simp[go_sem,Or,hm,f,f0,k7,a];by_cases r0:x.R=[];simp[go_sem,Or,hm,f,k6,f0,k7,r0,a];have d:0<x.R.length:=qD.2 r0;simp[go_sem,Or,hm,f,k6,f0,k7,d,a];have f1:0<x.W.length:=qD.2 f0;simp[go_sem,Or,hm,f,k6,f1,a]
     | false=>
      by_cases t0:x.J.toList=[];by_cases k6:x.x=6;by_cases r0:x.R=[];simp[go_sem,Or,hm,f,t0,k6,r0,a];have d:0<x.R.length:=qD.2 r0;simp[go_sem,Or,hm,f,t0,k6,d,a];by_cases f0:x.W=[];by_cases k7:x.x=7;simp[go_sem,Or,hm,f,t0,f0,k7,a];by_cases r0:x.R=[];simp[go_sem,Or,hm,f,t0,k6,f0,k7,r0,a];have d:0<x.R.length:=qD.2 r0;simp[go_sem,Or,hm,f,t0,k6,f0,k7,d,a];have f1:0<x.W.length:=qD.2 f0;simp[go_sem,Or,hm,f,t0,k6,f1,a];simp[go_sem,Or,hm,f,t0,a]
     simp[go_sem,Or,hm,f,a]
   | false=>
    by_cases c0:x.code=0;cases K with
    | true =>
     cases y with
     | true=>
      by_cases k6:x.x=6;by_cases r0:x.R=[];simp[go_sem,Or,hm,c0,k6,r0,a];have d:0<x.R.length:=qD.2 r0;simp[go_sem,Or,hm,c0,k6,d,a];by_cases f0:x.W=[];by_cases k7:x.x=7;simp[go_sem,Or,hm,c0,f0,k7,a];by_cases r0:x.R=[];simp[go_sem,Or,hm,c0,k6,f0,k7,r0,a];have d:0<x.R.length:=qD.2 r0;simp[go_sem,Or,hm,c0,k6,f0,k7,d,a];have f1:0<x.W.length:=qD.2 f0;simp[go_sem,Or,hm,c0,k6,f1,a]
     | false=>
      by_cases t0:x.J.toList=[];by_cases k6:x.x=6;by_cases r0:x.R=[];simp[go_sem,Or,hm,c0,t0,k6,r0,a];have d:0<x.R.length:=qD.2 r0;simp[go_sem,Or,hm,c0,t0,k6,d,a];by_cases f0:x.W=[];by_cases k7:x.x=7;simp[go_sem,Or,hm,c0,t0,f0,k7,a];by_cases r0:x.R=[];simp[go_sem,Or,hm,c0,t0,k6,f0,k7,r0,a];have d:0<x.R.length:=qD.2 r0;simp[go_sem,Or,hm,c0,t0,k6,f0,k7,d,a];have f1:0<x.W.length:=qD.2 f0;simp[go_sem,Or,hm,c0,t0,k6,f1,a];simp[go_sem,Or,hm,c0,t0,a]
    | false=>
     by_cases f:x.id=0;cases y with
     | true=>
      by_cases k6:x.x=6;by_cases r0:x.R=[];simp[go_sem,Or,hm,c0,f,k6,r0,a];have d:0<x.R.length:=qD.2 r0;simp[go_sem,Or,hm,c0,f,k6,d,a];by_cases f0:x.W=[];by_cases k7:x.x=7;simp[go_sem,Or,hm,c0,f,f0,k7,a];by_cases r0:x.R=[];simp[go_sem,Or,hm,c0,f,k6,f0,k7,r0,a];have d:0<x.R.length:=qD.2 r0;simp[go_sem,Or,hm,c0,f,k6,f0,k7,d,a];have f1:0<x.W.length:=qD.2 f0;simp[go_sem,Or,hm,c0,f,k6,f1,a]
     | false=>
      by_cases t0:x.J.toList=[];by_cases k6:x.x=6;by_cases r0:x.R=[];simp[go_sem,Or,hm,c0,f,t0,k6,r0,a];have d:0<x.R.length:=qD.2 r0;simp[go_sem,Or,hm,c0,f,t0,k6,d,a];by_cases f0:x.W=[];by_cases k7:x.x=7;simp[go_sem,Or,hm,c0,f,t0,f0,k7,a];by_cases r0:x.R=[];simp[go_sem,Or,hm,c0,f,t0,k6,f0,k7,r0,a];have d:0<x.R.length:=qD.2 r0;simp[go_sem,Or,hm,c0,f,t0,k6,f0,k7,d,a];have f1:0<x.W.length:=qD.2 f0;simp[go_sem,Or,hm,c0,f,t0,k6,f1,a];simp[go_sem,Or,hm,c0,f,t0,a]
     simp[go_sem,Or,hm,c0,f,a]
    simp[go_sem,Or,hm,c0,a]
   refine BD (b:=C) ms ?_;cases C with
   | true=>exact AK (by simp[go_sem];exact out 15 _ (by rw[p];rfl))
   | false=>
   simp only[qt,if_false]at p ⊢;refine As 0 [(1,X),(3,.bool v),(127,.bool s)] h n ?_ (λm hm=>?_);rw[A];simp[go_sem];refine qY (WP x.J (by have:=(EQ hx).2.1;omega)) ?_;simp[go_sem,Or,hm,D];refine BD (b:=s) ms ?_;cases s with
   | true=>exact AK (by simp[go_sem];exact out 12 _ (by rw[p];rfl))
   | false=>
   simp only[qt,if_false]at p ⊢;refine As 0 [(1,X),(3,.bool v),(132,.bool t)] h n ?_ (λm hm=>?_);rw[A];by_cases t0:x.J.toList=[];by_cases P:x.x=1;simp[go_sem,Or,P,t0,hm,g,On];by_cases o:x.x=5<;>simp[go_sem,Or,P,o,t0,hm,g,On];have t1:x.J.toList.isEmpty=false:=by simpa using t0
   by_cases P:x.x=1;simp[go_sem,Or,P,t0,t1,hm,g,On];by_cases o:x.x=5<;>simp[go_sem,Or,P,o,t0,t1,hm,g,On];refine BD (b:=t) ms ?_;cases t with
   | true=>exact AK (by simp[go_sem];exact out 11 _ (by rw[p];rfl))
   | false=>
   simp only[qt,if_false]at p ⊢;refine As 0 [(1,X),(3,.bool v),(146,.bool u)] h n ?_ (λm hm=>?_);rw[A];by_cases o:x.x=5;by_cases t1:(1024:Int)<x.J.size<;>simp[go_sem,Or,o,t1,hm,r,UC];simp[go_sem,Or,o,hm,r,UC];refine BD (b:=u) ms ?_;cases u with
   | true=>exact AK (by simp[go_sem];exact out 10 _ (by rw[p];rfl))
   | false=>
   simp only[qt,if_false]at p ⊢;refine As 0 [(156,.bool i)] h n ?_ (λm hm=>?_);rw[A];cases v with
   | false=>simp[go_sem,Or,hm,L]
   | true=>
    simp[go_sem];refine qY (cW x.J) ?_;simp[go_sem,Or,hm,L]
   refine BD (b:=i) ms ?_;cases i with
   | true=>exact AK (by simp[go_sem];exact out 13 _ (by rw[p];rfl))
   | false=>
   simp only[qt,if_false]at p;refine AK ?_;simp[go_sem];exact⟨hm,p⟩
 refine AK ?_;simp[go_sem];exact out _ _ hm.2
def R9(l:List Fp):Bool:=l.any λp=>decide (p.key=20)||decide (p.key=1)
theorem lM(l:List Ao)(hl:l.length<=1048576)(hs:∀x∈l,x.Q.length<=1048576)(i:Nat)(hi:i<l.length):EC 186 [AT l,AA i]:=by
 obtain⟨s,hx⟩:∃s,l[i]=s:=⟨_,rfl⟩
 obtain⟨b1,Sx⟩:∃b1:Bool,b1=(decide (s.id<1)||decide (1073741824<s.id)):=⟨_,rfl⟩
 obtain⟨b2,IZ⟩:∃b2:Bool,b2=(decide (0<i)&&decide (s.id=(l.getD (i-1) s).id)):=⟨_,rfl⟩
 obtain⟨b3,Mi⟩:∃b3:Bool,b3=(decide (0<i)&&decide (s.id<(l.getD (i-1) s).id)):=⟨_,rfl⟩
 obtain⟨b4,Vx⟩:∃b4:Bool,b4=(decide (s.x≠1)&&decide (s.x≠2)):=⟨_,rfl⟩
 obtain⟨b5,ZD⟩:∃b5:Bool,b5 = !GA s.name:=⟨_,rfl⟩
 obtain⟨b6,QZ⟩:∃b6:Bool,b6=decide (0<=Cl (l.take i) s.x s.name):=⟨_,rfl⟩
 obtain⟨b7,hb7⟩:∃b7:Bool,b7=R9 s.Q:=⟨_,rfl⟩
 obtain⟨V,hV⟩:∃V:Int,V=if b1 then 18 else if b2 then 7 else if b3 then 6 else if b4 then 3 else if b5 then 13 else if b6 then 7 else if b7 then 4 else C8 (if s.x=1 then 2 else 1) s.Q:=⟨_,rfl⟩
 refine⟨V,?_⟩;intro h n;refine FF func186 rfl λho=>?_;have hHb:=ho.lt;have hps:=hs s (by rw[<-hx];exact qn hi);have out:∀(e:Int)(m:Nat),V=e->Ce n h m (AA e) (Is (AA V) h n):=λe m he=>Ar ho rfl (by rw[he]);obtain⟨X,hX⟩:∃X:SV,X=.q [AA s.id,AA s.x,.str s.name,AA s.base,AA s.next,AO s.Q]:=⟨_,rfl⟩
 refine As 0 [(0,AT l),(1,AA i)] h n ?_ (λm hm=>?_);simp[go_sem,Or];refine As 1 [(0,AT l),(1,AA i),(5,X)] h n ?_ (λm hm=>?_);have hHm:∀j y,h j=some y->j<m:=λj y e=>by have:=hHb j y e;omega
 rw[hX];simp[go_sem,Or,hi,hx,Ao.h,AE];exact⟨by omega,Ap (Ai hHm (IO _)) (AE _ _ _),AW hHm (AW hHm AC)⟩;have w1:0<i->IntKind.i64.wrap ((i:Int)-1)=((i-1:Nat):Int):=λg=>by rw[EU]<;>omega
 refine AV 0 (α:=Unit) (λ_=>[(0,AT l),(1,AA i),(5,X)]) (λ_=>h) (λ_ m=>n<=m/\(b1=false/\b2=false/\b3=false/\b4=false/\b5=false)) (AP ?_) (λ_ m hm=>?_)
 . refine As 0 [(0,AT l),(1,AA i),(5,X),(14,.bool b1)] h n ?_ (λm hm=>?_);rw[hX];by_cases a1:s.id<1;have e:b1=true:=by rw[Sx];simp[a1]
   simp[go_sem,Or,a1,hm,e];have e:b1=decide (1073741824<s.id):=by rw[Sx];simp[a1]
   simp[go_sem,Or,a1,hm,e];cases b1 with
   | true=>exact AK (by simp[go_sem];exact out 18 _ (by rw[hV];rfl))
   | false=>
   refine BD (b:=false) ms ?_;simp only[qt,if_false];refine AV 0 (α:=Unit) (λ_=>[(0,AT l),(1,AA i),(5,X),(23,.bool b2)]) (λ_=>h) (λ_ m=>n<=m) (CN Vq rfl mu mu ?_) (λ_ m hm=>?_);rw[hX];by_cases a1:0<i;have hi1:i-1<l.length:=by omega
   have e:b2=(s.id==l[i-1].id):=by rw[IZ,Bool.eq_iff_iff];simp[a1,List.getD,hi1]
   simp[go_sem,Vq,Or,a1,w1,hm,hi1,Ao.h,e];have e:b2=false:=by rw[IZ];simp[a1]
   simp[go_sem,Vq,Or,a1,hm,e];cases b2 with
   | true=>exact AK (by simp[go_sem];exact out 7 _ (by rw[hV];rfl))
   | false=>
   refine BD (b:=false) ms ?_;simp only[qt,if_false];refine AV 0 (α:=Unit) (λ_=>[(0,AT l),(1,AA i),(5,X),(37,.bool b3)]) (λ_=>h) (λ_ m=>n<=m) (CN Vq rfl mu mu ?_) (λ_ m hm=>?_);rw[hX];by_cases a1:0<i;have hi1:i-1<l.length:=by omega
   have e:b3=(decide (s.id<l[i-1].id)):=by rw[Mi,Bool.eq_iff_iff];simp[a1,List.getD,hi1]
   simp[go_sem,Vq,Or,a1,w1,hm,hi1,Ao.h,e];have e:b3=false:=by rw[Mi];simp[a1]
   simp[go_sem,Vq,Or,a1,hm,e];cases b3 with
   | true=>exact AK (by simp[go_sem];exact out 6 _ (by rw[hV];rfl))
   | false=>
   refine BD (b:=false) ms ?_;simp only[qt,if_false];refine As 0 [(0,AT l),(1,AA i),(5,X),(51,.bool b4)] h n ?_ (λm hm=>?_);rw[hX];by_cases a1:s.x=1;have e:b4=false:=by rw[Vx];simp[a1]
   simp[go_sem,Or,a1,hm,e];have a2:(s.x !=1)=true:=by simpa using a1
   have e:b4=(s.x !=2):=by rw[Vx];by_cases c:s.x=2<;>simp[a1,c]
   simp[go_sem,Or,a2,hm,e];cases b4 with
   | true=>exact AK (by simp[go_sem];exact out 3 _ (by rw[hV];rfl))
   | false=>
   refine BD (b:=false) ms ?_;simp only[qt,if_false];refine As 0 [(0,AT l),(1,AA i),(5,X),(60,.bool b5)] h n ?_ (λm hm=>?_);rw[hX];simp[go_sem];refine(kR s.name).use ?_;simp[go_sem,Or,hm,ZD];cases b5 with
   | true=>exact AK (by simp[go_sem];exact out 13 _ (by rw[hV];rfl))
   | false=>exact AK (by simp[go_sem,Or,hm])
 obtain⟨hm,z1,z2,z3,z4,z5⟩:=hm;rw[z1,z2,z3,z4,z5]at hV;refine CH 0 [(0,AT l),(1,AA i),(5,X)] h (λm=>n<=m/\b6=false) ?_ (λm hm=>?_);refine AV 0 (α:=Unit) (λ_=>[(0,AT l),(1,AA i),(5,X),(7,.bool b6)]) (λ_=>h) (λ_ m=>n<=m) (CN iZ rfl mu mu ?_) (λ_ m hm=>?_);have hle:i<=l.length:=by omega
 have hc:=kS (l.take i) s.x s.name (by simp;omega);rw[<-QZ]at hc;generalize(if 0<=Cl (l.take i) s.x s.name then Cl (l.take i) s.x s.name else 0)=k1 at hc;simp only[AT,wq]at hc;rw[hX];simp[go_sem,iZ,hle,-List.map_take];refine qY hc ?_;simp[go_sem,Or,hm];cases b6 with
 | true=>exact AK (by simp[go_sem];exact out 7 _ (by rw[hV];rfl))
 | false=>exact AK (by simp[go_sem,Or,hm])
 obtain⟨hm,z6⟩:=hm;rw[z6]at hV;refine CH 0 [(5,X)] h (λm=>n<=m/\b7=false) ?_ (λm hm=>?_);refine As 0 [(5,X),(78,AO s.Q),(79,AA s.Q.length),(80,AA 0)] h n ?_ (λm hm=>?_);rw[hX];simp[go_sem,Or,hm];refine AP (Aq 0 (α:=Nat) (λk=>[(5,X),(78,AO s.Q),(79,AA s.Q.length),(80,AA k)]) (λ_=>h) (λk m=>k<=s.Q.length/\n<=m/\R9 (s.Q.take k)=false) (λk=>s.Q.length-k) 0 ⟨qj _,hm,rfl⟩ ?_ AC ?_);simp[go_sem,look,Or];rintro k m ⟨hk,hm,hI⟩;by_cases hlt:k<s.Q.length;have w2:=wS k mq;obtain⟨p,hp⟩:∃p,s.Q[k]=p:=⟨_,rfl⟩
 have hst:R9 (s.Q.take (k+1))=(decide (p.key=20)||decide (p.key=1)):=by
  unfold R9 at hI ⊢;rw[qb hlt,hp,List.any_append,hI];simp
 have bad:∀m:Nat,(decide (p.key=20)||decide (p.key=1))=true->Ce n h m (AA 4) (Is (AA V) h n):=λm g=>out 4 m (by
  have:b7=true:=by unfold R9 at hb7;rw[hb7,List.any_eq_true];exact⟨p,by rw[<-hp];exact qn hlt,g⟩
  rw[hV,this];rfl)
 refine As 0 [(5,X),(78,AO s.Q),(79,AA s.Q.length),(80,AA k),(81,.bool true)] h n ?_ (λm hm=>?_);simp[go_sem,Or,hm,hlt];refine As 0 [(5,X),(78,AO s.Q),(79,AA s.Q.length),(80,AA k)] h n ?_ (λm hm=>?_);simp[go_sem,Or,hm];refine AV 0 (α:=Unit) (λ_=>[(5,X),(78,AO s.Q),(79,AA s.Q.length),(80,AA k)]) (λ_=>h) (λ_ m=>n<=m/\(decide (p.key=20)||decide (p.key=1))=false) (AP ?_) (λ_ m hm=>?_);refine As 1 [(5,X),(78,AO s.Q),(79,AA s.Q.length),(80,AA k),(9,.q [AA p.key,AA p.value])] h n ?_ (λm hm=>?_);have hHm:∀j y,h j=some y->j<m:=λj y e=>by have:=hHb j y e;omega
 simp[go_sem,Or,hlt,hp,Fp.h,AE];exact⟨by omega,Ap (Ai hHm (IO _)) (AE _ _ _),AW hHm (AW hHm AC)⟩;refine AK ?_;by_cases a1:p.key=20;simp[go_sem,a1];exact bad _ (by simp[a1]);by_cases a2:p.key=1;simp[go_sem,a2];exact bad _ (by simp[a2]);have a3:(p.key==20)=false:=by simpa using a1
 have a4:(p.key==1)=false:=by simpa using a2
 simp[go_sem,a1,a2,a3,a4,Or,hm];refine AK ?_;simp[go_sem,w2,Or,-Int.natCast_add];exact⟨k+1,by omega,⟨by omega,hm.1,by rw[hst];exact hm.2⟩,rfl⟩;refine AK ?_;have e:k=s.Q.length:=by omega
 simp[go_sem,hlt,Or,hm];rw[hb7];rw[e,qp]at hI;exact hI;obtain⟨hm,h7⟩:=hm;refine AV 0 (α:=Unit) (λ_=>[(4,AA V)]) (λ_=>h) (λ_ m=>n<=m) (CN ia rfl mu mu ?_) (λ_ m hm=>?_);rw[hX];simp[go_sem,ia];refine(kT s.x).use ?_;have hVV:V=C8 (if s.x=1 then(2:Int)else 1) s.Q:=by rw[hV,h7];rfl
 generalize(if s.x=1 then(2:Int)else 1)=el at hVV;simp[go_sem];refine(fi el s.Q hps).use ?_;simp[go_sem,Or,hm,hVV];refine AK ?_;simp[go_sem];exact out _ _ rfl
def Kn:List (Int×Int)->Int->Option Int
 | [],_=>none
 | a::l,x=>if a.1=x then some a.2 else Kn l x
def LF:List (Int×Int)->Int->Int->List (Int×Int)
 | [],x,v=>[(x,v)]
 | a::l,x,v=>if a.1=x then(x,v)::l else a::LF l x v
theorem JH(x:Int):∀(l:List (Int×Int))(i:Nat),(CY (AA x) (Hx l) i=some none/\Kn l x=none)\/∃j v,CY (AA x) (Hx l) i=some (some (j,AA v))/\Kn l x=some v
 | [],i=>.inl ⟨rfl,rfl⟩
 | a::l,i=>by
  by_cases e:x=a.1;exact .inr ⟨i,a.2,by simp[Hx,CY,GJ,e],by rw[Kn,my e.symm]⟩;have h:(x==a.1)=false:=by simpa using e
  rw[Kn,mw λg=>e g.symm];rcases JH x l (i+1)with⟨g,k⟩|⟨j,v,g,k⟩
  left;refine⟨?_,k⟩;simp only[Hx,qi,CY,GJ,if_true,h];exact g;right;refine⟨j,v,?_,k⟩;simp only[Hx,qi,CY,GJ,if_true,h];exact g
theorem Lz(x v:Int):∀(l:List (Int×Int))(i:Nat),(CY (AA x) (Hx l) i=some none/\Hx l++[(AA x,AA v)]=Hx (LF l x v))\/∃j w,CY (AA x) (Hx l) i=some (some (i+j,AA w))/\(Hx l).modify j (λ_=>(AA x,AA v))=Hx (LF l x v)
 | [],i=>.inl ⟨rfl,rfl⟩
 | a::l,i=>by
  by_cases e:x=a.1;exact .inr ⟨0,a.2,by simp[Hx,CY,GJ,e],by rw[LF,my e.symm];simp[Hx]⟩;have h:(x==a.1)=false:=by simpa using e
  rw[LF,mw λg=>e g.symm];rcases Lz x v l (i+1)with⟨g,k⟩|⟨j,w,g,k⟩
  left;refine⟨?_,?_⟩;simp only[Hx,qi,CY,GJ,if_true,h];exact g;simp only[Hx,qi,qB]at k ⊢;rw[k];right;refine⟨j+1,w,?_,?_⟩;simp only[Hx,qi,CY,GJ,if_true,h];rw[show i+(j+1)=i+1+j by omega];exact g;simp only[Hx,qi,List.modify_succ_cons]at k ⊢;rw[k]
def J6(l:List Ao):Nat->List (Int×Int)
 | 0=>[]
 | i+1=>match l[i]? with
  | some s=>LF (J6 l i) s.id i
  | none=>J6 l i
theorem SH{x v:Int}:∀{l:List (Int×Int)} {p:Int×Int},p∈LF l x v->p∈l\/p.2=v
 | [],p,h=>by rw[LF,qw]at h;rw[h];exact .inr rfl
 | a::l,p,h=>by
  rw[LF]at h;split at h;rcases qe.1 h with e|e;rw[e];exact .inr rfl;exact .inl (qP _ e);rcases qe.1 h with e|e;rw[e];exact .inl (qK ..);exact(SH e).imp_left (qP _)
theorem Pr(l:List Ao):∀i,i<=l.length->jH l (J6 l i)
 | 0,_=>λp hp=>by cases hp
 | i+1,h=>λp hp=>by
  rw[J6,qk (by omega:i<l.length)]at hp;rcases SH hp with g|g;exact Pr l i mq p g;omega
theorem UF{l:List Ao}{x v:Int}:∀{a:List (Int×Int)},jH l a->Kn a x=some v->0<=v/\v<l.length
 | [],_,h=>by cases h
 | p::a,H,h=>by
  rw[Kn]at h;split at h;cases h;exact H p (qK ..);exact UF (λq b=>H q (qP _ b)) h
def QX(l:List Ao):Nat->Int->Bool
 | 0,id=>if id=0 then false else(Kn (J6 l l.length) id).isSome
 | f + 1, id => if id = 0 then false else match Kn (J6 l l.length) id with
  | none=>false
  | some v=>match l[v.toNat]? with
   | some x=>QX l f x.base
   | none=>false
theorem We(l:List Ao)(f:Nat):QX l f 0=false:=by cases f<;>simp[QX]
theorem Wd{l:List Ao}{f:Nat}{id:Int}(h:¬id=0)(g:Kn (J6 l l.length) id=none):QX l f id=false:=by cases f<;>simp[QX,h,g]
theorem Wa{l:List Ao}{id v:Int}(h:¬id=0)(g:Kn (J6 l l.length) id=some v):QX l 0 id=true:=by simp[QX,h,g]
theorem Wb{l:List Ao}{f:Nat}{id v:Int}{x:Ao}(h:¬id=0)(g:Kn (J6 l l.length) id=some v)(hv:v.toNat<l.length)(a:l[v.toNat]=x):QX l (f+1) id=QX l f x.base:=by simp[QX,h,g,hv,a]
structure YX(E:BZ)(yl:Nat)(N:Nat)(J:Nat->Hp->Nat->Prop)(Jx:Hp->Nat->Prop)(D:Nat->Prop):Prop where
 step:∀c (x:Ao) h m,J c h m->Fb E prog yl [x.h] h m (λv h' m'=>m<=m'/\(∀o,¬D o->o<m->h' o=h o)/\((v=.bool true/\c+1<=N/\J (c+1) h' m')\/(v=.bool false/\¬(c+1<=N)/\Jx h' m')))
 keep:∀c h m h' m',J c h m->m<=m'->(∀o,D o->h' o=h o)->J c h' m'
 lt:∀c h m,J c h m->∀o,D o->o<m
section
variable{E:BZ}{yl N:Nat}{J:Nat->Hp->Nat->Prop}{Jx:Hp->Nat->Prop}{D:Nat->Prop}
theorem gM(Y:YX E yl N J Jx D)(l:List Ao)(hl:l.length<=1048576){H:Hp}{n k:Nat}{id:Int}(hk:H k=some (.cells [AA id]))(hkD:¬D k)(hJ:J 0 H n):
 Ab E prog 248 [.fn (.yield yl) [] [],.q [AT l],.ptr k 0] H n (λ_ h' m'=>n<=m'/\(∀o,¬D o->o≠k->o<n->h' o=H o)/\((QX l N id=false/\∃c,J c h' m')\/(QX l N id=true/\Jx h' m'))):=by
 refine FF func248 rfl λho=>?_;have hHb:=ho.lt;have hkn:k<n:=hHb k _ hk;have hDn:=Y.lt _ _ _ hJ;have nk:k≠n:=by omega
 refine Bc 0 [(0,.fn (.yield yl) [] []),(1,.q [AT l]),(2,.ptr k 0),(4,.map n)] (h_ H n (some (.map (Hx [])))) (λm=>n<m) ?_ (λm hm=>?_);simp[go_sem,Or,Hx];refine CH 0 [(0,.fn (.yield yl) [] []),(1,.q [AT l]),(2,.ptr k 0),(4,.map n)] (h_ H n (some (.map (Hx (J6 l l.length))))) (λm=>n<m) ?_ (λm hm=>?_)
 . refine Bc 0 [(0,.fn (.yield yl) [] []),(1,.q [AT l]),(2,.ptr k 0),(4,.map n),(10,AT l),(11,AA l.length),(12,AA 0)] (h_ H n (some (.map (Hx [])))) (λm=>n<m) ?_ (λm hm=>?_);simp[go_sem,Or,hm];refine AP (Aq 0 (α:=Nat) (λi=>[(0,.fn (.yield yl) [] []),(1,.q [AT l]),(2,.ptr k 0),(4,.map n),(10,AT l),(11,AA l.length),(12,AA i)]) (λi=>h_ H n (some (.map (Hx (J6 l i))))) (λi m=>i<=l.length/\n<m) (λi=>l.length-i) 0 ⟨qj _,hm⟩ ?_ AC ?_);simp[go_sem,look,Or];rintro i m ⟨hi,hm⟩;obtain⟨a,haa⟩:∃a,a=J6 l i:=⟨_,rfl⟩
   have ha:jH l a:=by rw[haa];exact Pr l i hi
   rw[<-haa];by_cases hlt:i<l.length
   . have w1:=wS i mq;obtain⟨x,hx⟩:∃x,l[i]=x:=⟨_,rfl⟩
     refine Bc 0 [(0,.fn (.yield yl) [] []),(1,.q [AT l]),(2,.ptr k 0),(4,.map n),(10,AT l),(11,AA l.length),(12,AA i),(13,.bool true)] (h_ H n (some (.map (Hx a)))) (λm=>n<m) ?_ (λm hm=>?_);simp[go_sem,Or,hm,hlt];refine Bc 0 [(0,.fn (.yield yl) [] []),(1,.q [AT l]),(2,.ptr k 0),(4,.map n),(10,AT l),(11,AA l.length),(12,AA i)] (h_ H n (some (.map (Hx a)))) (λm=>n<m) ?_ (λm hm=>?_);simp[go_sem,Or,hm];refine AV 0 (α:=Unit) (λ_=>[(0,.fn (.yield yl) [] []),(1,.q [AT l]),(2,.ptr k 0),(4,.map n),(10,AT l),(11,AA l.length),(12,AA i)]) (λ_=>h_ H n (some (.map (Hx (LF a x.id i))))) (λ_ m=>n<m) (AP ?_) (λ_ m hm=>?_)
     . refine Bc 1 [(0,.fn (.yield yl) [] []),(1,.q [AT l]),(2,.ptr k 0),(4,.map n),(10,AT l),(11,AA l.length),(12,AA i),(5,AA i),(6,.q [AA x.id,AA x.x,.str x.name,AA x.base,AA x.next,AO x.Q])] (h_ H n (some (.map (Hx a)))) (λm=>n<m) ?_ (λm hm=>?_);have hHm:∀j y,h_ H n (some (.map (Hx a))) j=some y->j<m:=λj y e=>by
        simp only[h_]at e;split at e;omega;have:=hHb j y e;omega
       simp[go_sem,Or,hlt,hx,Ao.h,AE];exact⟨by omega,Ap (Ai hHm (IO _)) (AE _ _ _),AW hHm (AW hHm AC)⟩;refine AK ?_;rcases Lz x.id i a 0 with⟨hf,hpush⟩|⟨j,v,hf,hset'⟩
       simp[go_sem,AE,hf,BQ,hpush,Or,Ad];exact hm;have hset':(Hx a).modify j (λ_=>(AA x.id,AA i))=Hx (LF a x.id i):=hset';simp[go_sem,AE,hf,BQ,hset',Or,Ad];exact hm
     refine AK ?_;have hst:J6 l (i+1)=LF a x.id i:=by rw[J6,qk hlt,hx,haa]
     simp[go_sem,w1,Or,-Int.natCast_add];exact⟨i+1,by omega,⟨by omega,hm⟩,rfl,by rw[hst];exact AC⟩
   refine AK ?_;have e:i=l.length:=by omega
   simp[go_sem,Or,hm,haa,e]
 obtain⟨a,haa⟩:∃a,a=J6 l l.length:=⟨_,rfl⟩
 have ha:jH l a:=by rw[haa];exact Pr l _ (IO _)
 rw[<-haa];have hnD:¬D n:=λg=>by have:=hDn n g;omega
 refine AK ?_;simp[go_sem];refine BC 0 (α:=Nat×Int×Hp) (λ_=>[(0,.fn (.yield yl) [] []),(1,.q [AT l]),(2,.ptr k 0),(4,.map n)]) (λq=>q.2.2) (λq m=>n<m/\J q.1 q.2.2 m/\q.2.2 k=some (.cells [AA q.2.1])/\q.2.2 n=some (.map (Hx a))/\(∀o,¬D o->o≠k->o<n->q.2.2 o=H o)/\q.1<=N/\QX l (N-q.1) q.2.1=QX l N id) (λq=>N-q.1)
  (0,id,h_ H n (some (.map (Hx a)))) ⟨hm,Y.keep _ _ _ _ _ hJ mq λo g=>AD _ _ (by have:=hDn o g;omega),(AD _ _ nk).trans hk,AE _ _ _,λo _ _ g=>AD _ _ mq,qj _,rfl⟩ ?_ AC ?_
 simp[look,Or];obtain⟨id0,hid0⟩:∃id0,id0=id:=⟨_,rfl⟩
 rw[<-hid0];rintro⟨c,id,G⟩ m ⟨hm,hJ,hGk,hGn,BA,hcN0,hch⟩;dsimp only at hJ hGk hGn BA hcN0 hch ⊢;by_cases h0:id=0;simp[go_sem,hGk,h0];exact .inl ⟨by omega,BA,.inl ⟨by rw[<-hch,h0];exact We _ _,c,hJ⟩⟩;have h0':(id !=0)=true:=by simpa using h0
 rcases JH id a 0 with⟨hf,hg⟩|⟨j,v,hf,hg⟩
 simp[go_sem,hGk,hGn,h0',hf,BQ];exact .inl ⟨by omega,BA,.inl ⟨by rw[<-hch,Wd h0 (by rw[<-haa];exact hg)],c,hJ⟩⟩;obtain⟨hv1,hv2⟩:0<=v/\v<l.length:=UF ha hg;have hvl:v.toNat<l.length:=by omega
 obtain⟨x,hx⟩:∃x,l[v.toNat]'hvl=x:=⟨_,rfl⟩
 simp[go_sem,hGk,hGn,h0',hf,BQ,hv1,hvl,hx,Ao.h];have hy:=Y.step c x G m hJ;simp only[Ao.h]at hy;refine Fb.mono hy ?_;rintro w G3 m3 ⟨hm3,hfr,⟨rfl,hcN,hj⟩|⟨rfl,hcN,hj⟩⟩;have g3k:G3 k=some (.cells [AA id]):=by rw[hfr k hkD mq];exact hGk
 have g3n:G3 n=some (.map (Hx a)):=by rw[hfr n hnD mq];exact hGn
 simp[go_sem,hv1,hvl,hx,Ao.h,g3k];refine⟨c+1,by omega,x.base,h_ G3 k (some (.cells [AA x.base])),⟨by omega,Y.keep _ _ _ _ _ hj (IO _) λo g=>AD _ _ (by rintro rfl;exact hkD g),AE _ _ _,by rw[AD _ _ (Ne.symm nk)];exact g3n,λo g1 g2 g3=>?_,hcN,by rw[<-hch,show N-c=(N-(c+1))+1 by omega];exact(Wb h0 (by rw[<-haa];exact hg) hvl hx).symm⟩,AC⟩;rw[AD _ _ g2,hfr o g1 mq];exact BA o g1 g2 g3;simp[go_sem];exact .inl ⟨by omega,λo g1 g2 g3=>by rw[hfr o g1 mq];exact BA o g1 g2 g3,.inr ⟨by rw[<-hch,show N-c=0 by omega];exact Wa h0 (by rw[<-haa];exact hg),hj⟩⟩
end
end Go.Proofs.YthinbkgpjmjfeaaGreatDoor.Sh
