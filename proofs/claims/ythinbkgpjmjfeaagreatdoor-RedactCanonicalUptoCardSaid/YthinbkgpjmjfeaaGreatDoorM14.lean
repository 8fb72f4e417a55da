/- A part of the proof (part 14 of 18). -/
import Derived.Test.YthinbkgpjmjfeaaGreatDoorM13
namespace Go.Proofs.YthinbkgpjmjfeaaGreatDoor.Sh
open Go.Proofs.Tryz
abbrev uc:=@AD.gm_eq
abbrev wV:=@AD.hdL_eq
abbrev wX:=@AM.hd_eq
abbrev wY:=@AG.hd_eq
abbrev wZ:=@AD.hd_eq
open Proofs
set_option maxRecDepth 10000
set_option maxHeartbeats 4000000
def dK(x:AD):Bool:=decide (x.l=8)&&decide (x.code=1)
def lp(x:AD):Bool:=decide (x.l=1)||decide (x.l=5)||dK x
def fO(x:AD):Bool:=decide (x.l=6)||decide (x.l=7)||decide (x.l=8)
def ZL(x:AD):Bool:=if x.l=4 then decide (1<=x.code/\x.code<=3)else if x.l=6 then decide (1<=x.code/\x.code<=2)else if x.l=8 then decide (1<=x.code/\x.code<=4)else true
def fP(x:AD):Bool:=decide (x.l=4)||decide (x.l=6)||decide (x.l=8)
def VT(x:AD):Bool:=!decide (1<=x.l/\x.l<=8) || !ZL x
def XF(x:AD):Bool:=(!fP x&&decide (x.code≠0))||(!fO x&&decide (x.id≠0))||(!lp x&&decide (x.J.toList≠[]))||(decide (x.l≠6)&&decide (0<x.W.length))||(decide (x.l≠7)&&decide (0<x.R.length))
def Ox(x:AD):Bool:=(decide (x.l=1)||decide (x.l=5))&&decide (x.J.toList=[])
def UE(x:AD):Bool:=decide (x.l=5)&&decide ((1024:Int)<x.J.size)
def Ir(x:AD):Int:=if VT x then 3 else if XF x then 15 else if Cj x.J=false then 12 else if Ox x then 11 else if UE x then 10 else if dK x && !F6 x.J then 13 else 0
theorem ki(x:AD)(hx:x.D):PC 201 [x.h] (AA (Ir x)):=by
 obtain⟨v,Mn⟩:∃b,b=dK x:=⟨_,rfl⟩
 obtain⟨y,V4⟩:∃b,b=lp x:=⟨_,rfl⟩
 obtain⟨L,ZM⟩:∃b,b=fO x:=⟨_,rfl⟩
 obtain⟨b6,Qj⟩:∃b,b=ZL x:=⟨_,rfl⟩
 obtain⟨T,w⟩:∃b,b=fP x:=⟨_,rfl⟩
 obtain⟨B,G⟩:∃b,b=VT x:=⟨_,rfl⟩
 obtain⟨C,K⟩:∃b,b=XF x:=⟨_,rfl⟩
 obtain⟨t,g⟩:∃b,b=Ox x:=⟨_,rfl⟩
 obtain⟨u,r⟩:∃b,b=UE x:=⟨_,rfl⟩
 obtain⟨s,E⟩:∃b,b = !Cj x.J:=⟨_,rfl⟩
 obtain⟨i,F⟩:∃b,b=(dK x && !F6 x.J):=⟨_,rfl⟩
 obtain⟨V,p⟩:∃V:Int,V=if B then 3 else if C then 15 else if s then 12 else if t then 11 else if u then 10 else if i then 13 else 0:=⟨_,rfl⟩
 have P:V=Ir x:=by
  rw[p,Ir,G,K,E,g,r,F];cases Cj x.J<;>rfl
 rw[<-P];have a:C=((!T&&decide (x.code≠0))||(!L&&decide (x.id≠0))||(!y&&decide (x.J.toList≠[]))||(decide (x.l≠6)&&decide (0<x.W.length))||(decide (x.l≠7)&&decide (0<x.R.length))):=by rw[K,XF,w,ZM,V4]
 have q4:y=(decide (x.l=1)||decide (x.l=5)||v):=by rw[V4,lp,Mn]
 have O:B=(!decide (1<=x.l/\x.l<=8) || !b6):=by rw[G,VT,Qj]
 have M:i=(v && !F6 x.J):=by rw[F,Mn]
 intro h n;refine E8 func201 rfl λho=>?_;obtain⟨X,A⟩:∃X:SV,X=.q [AA x.l,AA x.code,AA x.id,.str x.J,AU x.H.Q,AA x.H.I,AA x.H.move,Aa x.H.Y,AN x.H.Z,AI x.W,Ap x.R]:=⟨_,rfl⟩
 refine Ao 1 [(1,X)] h n ?_ (λm hm=>?_);rw[A];simp[go_sem,qz];exact⟨Ak (ho.none (IO n)) (AC _ _ _),AV (λj z e=>(ho j z e).1) AE⟩;refine Ao 0 [(1,X),(3,.bool v)] h n ?_ (λm hm=>?_);rw[A];by_cases k:x.l=8;by_cases c:x.code=1;simp[go_sem,Or,k,c,hm,Mn,dK];simp[go_sem,Or,k,c,beq_eq_false_iff_ne.2 c,hm,Mn,dK];simp[go_sem,Or,k,hm,Mn,dK];refine Ao 0 [(1,X),(3,.bool v),(4,.bool y)] h n ?_ (λm hm=>?_);rw[A];by_cases k:x.l=1;simp[go_sem,Or,k,hm,q4];by_cases o:x.l=5;simp[go_sem,Or,o,hm,q4];simp[go_sem,Or,k,o,hm,q4];refine Ao 0 [(1,X),(3,.bool v),(4,.bool y),(5,.bool L)] h n ?_ (λm hm=>?_);rw[A];by_cases k:x.l=6;simp[go_sem,Or,k,hm,ZM,fO];by_cases o:x.l=7;simp[go_sem,Or,o,hm,ZM,fO];by_cases N:x.l=8;simp[go_sem,Or,N,hm,ZM,fO];simp[go_sem,Or,k,o,N,beq_eq_false_iff_ne.2 N,hm,ZM,fO];refine Ao 0 [(1,X),(3,.bool v),(4,.bool y),(5,.bool L),(6,.bool true)] h n ?_ (λm hm=>?_);simp[go_sem,Or,hm];refine Ao 0 [(1,X),(3,.bool v),(4,.bool y),(5,.bool L),(6,.bool b6)] h n ?_ (λm hm=>?_);rw[A];by_cases k:x.l=4;simp[go_sem,k];refine qO (LV _ _ _) ?_;by_cases c:1<=x.code/\x.code<=3;simp[go_sem,Or,k,hm,Qj,ZL,c];simp[go_sem,Or,k,hm,Qj,ZL,c];by_cases U:x.l=6;simp[go_sem,U];refine qO (LV _ _ _) ?_;by_cases c:1<=x.code/\x.code<=2;simp[go_sem,Or,U,hm,Qj,ZL,c];simp[go_sem,Or,U,hm,Qj,ZL,c];by_cases k3:x.l=8;simp[go_sem,k3];refine qO (LV _ _ _) ?_;by_cases c:1<=x.code/\x.code<=4;simp[go_sem,Or,k3,hm,Qj,ZL,c];simp[go_sem,Or,k3,hm,Qj,ZL,c];simp[go_sem,Or,k,U,k3,hm,Qj,ZL];refine Ao 0 [(1,X),(3,.bool v),(4,.bool y),(5,.bool L),(6,.bool b6),(7,.bool T)] h n ?_ (λm hm=>?_);rw[A];by_cases k:x.l=4;simp[go_sem,Or,k,hm,w,fP];by_cases o:x.l=6;simp[go_sem,Or,o,hm,w,fP];by_cases N:x.l=8;simp[go_sem,Or,N,hm,w,fP];simp[go_sem,Or,k,o,N,beq_eq_false_iff_ne.2 N,hm,w,fP];have out:∀(e:Int)(m:Nat),V=e->Cb n h m (AA e) (Is (AA V) h n):=λe m he=>An ho rfl (by rw[he]);refine Bz 0 [] h (λm=>n<=m/\V=0) ?_ (λm hm=>?_)
 . refine AP ?_;refine Ao 0 [(1,X),(3,.bool v),(4,.bool y),(5,.bool L),(7,.bool T),(70,.bool B)] h n ?_ (λm hm=>?_);rw[A];simp[go_sem];refine qO (LV _ _ _) ?_;by_cases c:1<=x.l/\x.l<=8;simp[go_sem,Or,c,hm,O];simp[go_sem,Or,c,hm,O];refine Av (b:=B) nP ?_;cases B with
   | true=>exact AJ (by simp[go_sem];exact out 3 _ (by rw[p];rfl))
   | false=>
   simp only[qq,if_false]at p ⊢;clear K w ZM V4 q4 G O P;refine Ao 0 [(1,X),(3,.bool v),(79,.bool C)] h n ?_ (λm hm=>?_);rw[A];clear out p;cases T with
   | true =>
    cases L with
    | true =>
     cases y with
     | true=>
      by_cases k6:x.l=6;by_cases r0:x.R=[];simp[go_sem,Or,hm,k6,r0,a];have d:0<x.R.length:=qC.2 r0;simp[go_sem,Or,hm,k6,d,a];by_cases f0:x.W=[];by_cases k7:x.l=7;simp[go_sem,Or,hm,f0,k7,a];by_cases r0:x.R=[];simp[go_sem,Or,hm,k6,f0,k7,r0,a];have d:0<x.R.length:=qC.2 r0;simp[go_sem,Or,hm,k6,f0,k7,d,a];have f1:0<x.W.length:=qC.2 f0;simp[go_sem,Or,hm,k6,f1,a]
     | false=>
      by_cases t0:x.J.toList=[];by_cases k6:x.l=6;by_cases r0:x.R=[];simp[go_sem,Or,hm,t0,k6,r0,a];have d:0<x.R.length:=qC.2 r0;simp[go_sem,Or,hm,t0,k6,d,a];by_cases f0:x.W=[];by_cases k7:x.l=7;simp[go_sem,Or,hm,t0,f0,k7,a];by_cases r0:x.R=[];simp[go_sem,Or,hm,t0,k6,f0,k7,r0,a];have d:0<x.R.length:=qC.2 r0;simp[go_sem,Or,hm,t0,k6,f0,k7,d,a];have f1:0<x.W.length:=qC.2 f0;simp[go_sem,Or,hm,t0,k6,f1,a];simp[go_sem,Or,hm,t0,a]
    | false=>
     by_cases f:x.id=0;cases y with
     | true=>
      by_cases k6:x.l=6;by_cases r0:x.R=[];simp[go_sem,Or,hm,f,k6,r0,a];have d:0<x.R.length:=qC.2 r0;simp[go_sem,Or,hm,f,k6,d,a];by_cases f0:x.W=[];by_cases k7:x.l=7;simp[go_sem,Or,hm,f,f0,k7,a];by_cases r0:x.R=[];simp[go_sem,Or,hm,f,k6,f0,k7,r0,a];have d:0<x.R.length:=qC.2 r0;simp[go_sem,Or,hm,f,k6,f0,k7,d,a];have f1:0<x.W.length:=qC.2 f0;simp[go_sem,Or,hm,f,k6,f1,a]
     | false=>
      by_cases t0:x.J.toList=[];by_cases k6:x.l=6;by_cases r0:x.R=[];simp[go_sem,Or,hm,f,t0,k6,r0,a];have d:0<x.R.length:=qC.2 r0;simp[go_sem,Or,hm,f,t0,k6,d,a];by_cases f0:x.W=[];by_cases k7:x.l=7;simp[go_sem,Or,hm,f,t0,f0,k7,a];by_cases r0:x.R=[];simp[go_sem,Or,hm,f,t0,k6,f0,k7,r0,a];have d:0<x.R.length:=qC.2 r0;simp[go_sem,Or,hm,f,t0,k6,f0,k7,d,a];have f1:0<x.W.length:=qC.2 f0;simp[go_sem,Or,hm,f,t0,k6,f1,a];simp[go_sem,Or,hm,f,t0,a]
     simp[go_sem,Or,hm,f,a]
   | false=>
    by_cases c0:x.code=0;cases L with
    | true =>
     cases y with
     | true=>
      by_cases k6:x.l=6;by_cases r0:x.R=[];simp[go_sem,Or,hm,c0,k6,r0,a];have d:0<x.R.length:=qC.2 r0;simp[go_sem,Or,hm,c0,k6,d,a];by_cases f0:x.W=[];by_cases k7:x.l=7;simp[go_sem,Or,hm,c0,f0,k7,a];by_cases r0:x.R=[];simp[go_sem,Or,hm,c0,k6,f0,k7,r0,a];have d:0<x.R.length:=qC.2 r0;simp[go_sem,Or,hm,c0,k6,f0,k7,d,a];have f1:0<x.W.length:=qC.2 f0;simp[go_sem,Or,hm,c0,k6,f1,a]
     | false=>
      by_cases t0:x.J.toList=[];by_cases k6:x.l=6;by_cases r0:x.R=[];simp[go_sem,Or,hm,c0,t0,k6,r0,a];have d:0<x.R.length:=qC.2 r0;simp[go_sem,Or,hm,c0,t0,k6,d,a];by_cases f0:x.W=[];by_cases k7:x.l=7;simp[go_sem,Or,hm,c0,t0,f0,k7,a];by_cases r0:x.R=[];simp[go_sem,Or,hm,c0,t0,k6,f0,k7,r0,a];have d:0<x.R.length:=qC.2 r0;simp[go_sem,Or,hm,c0,t0,k6,f0,k7,d,a];have f1:0<x.W.length:=qC.2 f0;simp[go_sem,Or,hm,c0,t0,k6,f1,a];simp[go_sem,Or,hm,c0,t0,a]
    | false=>
     by_cases f:x.id=0;cases y with
     | true=>
      by_cases k6:x.l=6;by_cases r0:x.R=[];simp[go_sem,Or,hm,c0,f,k6,r0,a];have d:0<x.R.length:=qC.2 r0;simp[go_sem,Or,hm,c0,f,k6,d,a];by_cases f0:x.W=[];by_cases k7:x.l=7;simp[go_sem,Or,hm,c0,f,f0,k7,a];by_cases r0:x.R=[];simp[go_sem,Or,hm,c0,f,k6,f0,k7,r0,a];have d:0<x.R.length:=qC.2 r0;simp[go_sem,Or,hm,c0,f,k6,f0,k7,d,a];have f1:0<x.W.length:=qC.2 f0;simp[go_sem,Or,hm,c0,f,k6,f1,a]
     | false=>
      by_cases t0:x.J.toList=[];by_cases k6:x.l=6;by_cases r0:x.R=[];simp[go_sem,Or,hm,c0,f,t0,k6,r0,a];have d:0<x.R.length:=qC.2 r0;simp[go_sem,Or,hm,c0,f,t0,k6,d,a];by_cases f0:x.W=[];by_cases k7:x.l=7;simp[go_sem,Or,hm,c0,f,t0,f0,k7,a];by_cases r0:x.R=[];simp[go_sem,Or,hm,c0,f,t0,k6,f0,k7,r0,a];have d:0<x.R.length:=qC.2 r0;simp[go_sem,Or,hm,c0,f,t0,k6,f0,k7,d,a];have f1:0<x.W.length:=qC.2 f0;simp[go_sem,Or,hm,c0,f,t0,k6,f1,a];simp[go_sem,Or,hm,c0,f,t0,a]
     simp[go_sem,Or,hm,c0,f,a]
    simp[go_sem,Or,hm,c0,a]
   refine Av (b:=C) nP ?_;cases C with
   | true=>exact AJ (by simp[go_sem];exact out 15 _ (by rw[p];rfl))
   | false=>
   simp only[qq,if_false]at p ⊢;refine Ao 0 [(1,X),(3,.bool v),(127,.bool s)] h n ?_ (λm hm=>?_);rw[A];simp[go_sem];refine qO (WX x.J (by have:=(ES hx).2.1;omega)) ?_;simp[go_sem,Or,hm,E];refine Av (b:=s) nP ?_;cases s with
   | true=>exact AJ (by simp[go_sem];exact out 12 _ (by rw[p];rfl))
   | false=>
   simp only[qq,if_false]at p ⊢;refine Ao 0 [(1,X),(3,.bool v),(132,.bool t)] h n ?_ (λm hm=>?_);rw[A];by_cases t0:x.J.toList=[];by_cases S:x.l=1;simp[go_sem,Or,S,t0,hm,g,Ox];by_cases o:x.l=5<;>simp[go_sem,Or,S,o,t0,hm,g,Ox];have t1:x.J.toList.isEmpty=false:=by simpa using t0
   by_cases S:x.l=1;simp[go_sem,Or,S,t0,t1,hm,g,Ox];by_cases o:x.l=5<;>simp[go_sem,Or,S,o,t0,t1,hm,g,Ox];refine Av (b:=t) nP ?_;cases t with
   | true=>exact AJ (by simp[go_sem];exact out 11 _ (by rw[p];rfl))
   | false=>
   simp only[qq,if_false]at p ⊢;refine Ao 0 [(1,X),(3,.bool v),(146,.bool u)] h n ?_ (λm hm=>?_);rw[A];by_cases o:x.l=5;by_cases t1:(1024:Int)<x.J.size<;>simp[go_sem,Or,o,t1,hm,r,UE];simp[go_sem,Or,o,hm,r,UE];refine Av (b:=u) nP ?_;cases u with
   | true=>exact AJ (by simp[go_sem];exact out 10 _ (by rw[p];rfl))
   | false=>
   simp only[qq,if_false]at p ⊢;refine Ao 0 [(156,.bool i)] h n ?_ (λm hm=>?_);rw[A];cases v with
   | false=>simp[go_sem,Or,hm,M]
   | true=>
    simp[go_sem];refine qO (c9 x.J) ?_;simp[go_sem,Or,hm,M]
   refine Av (b:=i) nP ?_;cases i with
   | true=>exact AJ (by simp[go_sem];exact out 13 _ (by rw[p];rfl))
   | false=>
   simp only[qq,if_false]at p;refine AJ ?_;simp[go_sem];exact⟨hm,p⟩
 refine AJ ?_;simp[go_sem];exact out _ _ hm.2
def SJ(l:List Fd):Bool:=l.any λp=>decide (p.key=20)||decide (p.key=1)
theorem lh(l:List Al)(hl:l.length<=1048576)(hs:∀x∈l,x.Q.length<=1048576)(i:Nat)(hi:i<l.length):EC 186 [AW l,AA i]:=by
 obtain⟨s,hx⟩:∃s,l[i]=s:=⟨_,rfl⟩
 obtain⟨b1,S3⟩:∃b1:Bool,b1=(decide (s.id<1)||decide (1073741824<s.id)):=⟨_,rfl⟩
 obtain⟨b2,Ig⟩:∃b2:Bool,b2=(decide (0<i)&&decide (s.id=(l.getD (i-1) s).id)):=⟨_,rfl⟩
 obtain⟨b3,Mn⟩:∃b3:Bool,b3=(decide (0<i)&&decide (s.id<(l.getD (i-1) s).id)):=⟨_,rfl⟩
 obtain⟨b4,V4⟩:∃b4:Bool,b4=(decide (s.l≠1)&&decide (s.l≠2)):=⟨_,rfl⟩
 obtain⟨b5,ZM⟩:∃b5:Bool,b5 = !GJ s.name:=⟨_,rfl⟩
 obtain⟨b6,Qj⟩:∃b6:Bool,b6=decide (0<=Cu (l.take i) s.l s.name):=⟨_,rfl⟩
 obtain⟨b7,hb7⟩:∃b7:Bool,b7=SJ s.Q:=⟨_,rfl⟩
 obtain⟨V,hV⟩:∃V:Int,V=if b1 then 18 else if b2 then 7 else if b3 then 6 else if b4 then 3 else if b5 then 13 else if b6 then 7 else if b7 then 4 else C9 (if s.l=1 then 2 else 1) s.Q:=⟨_,rfl⟩
 refine⟨V,?_⟩;intro h n;refine E8 func186 rfl λho=>?_;have hHb:=ho.lt;have hps:=hs s (by rw[<-hx];exact qp hi);have out:∀(e:Int)(m:Nat),V=e->Cb n h m (AA e) (Is (AA V) h n):=λe m he=>An ho rfl (by rw[he]);obtain⟨X,hX⟩:∃X:SV,X=.q [AA s.id,AA s.l,.str s.name,AA s.base,AA s.next,AU s.Q]:=⟨_,rfl⟩
 refine Ao 0 [(0,AW l),(1,AA i)] h n ?_ (λm hm=>?_);simp[go_sem,Or];refine Ao 1 [(0,AW l),(1,AA i),(5,X)] h n ?_ (λm hm=>?_);have hHm:∀j y,h j=some y->j<m:=λj y e=>by have:=hHb j y e;omega
 rw[hX];simp[go_sem,Or,hi,hx,Al.h,AC];exact⟨by omega,Ak (Ac hHm (IO _)) (AC _ _ _),AV hHm (AV hHm AE)⟩;have w1:0<i->IntKind.i64.wrap ((i:Int)-1)=((i-1:Nat):Int):=λg=>by rw[D5]<;>omega
 refine AR 0 (α:=Unit) (λ_=>[(0,AW l),(1,AA i),(5,X)]) (λ_=>h) (λ_ m=>n<=m/\(b1=false/\b2=false/\b3=false/\b4=false/\b5=false)) (AP ?_) (λ_ m hm=>?_)
 . refine Ao 0 [(0,AW l),(1,AA i),(5,X),(14,.bool b1)] h n ?_ (λm hm=>?_);rw[hX];by_cases a1:s.id<1;have e:b1=true:=by rw[S3];simp[a1]
   simp[go_sem,Or,a1,hm,e];have e:b1=decide (1073741824<s.id):=by rw[S3];simp[a1]
   simp[go_sem,Or,a1,hm,e];cases b1 with
   | true=>exact AJ (by simp[go_sem];exact out 18 _ (by rw[hV];rfl))
   | false=>
   refine Av (b:=false) nP ?_;simp only[qq,if_false];refine AR 0 (α:=Unit) (λ_=>[(0,AW l),(1,AA i),(5,X),(23,.bool b2)]) (λ_=>h) (λ_ m=>n<=m) (CJ Vx rfl nQ nQ ?_) (λ_ m hm=>?_);rw[hX];by_cases a1:0<i;have hi1:i-1<l.length:=by omega
   have e:b2=(s.id==l[i-1].id):=by rw[Ig,Bool.eq_iff_iff];simp[a1,List.getD,hi1]
   simp[go_sem,Vx,Or,a1,w1,hm,hi1,Al.h,e];have e:b2=false:=by rw[Ig];simp[a1]
   simp[go_sem,Vx,Or,a1,hm,e];cases b2 with
   | true=>exact AJ (by simp[go_sem];exact out 7 _ (by rw[hV];rfl))
   | false=>
   refine Av (b:=false) nP ?_;simp only[qq,if_false];refine AR 0 (α:=Unit) (λ_=>[(0,AW l),(1,AA i),(5,X),(37,.bool b3)]) (λ_=>h) (λ_ m=>n<=m) (CJ Vx rfl nQ nQ ?_) (λ_ m hm=>?_);rw[hX];by_cases a1:0<i;have hi1:i-1<l.length:=by omega
   have e:b3=(decide (s.id<l[i-1].id)):=by rw[Mn,Bool.eq_iff_iff];simp[a1,List.getD,hi1]
   simp[go_sem,Vx,Or,a1,w1,hm,hi1,Al.h,e];have e:b3=false:=by rw[Mn];simp[a1]
   simp[go_sem,Vx,Or,a1,hm,e];cases b3 with
   | true=>exact AJ (by simp[go_sem];exact out 6 _ (by rw[hV];rfl))
   | false=>
   refine Av (b:=false) nP ?_;simp only[qq,if_false];refine Ao 0 [(0,AW l),(1,AA i),(5,X),(51,.bool b4)] h n ?_ (λm hm=>?_);rw[hX];by_cases a1:s.l=1;have e:b4=false:=by rw[V4];simp[a1]
   simp[go_sem,Or,a1,hm,e];have a2:(s.l !=1)=true:=by simpa using a1
   have e:b4=(s.l !=2):=by rw[V4];by_cases c:s.l=2<;>simp[a1,c]
   simp[go_sem,Or,a2,hm,e];cases b4 with
   | true=>exact AJ (by simp[go_sem];exact out 3 _ (by rw[hV];rfl))
   | false=>
   refine Av (b:=false) nP ?_;simp only[qq,if_false];refine Ao 0 [(0,AW l),(1,AA i),(5,X),(60,.bool b5)] h n ?_ (λm hm=>?_);rw[hX];simp[go_sem];refine(km s.name).use ?_;simp[go_sem,Or,hm,ZM];cases b5 with
   | true=>exact AJ (by simp[go_sem];exact out 13 _ (by rw[hV];rfl))
   | false=>exact AJ (by simp[go_sem,Or,hm])
 obtain⟨hm,z1,z2,z3,z4,z5⟩:=hm;rw[z1,z2,z3,z4,z5]at hV;refine Bz 0 [(0,AW l),(1,AA i),(5,X)] h (λm=>n<=m/\b6=false) ?_ (λm hm=>?_);refine AR 0 (α:=Unit) (λ_=>[(0,AW l),(1,AA i),(5,X),(7,.bool b6)]) (λ_=>h) (λ_ m=>n<=m) (CJ iq rfl nQ nQ ?_) (λ_ m hm=>?_);have hle:i<=l.length:=by omega
 have hc:=kn (l.take i) s.l s.name (by simp;omega);rw[<-Qj]at hc;generalize(if 0<=Cu (l.take i) s.l s.name then Cu (l.take i) s.l s.name else 0)=k1 at hc;simp only[AW,vT]at hc;rw[hX];simp[go_sem,iq,hle,-List.map_take];refine qO hc ?_;simp[go_sem,Or,hm];cases b6 with
 | true=>exact AJ (by simp[go_sem];exact out 7 _ (by rw[hV];rfl))
 | false=>exact AJ (by simp[go_sem,Or,hm])
 obtain⟨hm,z6⟩:=hm;rw[z6]at hV;refine Bz 0 [(5,X)] h (λm=>n<=m/\b7=false) ?_ (λm hm=>?_);refine Ao 0 [(5,X),(78,AU s.Q),(79,AA s.Q.length),(80,AA 0)] h n ?_ (λm hm=>?_);rw[hX];simp[go_sem,Or,hm];refine AP (As 0 (α:=Nat) (λk=>[(5,X),(78,AU s.Q),(79,AA s.Q.length),(80,AA k)]) (λ_=>h) (λk m=>k<=s.Q.length/\n<=m/\SJ (s.Q.take k)=false) (λk=>s.Q.length-k) 0 ⟨qi _,hm,rfl⟩ ?_ AE ?_);simp[go_sem,look,Or];rintro k m ⟨hk,hm,hI⟩;by_cases hlt:k<s.Q.length;have w2:=wS k nN;obtain⟨p,hp⟩:∃p,s.Q[k]=p:=⟨_,rfl⟩
 have hst:SJ (s.Q.take (k+1))=(decide (p.key=20)||decide (p.key=1)):=by
  unfold SJ at hI ⊢;rw[qa hlt,hp,List.any_append,hI];simp
 have bad:∀m:Nat,(decide (p.key=20)||decide (p.key=1))=true->Cb n h m (AA 4) (Is (AA V) h n):=λm g=>out 4 m (by
  have:b7=true:=by unfold SJ at hb7;rw[hb7,List.any_eq_true];exact⟨p,by rw[<-hp];exact qp hlt,g⟩
  rw[hV,this];rfl)
 refine Ao 0 [(5,X),(78,AU s.Q),(79,AA s.Q.length),(80,AA k),(81,.bool true)] h n ?_ (λm hm=>?_);simp[go_sem,Or,hm,hlt];refine Ao 0 [(5,X),(78,AU s.Q),(79,AA s.Q.length),(80,AA k)] h n ?_ (λm hm=>?_);simp[go_sem,Or,hm];refine AR 0 (α:=Unit) (λ_=>[(5,X),(78,AU s.Q),(79,AA s.Q.length),(80,AA k)]) (λ_=>h) (λ_ m=>n<=m/\(decide (p.key=20)||decide (p.key=1))=false) (AP ?_) (λ_ m hm=>?_);refine Ao 1 [(5,X),(78,AU s.Q),(79,AA s.Q.length),(80,AA k),(9,.q [AA p.key,AA p.value])] h n ?_ (λm hm=>?_);have hHm:∀j y,h j=some y->j<m:=λj y e=>by have:=hHb j y e;omega
 simp[go_sem,Or,hlt,hp,Fd.h,AC];exact⟨by omega,Ak (Ac hHm (IO _)) (AC _ _ _),AV hHm (AV hHm AE)⟩;refine AJ ?_;by_cases a1:p.key=20;simp[go_sem,a1];exact bad _ (by simp[a1]);by_cases a2:p.key=1;simp[go_sem,a2];exact bad _ (by simp[a2]);have a3:(p.key==20)=false:=by simpa using a1
 have a4:(p.key==1)=false:=by simpa using a2
 simp[go_sem,a1,a2,a3,a4,Or,hm];refine AJ ?_;simp[go_sem,w2,Or,-Int.natCast_add];exact⟨k+1,by omega,⟨by omega,hm.1,by rw[hst];exact hm.2⟩,rfl⟩;refine AJ ?_;have e:k=s.Q.length:=by omega
 simp[go_sem,hlt,Or,hm];rw[hb7];rw[e,qn]at hI;exact hI;obtain⟨hm,h7⟩:=hm;refine AR 0 (α:=Unit) (λ_=>[(4,AA V)]) (λ_=>h) (λ_ m=>n<=m) (CJ ir rfl nQ nQ ?_) (λ_ m hm=>?_);rw[hX];simp[go_sem,ir];refine(kq s.l).use ?_;have hVV:V=C9 (if s.l=1 then(2:Int)else 1) s.Q:=by rw[hV,h7];rfl
 generalize(if s.l=1 then(2:Int)else 1)=el at hVV;simp[go_sem];refine(fy el s.Q hps).use ?_;simp[go_sem,Or,hm,hVV];refine AJ ?_;simp[go_sem];exact out _ _ rfl
def Kn:List (Int×Int)->Int->Option Int
 | [],_=>none
 | a::l,x=>if a.1=x then some a.2 else Kn l x
def LI:List (Int×Int)->Int->Int->List (Int×Int)
 | [],x,v=>[(x,v)]
 | a::l,x,v=>if a.1=x then(x,v)::l else a::LI l x v
theorem JM(x:Int):∀(l:List (Int×Int))(i:Nat),(Cd (AA x) (IB l) i=some none/\Kn l x=none)\/∃j v,Cd (AA x) (IB l) i=some (some (j,AA v))/\Kn l x=some v
 | [],i=>.inl ⟨rfl,rfl⟩
 | a::l,i=>by
  by_cases e:x=a.1;exact .inr ⟨i,a.2,by simp[IB,Cd,GT,e],by rw[Kn,nS e.symm]⟩;have h:(x==a.1)=false:=by simpa using e
  rw[Kn,nR λg=>e g.symm];rcases JM x l (i+1)with⟨g,k⟩|⟨j,v,g,k⟩
  left;refine⟨?_,k⟩;simp only[IB,qg,Cd,GT,if_true,h];exact g;right;refine⟨j,v,?_,k⟩;simp only[IB,qg,Cd,GT,if_true,h];exact g
theorem L6(x v:Int):∀(l:List (Int×Int))(i:Nat),(Cd (AA x) (IB l) i=some none/\IB l++[(AA x,AA v)]=IB (LI l x v))\/∃j w,Cd (AA x) (IB l) i=some (some (i+j,AA w))/\(IB l).modify j (λ_=>(AA x,AA v))=IB (LI l x v)
 | [],i=>.inl ⟨rfl,rfl⟩
 | a::l,i=>by
  by_cases e:x=a.1;exact .inr ⟨0,a.2,by simp[IB,Cd,GT,e],by rw[LI,nS e.symm];simp[IB]⟩;have h:(x==a.1)=false:=by simpa using e
  rw[LI,nR λg=>e g.symm];rcases L6 x v l (i+1)with⟨g,k⟩|⟨j,w,g,k⟩
  left;refine⟨?_,?_⟩;simp only[IB,qg,Cd,GT,if_true,h];exact g;simp only[IB,qg,qB]at k ⊢;rw[k];right;refine⟨j+1,w,?_,?_⟩;simp only[IB,qg,Cd,GT,if_true,h];rw[show i+(j+1)=i+1+j by omega];exact g;simp only[IB,qg,List.modify_succ_cons]at k ⊢;rw[k]
def J5(l:List Al):Nat->List (Int×Int)
 | 0=>[]
 | i+1=>match l[i]? with
  | some s=>LI (J5 l i) s.id i
  | none=>J5 l i
theorem SQ{x v:Int}:∀{l:List (Int×Int)} {p:Int×Int},p∈LI l x v->p∈l\/p.2=v
 | [],p,h=>by rw[LI,qA]at h;rw[h];exact .inr rfl
 | a::l,p,h=>by
  rw[LI]at h;split at h;rcases qd.1 h with e|e;rw[e];exact .inr rfl;exact .inl (qT _ e);rcases qd.1 h with e|e;rw[e];exact .inl (List.mem_cons_self ..);exact(SQ e).imp_left (qT _)
theorem Pz(l:List Al):∀i,i<=l.length->jT l (J5 l i)
 | 0,_=>λp hp=>by cases hp
 | i+1,h=>λp hp=>by
  rw[J5,qm (by omega:i<l.length)]at hp;rcases SQ hp with g|g;exact Pz l i nN p g;omega
theorem UG{l:List Al}{x v:Int}:∀{a:List (Int×Int)},jT l a->Kn a x=some v->0<=v/\v<l.length
 | [],_,h=>by cases h
 | p::a,H,h=>by
  rw[Kn]at h;split at h;cases h;exact H p (List.mem_cons_self ..);exact UG (λq b=>H q (qT _ b)) h
def Qh(l:List Al):Nat->Int->Bool
 | 0,id=>if id=0 then false else(Kn (J5 l l.length) id).isSome
 | f + 1, id => if id = 0 then false else match Kn (J5 l l.length) id with
  | none=>false
  | some v=>match l[v.toNat]? with
   | some x=>Qh l f x.base
   | none=>false
theorem Wu(l:List Al)(f:Nat):Qh l f 0=false:=by cases f<;>simp[Qh]
theorem Wt{l:List Al}{f:Nat}{id:Int}(h:¬id=0)(g:Kn (J5 l l.length) id=none):Qh l f id=false:=by cases f<;>simp[Qh,h,g]
theorem Wr{l:List Al}{id v:Int}(h:¬id=0)(g:Kn (J5 l l.length) id=some v):Qh l 0 id=true:=by simp[Qh,h,g]
theorem Ws{l:List Al}{f:Nat}{id v:Int}{x:Al}(h:¬id=0)(g:Kn (J5 l l.length) id=some v)(hv:v.toNat<l.length)(a:l[v.toNat]=x):Qh l (f+1) id=Qh l f x.base:=by simp[Qh,h,g,hv,a]
structure YX(E:BU)(yl:Nat)(N:Nat)(J:Nat->Hp->Nat->Prop)(Jx:Hp->Nat->Prop)(D:Nat->Prop):Prop where
 step:∀c (x:Al) h m,J c h m->Fm E prog yl [x.h] h m (λv h' m'=>m<=m'/\(∀o,¬D o->o<m->h' o=h o)/\((v=.bool true/\c+1<=N/\J (c+1) h' m')\/(v=.bool false/\¬(c+1<=N)/\Jx h' m')))
 keep:∀c h m h' m',J c h m->m<=m'->(∀o,D o->h' o=h o)->J c h' m'
 lt:∀c h m,J c h m->∀o,D o->o<m
section
variable{E:BU}{yl N:Nat}{J:Nat->Hp->Nat->Prop}{Jx:Hp->Nat->Prop}{D:Nat->Prop}
theorem gY(Y:YX E yl N J Jx D)(l:List Al)(hl:l.length<=1048576){H:Hp}{n k:Nat}{id:Int}(hk:H k=some (.cells [AA id]))(hkD:¬D k)(hJ:J 0 H n):
 Ab E prog 248 [.fn (.yield yl) [] [],.q [AW l],.ptr k 0] H n (λ_ h' m'=>n<=m'/\(∀o,¬D o->o≠k->o<n->h' o=H o)/\((Qh l N id=false/\∃c,J c h' m')\/(Qh l N id=true/\Jx h' m'))):=by
 refine E8 func248 rfl λho=>?_;have hHb:=ho.lt;have hkn:k<n:=hHb k _ hk;have hDn:=Y.lt _ _ _ hJ;have nk:k≠n:=by omega
 refine A6 0 [(0,.fn (.yield yl) [] []),(1,.q [AW l]),(2,.ptr k 0),(4,.map n)] (h_ H n (some (.map (IB [])))) (λm=>n<m) ?_ (λm hm=>?_);simp[go_sem,Or,IB];refine Bz 0 [(0,.fn (.yield yl) [] []),(1,.q [AW l]),(2,.ptr k 0),(4,.map n)] (h_ H n (some (.map (IB (J5 l l.length))))) (λm=>n<m) ?_ (λm hm=>?_)
 . refine A6 0 [(0,.fn (.yield yl) [] []),(1,.q [AW l]),(2,.ptr k 0),(4,.map n),(10,AW l),(11,AA l.length),(12,AA 0)] (h_ H n (some (.map (IB [])))) (λm=>n<m) ?_ (λm hm=>?_);simp[go_sem,Or,hm];refine AP (As 0 (α:=Nat) (λi=>[(0,.fn (.yield yl) [] []),(1,.q [AW l]),(2,.ptr k 0),(4,.map n),(10,AW l),(11,AA l.length),(12,AA i)]) (λi=>h_ H n (some (.map (IB (J5 l i))))) (λi m=>i<=l.length/\n<m) (λi=>l.length-i) 0 ⟨qi _,hm⟩ ?_ AE ?_);simp[go_sem,look,Or];rintro i m ⟨hi,hm⟩;obtain⟨a,haa⟩:∃a,a=J5 l i:=⟨_,rfl⟩
   have ha:jT l a:=by rw[haa];exact Pz l i hi
   rw[<-haa];by_cases hlt:i<l.length
   . have w1:=wS i nN;obtain⟨x,hx⟩:∃x,l[i]=x:=⟨_,rfl⟩
     refine A6 0 [(0,.fn (.yield yl) [] []),(1,.q [AW l]),(2,.ptr k 0),(4,.map n),(10,AW l),(11,AA l.length),(12,AA i),(13,.bool true)] (h_ H n (some (.map (IB a)))) (λm=>n<m) ?_ (λm hm=>?_);simp[go_sem,Or,hm,hlt];refine A6 0 [(0,.fn (.yield yl) [] []),(1,.q [AW l]),(2,.ptr k 0),(4,.map n),(10,AW l),(11,AA l.length),(12,AA i)] (h_ H n (some (.map (IB a)))) (λm=>n<m) ?_ (λm hm=>?_);simp[go_sem,Or,hm];refine AR 0 (α:=Unit) (λ_=>[(0,.fn (.yield yl) [] []),(1,.q [AW l]),(2,.ptr k 0),(4,.map n),(10,AW l),(11,AA l.length),(12,AA i)]) (λ_=>h_ H n (some (.map (IB (LI a x.id i))))) (λ_ m=>n<m) (AP ?_) (λ_ m hm=>?_)
     . refine A6 1 [(0,.fn (.yield yl) [] []),(1,.q [AW l]),(2,.ptr k 0),(4,.map n),(10,AW l),(11,AA l.length),(12,AA i),(5,AA i),(6,.q [AA x.id,AA x.l,.str x.name,AA x.base,AA x.next,AU x.Q])] (h_ H n (some (.map (IB a)))) (λm=>n<m) ?_ (λm hm=>?_);have hHm:∀j y,h_ H n (some (.map (IB a))) j=some y->j<m:=λj y e=>by
        simp only[h_]at e;split at e;omega;have:=hHb j y e;omega
       simp[go_sem,Or,hlt,hx,Al.h,AC];exact⟨by omega,Ak (Ac hHm (IO _)) (AC _ _ _),AV hHm (AV hHm AE)⟩;refine AJ ?_;rcases L6 x.id i a 0 with⟨hf,hpush⟩|⟨j,v,hf,hset'⟩
       simp[go_sem,AC,hf,BN,hpush,Or,AZ];exact hm;have hset':(IB a).modify j (λ_=>(AA x.id,AA i))=IB (LI a x.id i):=hset';simp[go_sem,AC,hf,BN,hset',Or,AZ];exact hm
     refine AJ ?_;have hst:J5 l (i+1)=LI a x.id i:=by rw[J5,qm hlt,hx,haa]
     simp[go_sem,w1,Or,-Int.natCast_add];exact⟨i+1,by omega,⟨by omega,hm⟩,rfl,by rw[hst];exact AE⟩
   refine AJ ?_;have e:i=l.length:=by omega
   simp[go_sem,Or,hm,haa,e]
 obtain⟨a,haa⟩:∃a,a=J5 l l.length:=⟨_,rfl⟩
 have ha:jT l a:=by rw[haa];exact Pz l _ (IO _)
 rw[<-haa];have hnD:¬D n:=λg=>by have:=hDn n g;omega
 refine AJ ?_;simp[go_sem];refine A9 0 (α:=Nat×Int×Hp) (λ_=>[(0,.fn (.yield yl) [] []),(1,.q [AW l]),(2,.ptr k 0),(4,.map n)]) (λq=>q.2.2) (λq m=>n<m/\J q.1 q.2.2 m/\q.2.2 k=some (.cells [AA q.2.1])/\q.2.2 n=some (.map (IB a))/\(∀o,¬D o->o≠k->o<n->q.2.2 o=H o)/\q.1<=N/\Qh l (N-q.1) q.2.1=Qh l N id) (λq=>N-q.1)
  (0,id,h_ H n (some (.map (IB a)))) ⟨hm,Y.keep _ _ _ _ _ hJ nN λo g=>AB _ _ (by have:=hDn o g;omega),(AB _ _ nk).trans hk,AC _ _ _,λo _ _ g=>AB _ _ nN,qi _,rfl⟩ ?_ AE ?_
 simp[look,Or];obtain⟨id0,hid0⟩:∃id0,id0=id:=⟨_,rfl⟩
 rw[<-hid0];rintro⟨c,id,G⟩ m ⟨hm,hJ,hGk,hGn,Ar,hcN0,hch⟩;dsimp only at hJ hGk hGn Ar hcN0 hch ⊢;by_cases h0:id=0;simp[go_sem,hGk,h0];exact .inl ⟨by omega,Ar,.inl ⟨by rw[<-hch,h0];exact Wu _ _,c,hJ⟩⟩;have h0':(id !=0)=true:=by simpa using h0
 rcases JM id a 0 with⟨hf,hg⟩|⟨j,v,hf,hg⟩
 simp[go_sem,hGk,hGn,h0',hf,BN];exact .inl ⟨by omega,Ar,.inl ⟨by rw[<-hch,Wt h0 (by rw[<-haa];exact hg)],c,hJ⟩⟩;obtain⟨hv1,hv2⟩:0<=v/\v<l.length:=UG ha hg;have hvl:v.toNat<l.length:=by omega
 obtain⟨x,hx⟩:∃x,l[v.toNat]'hvl=x:=⟨_,rfl⟩
 simp[go_sem,hGk,hGn,h0',hf,BN,hv1,hvl,hx,Al.h];have hy:=Y.step c x G m hJ;simp only[Al.h]at hy;refine Fm.mono hy ?_;rintro w G3 m3 ⟨hm3,hfr,⟨rfl,hcN,hj⟩|⟨rfl,hcN,hj⟩⟩;have g3k:G3 k=some (.cells [AA id]):=by rw[hfr k hkD nN];exact hGk
 have g3n:G3 n=some (.map (IB a)):=by rw[hfr n hnD nN];exact hGn
 simp[go_sem,hv1,hvl,hx,Al.h,g3k];refine⟨c+1,by omega,x.base,h_ G3 k (some (.cells [AA x.base])),⟨by omega,Y.keep _ _ _ _ _ hj (IO _) λo g=>AB _ _ (by rintro rfl;exact hkD g),AC _ _ _,by rw[AB _ _ (Ne.symm nk)];exact g3n,λo g1 g2 g3=>?_,hcN,by rw[<-hch,show N-c=(N-(c+1))+1 by omega];exact(Ws h0 (by rw[<-haa];exact hg) hvl hx).symm⟩,AE⟩;rw[AB _ _ g2,hfr o g1 nN];exact Ar o g1 g2 g3;simp[go_sem];exact .inl ⟨by omega,λo g1 g2 g3=>by rw[hfr o g1 nN];exact Ar o g1 g2 g3,.inr ⟨by rw[<-hch,show N-c=0 by omega];exact Wr h0 (by rw[<-haa];exact hg),hj⟩⟩
end
def Hw(K:Ck)(key id:Int):Int:=
 if key=20 then(if id=0\/Kn K.m0 id=some 1 then 0 else 25)
 else if key=1 then(if id=0\/Kn K.m0 id=some 2 then 0 else 25)
 else if key=33 then(if id=0\/id∈K.m1 then 0 else 26)else 0
section
variable{K:Ck}{n0:Nat}
theorem gA(l:K.ok n0)(s:GU)(a id:Int){H:Hp}{n:Nat}(t:∀o y,K.st s o=some y->H o=some y):
 BF prog 150 [.ptr K.p 0,AA a,AA id] H n (Is (AA (Hw K a id)) H n):=by
 obtain⟨V,c⟩:∃V,V=Hw K a id:=⟨_,rfl⟩
 rw[<-c];refine gq func150 rfl λr=>?_;obtain⟨hp,h0,h1,h2,h3,h4⟩:=l.has t;have fin:∀(e:Int)(m:Nat),e=V->Cb n H m (AA e) (Is (AA V) H n):=λe m q=>An r rfl (by rw[q]);simp only[Ck.cells]at hp;have h:a=20\/a=1\/(a≠20/\a≠1):=by omega
 rcases h with e|e|⟨e,i⟩
 by_cases b:id=0;simp[go_sem,e,b];refine(Kc _ _).use ?_;simp[go_sem];refine fin _ _ ?_;rw[c];simp[Hw,e,b];rcases JM id K.m0 0 with⟨f,g⟩|⟨j,k,f,g⟩
 simp[go_sem,e,b,hp,h0,f,BN];refine(Kc _ _).use ?_;simp[go_sem];refine fin _ _ ?_;rw[c];simp[Hw,e,b,g];simp[go_sem,e,b,hp,h0,f,BN];refine(Kc _ _).use ?_;simp[go_sem];refine fin _ _ ?_;rw[c];simp[Hw,e,b,g];by_cases b:id=0;simp[go_sem,e,b];refine(Kc _ _).use ?_;simp[go_sem];refine fin _ _ ?_;rw[c];simp[Hw,e,b];rcases JM id K.m0 0 with⟨f,g⟩|⟨j,k,f,g⟩
 simp[go_sem,e,b,hp,h0,f,BN];refine(Kc _ _).use ?_;simp[go_sem];refine fin _ _ ?_;rw[c];simp[Hw,e,b,g];simp[go_sem,e,b,hp,h0,f,BN];refine(Kc _ _).use ?_;simp[go_sem];refine fin _ _ ?_;rw[c];simp[Hw,e,b,g];by_cases d:a=33;by_cases b:id=0;simp[go_sem,d,b];refine(Kc _ _).use ?_;simp[go_sem];refine fin _ _ ?_;rw[c];simp[Hw,d,b];by_cases hm:id∈K.m1;obtain⟨j,f,_⟩:=Dy 0 hm;simp[go_sem,d,b,hp,h1,f,BN];refine(Kc _ _).use ?_;simp[go_sem];refine fin _ _ ?_;rw[c];simp[Hw,d,b,hm];have f:=Et 0 hm;simp[go_sem,d,b,hp,h1,f,BN];refine(Kc _ _).use ?_;simp[go_sem];refine fin _ _ ?_;rw[c];simp[Hw,d,b,hm];simp[go_sem,e,i,d];refine fin _ _ ?_;rw[c];simp[Hw,e,i,d]
end
section
variable{K:Ck}{n0:Nat}
def MY(K:Ck)(el:Int)(ls:List BC)(i:Nat):Int:=match ls[i]? with
 | none=>0
 | some x=>
  if decide (x.rev∈K.m2)=false then 22 else if RC el x.key=false then 4
  else if(decide (0<i)&&decide (x.key<(ls.getD (i-1) x).key))=true then 6
  else if x.had=false then(if x.before=0 then 0 else 21)else BH [EU x.key x.before,Hw K x.key x.before]
theorem kO(r:K.ok n0)(s:GU)(el:Int)(c:List BC)(hls:c.length<=1048576)(i:Nat)(hi:i<c.length){H:Hp}{n:Nat}(hn:n0<=n)(A:∀o y,K.st s o=some y->H o=some y):
 BF prog 152 [.ptr K.p 0,AA el,AN c,AA i] H n (Is (AA (MY K el c i)) H n):=by
 obtain⟨V,a⟩:∃V,V=MY K el c i:=⟨_,rfl⟩
 rw[<-a];refine E8 func152 rfl λu=>?_;obtain⟨x,C⟩:∃x,c[i]=x:=⟨_,rfl⟩
 rw[MY,qm hi,C]at a;dsimp only at a;obtain⟨g,Mn⟩:∃g,g=(decide (0<i)&&decide (x.key<(c.getD (i-1) x).key)):=⟨_,rfl⟩
 rw[<-Mn]at a;obtain⟨hp,_,_,h2,_,_⟩:=r.has A;simp only[Ck.cells]at hp;have hKp:K.p<n:=by have:=r.lt K.p nO;omega
 have hKs:K.s2<n:=by have:=r.lt K.s2 nO;omega
 have d:=u.lt;have out:∀(e:Int)(m:Nat),V=e->Cb n H m (AA e) (Is (AA V) H n):=λe m F=>An u rfl (by rw[F]);refine Ai 0 [(0,.ptr K.p 0),(1,AA el),(2,AN c),(3,AA i)] H n ?_ (λm hm=>?_);simp[go_sem,Or];subst hm;refine Ao 1 [(0,.ptr K.p 0),(1,AA el),(2,AN c),(3,AA i),(9,.q [AA x.rev,AA x.key,AA x.before,.bool x.had])] H n ?_ (λm hm=>?_);simp[go_sem,Or,hi,C,BC.h,AC];exact⟨Ak (Ac d (IO _)) (AC _ _ _),AV d (AV d AE)⟩;refine Bz 0 [(0,.ptr K.p 0),(9,.q [AA x.rev,AA x.key,AA x.before,.bool x.had])] H (λm=>n<=m/\V=BH [EU x.key x.before,Hw K x.key x.before]) ?_ (λm hm=>?_)
 . refine AP ?_;refine Ao 0 [(0,.ptr K.p 0),(1,AA el),(2,AN c),(3,AA i),(9,.q [AA x.rev,AA x.key,AA x.before,.bool x.had]),(14,.bool (!decide (x.rev∈K.m2)))] H n ?_ (λm hm=>?_)
   . by_cases hr:x.rev∈K.m2
     . obtain⟨j,f,_⟩:=Dy 0 hr;simp[go_sem,Or,hp,h2,f,BN,hm,hr]
       repeat first|refine nq ?_|refine sq ?_|refine aq ?_
       first|exact(nd nQ trivial).1|exact(sd nQ trivial).1
     . have f:=Et 0 hr;simp[go_sem,Or,hp,h2,f,BN,hm,hr]
       repeat first|refine nq ?_|refine sq ?_|refine aq ?_
       first|exact(nd nQ trivial).1|exact(sd nQ trivial).1
   cases hb:decide (x.rev∈K.m2)with
   | false=>exact AJ (by simp[go_sem];exact out 22 _ (by rw[a,hb];rfl))
   | true=>
   refine Av (b:=false) nP ?_;rw[hb]at a;simp only[qq,Bool.true_eq_false,if_false]at a ⊢;obtain⟨l,Ig⟩:∃l,l=RC el x.key:=⟨_,rfl⟩
   rw[<-Ig]at a;refine Ao 0 [(0,.ptr K.p 0),(1,AA el),(2,AN c),(3,AA i),(9,.q [AA x.rev,AA x.key,AA x.before,.bool x.had]),(23,.bool (!l))] H n ?_ (λm hm=>?_);simp[go_sem];refine(gJ _ _).use ?_;simp[go_sem,Or,hm,Ig];cases l with
   | false=>exact AJ (by simp[go_sem];exact out 4 _ (by rw[a];rfl))
   | true=>
   refine Av (b:=false) nP ?_;simp only[qq,Bool.true_eq_false,if_false]at a ⊢;refine Ao 0 [(0,.ptr K.p 0),(9,.q [AA x.rev,AA x.key,AA x.before,.bool x.had]),(29,.bool g)] H n ?_ (λm hm=>?_)
   . by_cases t:0<i
     . have k:i-1<c.length:=by omega
       obtain⟨y,D⟩:∃y,c[i-1]=y:=⟨_,rfl⟩
       have e:g=decide (x.key<y.key):=by rw[Mn];simp[t,List.getD,k,D]
       have w:IntKind.i64.wrap ((i:Int)-1)=((i-1:Nat):Int):=by rw[D5]<;>omega
       simp[go_sem,Or,t,w,k,D,BC.h,hm,e]
       repeat first|refine nq ?_|refine sq ?_|refine aq ?_
       first|exact(nd nQ trivial).1|exact(sd nQ trivial).1
     . have e:g=false:=by rw[Mn];simp[t]
       simp[go_sem,Or,t,hm,e]
       repeat first|refine nq ?_|refine sq ?_|refine aq ?_
       first|exact(nd nQ trivial).1|exact(sd nQ trivial).1
   cases g with
   | true=>exact AJ (by simp[go_sem];exact out 6 _ (by rw[a];rfl))
   | false=>
   refine Av (b:=false) nP ?_;simp only[qq,if_false]at a ⊢;refine AJ ?_;cases hh:x.had with
   | false=>
    rw[hh]at a;simp[go_sem];refine(Kc _ _).use ?_;simp[go_sem];refine out _ _ ?_;rw[a];simp
   | true=>
    rw[hh]at a;simp[go_sem,Or];exact⟨hm,a⟩
 refine AR 0 (α:=Unit) (λ_=>[(8,AA V)]) (λ_=>H) (λ_ m=>n<=m) (CJ trL rfl nQ nQ ?_) (λ_ m hm=>?_);obtain⟨hm,a⟩:=hm;simp[go_sem,trL];refine(dA _ _).use ?_;simp[go_sem];refine qI (gA r s x.key x.before A) ?_;generalize Hw K x.key x.before=e at a;generalize EU x.key x.before=e1 at a;rintro v E n' ⟨rfl,rfl,rfl⟩;simp[go_sem];refine wT (bs:=[.x 1 ([e1,e].map AA) false]) (h2:=E) 1 (AV (λj z e=>by have:=d j z e;omega) AE) ⟨?_,trivial⟩ ?_;exact Ez (es:=[AA e1,AA e]) (Ac d hm) nO (by rw[AC];simp[SV.cells]) (by simp[SV.B,SV.cells]);refine(SY _ nO).use ?_;simp[go_sem,Or,a];omega;refine AJ ?_;simp[go_sem];exact out _ _ rfl
theorem kN(f:K.ok n0)(s:GU)(el c mv:Int)(d:SV)(a:List BC)(b:a.length<=1048576)(i:Nat)(hi:i<a.length){H:Hp}{n:Nat}(g:n0<=n)(j:∀o y,K.st s o=some y->H o=some y):
 BF prog 151 [AA i,.q [.ptr K.p 0],.q [AA el],.q [AA c,AA mv,d,AN a]] H n (Is (AA (MY K el a i)) H n):=by
 refine gq func151 rfl λh=>?_;simp[go_sem];refine qI (kO f s el a b i hi g j) ?_;generalize MY K el a i=e;rintro v H' n' ⟨rfl,rfl,rfl⟩;simp[go_sem];exact An h rfl rfl
theorem gT(_hK:K.ok n0)(s:GU)(N:Nat)(hN:N<=1048576)(g:FuncId)(a b:List SV)(F:Nat->Int)
 (step:∀i H n,i<N->n0<=n->(∀o y,K.st s o=some y->H o=some y)->BF prog g (a++[AA i]++b) H n (Is (AA (F i)) H n))
 {H:Hp} {n:Nat} (hn:n0<=n) (p:∀o y,K.st s o=some y->H o=some y):
 BF prog 143 [AA N,.fn (.func g) a b] H n (Is (AA (CK F N)) H n):=by
 obtain⟨V,h⟩:∃V,V=CK F N:=⟨_,rfl⟩
 rw[<-h];refine gq func143 rfl λl=>?_;simp[go_sem];refine A9 0 (α:=Nat) (λq=>[(1,.fn (.func g) a b),(7,AA N),(8,AA q)]) (λ_=>H) (λq m=>q<=N/\n<=m/\CK F q=0) (λq=>N-q) 0 ?_ ?_ ?_ ?_;exact⟨qi _,IO _,rfl⟩;simp[look,Fz];exact AE;rintro i m ⟨hi,j,hI⟩;by_cases c:i<N;have r:=wS i nN;have k:=step i H m c nN p;simp only[qv,qB,qK]at k;simp[go_sem,c];refine qI k ?_;obtain⟨e,d⟩:∃e,F i=e:=⟨_,rfl⟩
 rw[d];rintro v H' n' ⟨rfl,rfl,rfl⟩;by_cases f:e=0;subst f;simp[go_sem,r,-Int.natCast_add];exact⟨i+1,by omega,⟨by omega,j,by rw[CK,nS hI];exact d⟩,rfl⟩;simp[go_sem,f];exact An l rfl (by rw[h,E4 F c hI (by rw[d];exact f),d]);have:i=N:=by omega
 subst this;simp[go_sem];exact An l rfl (by rw[h,hI])
end
section
variable{K:Ck}{n0:Nat}
def GO(K:Ck)(h:AF):Bool:=decide (h.I≠0) && !decide (h.I∈K.m2)
def I2(h:AF):Bool:=!decide (0<=h.move/\h.move<=1073741824)||(decide (h.move≠0)&&decide (h.I=0))
def Jb(K:Ck)(l:List Dx)(j:Nat):Int:=match l[j]? with
 | none=>0
 | some x=>if decide (x.rev∈K.m2)=false then 22 else if(decide (0<j)&&decide (x.rev<=(l.getD (j-1) x).rev))=true then 6 else if 0<=x.move/\x.move<=1073741824 then 0 else 21
def MZ(K:Ck)(l:List Fd)(j:Nat):Int:=match l[j]? with
 | none=>0
 | some p=>Hw K p.key p.value
def D9(K:Ck)(el:Int)(h:AF):Int:=
 if C9 el h.Q≠0 then C9 el h.Q else if CK (MZ K h.Q) h.Q.length≠0 then CK (MZ K h.Q) h.Q.length
 else if GO K h=true then 22 else if I2 h=true then 21 else if 16<h.Y.length then 9
 else if CK (Jb K h.Y) h.Y.length≠0 then CK (Jb K h.Y) h.Y.length
 else if 64<h.Z.length then 9 else CK (MY K el h.Z) h.Z.length
theorem Zv(A:K.ok n0)(s:GU)(el:Int)(hd:AF)(L:hd.D){H:Hp}{n:Nat}(hn:n0<=n)(U:∀o y,K.st s o=some y->H o=some y):
 BF prog 82 [.ptr K.p 0,AA el,hd.h] H n (Is (AA (D9 K el hd)) H n):=by
 obtain⟨V,d⟩:∃V,V=D9 K el hd:=⟨_,rfl⟩
 rw[<-d];rw[D9]at d;refine E8 func82 rfl λho=>?_;obtain⟨hp,_,_,h2,_,_⟩:=A.has U;simp only[Ck.cells]at hp;have hKp:K.p<n:=by have:=A.lt K.p nO;omega
 have hKs:K.s2<n:=by have:=A.lt K.s2 nO;omega
 have a:=ho.lt;have B:∀(e:Int)(N:Hp)(m:Nat),V=e->(∀j y,H j=some y->N j=some y)->Cb n N m (AA e) (Is (AA V) H n):=λe N m t hh=>Rp (T:=λv=>v=AA V) ho hh (by simp[C_]) (by rw[t]);have out:∀(e:Int)(m:Nat),V=e->Cb n H m (AA e) (Is (AA V) H n):=λe m t=>B e H m t AE;refine Ao 1 [(3,.q [.ptr K.p 0]),(4,.q [AA el]),(5,.q hd.j)] H n ?_ (λm hm=>?_);simp[go_sem,AF.h,AF.j,qw];refine⟨⟨Ak (Ac a nN) (by simp[h_]),Ak (Ac a nN) (by simp[h_]),Ak (Ac a nN) (by simp[h_])⟩,λj y=>?_⟩;have:=a j y;simp only[h_];grind;refine Bz 0 [(3,.q [.ptr K.p 0]),(4,.q [AA el]),(5,.q hd.j)] H (λm=>n<=m/\C9 el hd.Q=0) (AJ ?_) (λm hm=>?_);simp[go_sem,AF.j];refine(fy el hd.Q L.Q).use ?_;by_cases r:C9 el hd.Q=0;simp[go_sem,r,Or,hm];simp[go_sem,r];exact out _ _ (by rw[d,nS r]);obtain⟨hm,r⟩:=hm;rw[nR (by rw[r];simp)]at d;refine Bz 0 [(3,.q [.ptr K.p 0]),(4,.q [AA el]),(5,.q hd.j)] H (λm=>n<=m/\CK (MZ K hd.Q) hd.Q.length=0) ?_ (λm hm=>?_);refine Ao 0 [(3,.q [.ptr K.p 0]),(4,.q [AA el]),(5,.q hd.j),(22,AU hd.Q),(23,AA hd.Q.length),(24,AA 0)] H n ?_ (λm hm=>?_);simp[go_sem,Or,AF.j,hm];refine AP (As 0 (α:=Nat) (λi=>[(3,.q [.ptr K.p 0]),(4,.q [AA el]),(5,.q hd.j),(22,AU hd.Q),(23,AA hd.Q.length),(24,AA i)]) (λ_=>H) (λi m=>i<=hd.Q.length/\n<=m/\CK (MZ K hd.Q) i=0) (λi=>hd.Q.length-i) 0 ⟨qi _,hm,rfl⟩ ?_ AE ?_);simp[go_sem,look,Or];rintro i m ⟨hi,hm,hI⟩;refine AJ ?_;by_cases g:i<hd.Q.length;obtain⟨x,M⟩:∃x,hd.Q[i]=x:=⟨_,rfl⟩
 obtain⟨e,t⟩:∃e,Hw K x.key x.value=e:=⟨_,rfl⟩
 have O:MZ K hd.Q i=e:=by rw[MZ,qm g,M];exact t
 have X:IntKind.i64.wrap ((i:Int)+1)=((i+1:Nat):Int):=by have:=L.Q;rw[D5]<;>omega
 simp[go_sem,g,M,Fd.h,AC];refine qI (gA A s x.key x.value (UI A.clo.lt nN _ (UI A.clo.lt nN _ U))) ?_;rw[t];rintro v H' n' ⟨rfl,rfl,rfl⟩;by_cases r:e=0;subst r;simp[go_sem,X,-Int.natCast_add];refine⟨i+1,by omega,⟨by omega,by omega,by rw[CK,nS hI];exact O⟩,by simp[Or],AV (λj z e=>by have:=a j z e;omega) (AV (λj z e=>by have:=a j z e;omega) AE)⟩;have P:CK (MZ K hd.Q) hd.Q.length=e:=by rw[E4 _ g hI (by rw[O];exact r),O]
 simp[go_sem,r];exact B e _ _ (by rw[d,P,nS r]) (AV (λj z e=>by have:=a j z e;omega) (AV (λj z e=>by have:=a j z e;omega) AE));have e:i=hd.Q.length:=by omega
 subst e;simp[go_sem,Or,hm,hI];obtain⟨hm,a2⟩:=hm;rw[nR (by rw[a2];simp)]at d;refine Ao 1 [(3,.q [.ptr K.p 0]),(4,.q [AA el]),(11,.q [AA hd.I,AA hd.move,Aa hd.Y,AN hd.Z])] H n ?_ (λm hm=>?_);simp[go_sem,Or,AF.j,AC];have l:∀j y,H j=some y->j<m:=λj y e=>by have:=a j y e;omega
 exact⟨by omega,Ak (Ac l (IO _)) (AC _ _ _),AV l (AV l AE)⟩;refine Bz 0 [(3,.q [.ptr K.p 0]),(4,.q [AA el]),(11,.q [AA hd.I,AA hd.move,Aa hd.Y,AN hd.Z])] H (λm=>n<=m/\GO K hd=false/\I2 hd=false/\¬16<hd.Y.length) ?_ (λm hm=>?_)
 . refine AP ?_;obtain⟨b1,S3⟩:∃b,b=GO K hd:=⟨_,rfl⟩
   obtain⟨E,Ig⟩:∃b,b=I2 hd:=⟨_,rfl⟩
   rw[<-S3,<-Ig]at d;rw[<-S3,<-Ig];refine Ao 0 [(3,.q [.ptr K.p 0]),(4,.q [AA el]),(11,.q [AA hd.I,AA hd.move,Aa hd.Y,AN hd.Z]),(40,.bool b1)] H n ?_ (λm hm=>?_)
   . by_cases k:hd.I=0
     . have e:b1=false:=by rw[S3,GO];simp[k]
       simp[go_sem,Or,k,hm,e]
       repeat first|refine nq ?_|refine sq ?_|refine aq ?_
       first|exact(nd nQ trivial).1|exact(sd nQ trivial).1
     . by_cases hr:hd.I∈K.m2
       . have e:b1=false:=by rw[S3,GO];simp[hr]
         obtain⟨j,f,_⟩:=Dy 0 hr;simp[go_sem,Or,k,hp,h2,f,BN,hm,e]
         repeat first|refine nq ?_|refine sq ?_|refine aq ?_
         first|exact(nd nQ trivial).1|exact(sd nQ trivial).1
       . have e:b1=true:=by rw[S3,GO];simp[hr,k]
         have f:=Et 0 hr;simp[go_sem,Or,k,hp,h2,f,BN,hm,e]
         repeat first|refine nq ?_|refine sq ?_|refine aq ?_
         first|exact(nd nQ trivial).1|exact(sd nQ trivial).1
   cases b1 with
   | true=>exact AJ (by simp[go_sem];exact out 22 _ (by rw[d];rfl))
   | false=>
   refine Av (b:=false) nP ?_;simp only[qq,if_false]at d ⊢;refine Ao 0 [(3,.q [.ptr K.p 0]),(4,.q [AA el]),(11,.q [AA hd.I,AA hd.move,Aa hd.Y,AN hd.Z]),(54,.bool E)] H n ?_ (λm hm=>?_);simp[go_sem];refine(LV _ _ _).use ?_;by_cases c:0<=hd.move/\hd.move<=1073741824;by_cases m0:hd.move=0;have e:E=false:=by rw[Ig,I2];simp[m0]
   simp[go_sem,Or,m0,hm,e];by_cases k:hd.I=0;have e:E=true:=by rw[Ig,I2];simp[m0,k]
   simp[go_sem,Or,c,m0,k,hm,e];have e:E=false:=by rw[Ig,I2];simp[c,k]
   simp[go_sem,Or,c,m0,beq_eq_false_iff_ne.2 k,hm,e];have e:E=true:=by rw[Ig,I2,decide_eq_false c];rfl
   simp[go_sem,Or,c,hm,e];cases E with
   | true=>exact AJ (by simp[go_sem];exact out 21 _ (by rw[d];rfl))
   | false=>
   refine Av (b:=false) nP ?_;simp only[qq,if_false]at d ⊢;refine AJ ?_;by_cases c:(16:Int)<hd.Y.length;simp[go_sem,c];exact out 9 _ (by rw[d,nS nN]);simp[go_sem,c,Or,hm];omega
 obtain⟨hm,S3,Ig,R⟩:=hm;rw[S3,Ig,nR R]at d;simp only[qq,if_false]at d;refine Bz 0 [(3,.q [.ptr K.p 0]),(4,.q [AA el]),(11,.q [AA hd.I,AA hd.move,Aa hd.Y,AN hd.Z])] H (λm=>n<=m/\CK (Jb K hd.Y) hd.Y.length=0) ?_ (λm hm=>?_)
 . refine Ao 0 [(3,.q [.ptr K.p 0]),(4,.q [AA el]),(11,.q [AA hd.I,AA hd.move,Aa hd.Y,AN hd.Z]),(75,Aa hd.Y),(76,AA hd.Y.length),(77,AA 0)] H n ?_ (λm hm=>?_);simp[go_sem,Or,hm];refine AP (As 0 (α:=Nat) (λi=>[(3,.q [.ptr K.p 0]),(4,.q [AA el]),(11,.q [AA hd.I,AA hd.move,Aa hd.Y,AN hd.Z]),(75,Aa hd.Y),(76,AA hd.Y.length),(77,AA i)]) (λ_=>H) (λi m=>i<=hd.Y.length/\n<=m/\CK (Jb K hd.Y) i=0) (λi=>hd.Y.length-i) 0 ⟨qi _,hm,rfl⟩ ?_ AE ?_);simp[go_sem,look,Or];rintro i m ⟨hi2,hm,hI⟩;by_cases g:i<hd.Y.length
   . obtain⟨x,M⟩:∃x,hd.Y[i]=x:=⟨_,rfl⟩
     obtain⟨F,Mn⟩:∃b,b=decide (x.rev∈K.m2):=⟨_,rfl⟩
     obtain⟨G,V4⟩:∃b,b=(decide (0<i)&&decide (x.rev<=(hd.Y.getD (i-1) x).rev)):=⟨_,rfl⟩
     have u:Jb K hd.Y i=if F=false then 22 else if G=true then 6 else if 0<=x.move/\x.move<=1073741824 then 0 else 21:=by
      rw[Jb,qm g,M,Mn,V4]
     have C:∀(e:Int)(m:Nat),e≠0->Jb K hd.Y i=e->Cb n H m (AA e) (Is (AA V) H n):=λe m r t=>by
      have P:CK (Jb K hd.Y) hd.Y.length=e:=by rw[E4 _ g hI (by rw[t];exact r),t]
      exact out e m (by rw[d,P,nS r])
     have X:=wS i nN;refine Ao 0 [(3,.q [.ptr K.p 0]),(4,.q [AA el]),(11,.q [AA hd.I,AA hd.move,Aa hd.Y,AN hd.Z]),(75,Aa hd.Y),(76,AA hd.Y.length),(77,AA i),(78,.bool true)] H n ?_ (λm hm=>?_);simp[go_sem,Or,hm,g];refine Ao 0 [(3,.q [.ptr K.p 0]),(4,.q [AA el]),(11,.q [AA hd.I,AA hd.move,Aa hd.Y,AN hd.Z]),(75,Aa hd.Y),(76,AA hd.Y.length),(77,AA i)] H n ?_ (λm hm=>?_);simp[go_sem,Or,hm];refine Bz 0 [(3,.q [.ptr K.p 0]),(4,.q [AA el]),(11,.q [AA hd.I,AA hd.move,Aa hd.Y,AN hd.Z]),(75,Aa hd.Y),(76,AA hd.Y.length),(77,AA i)] H (λm=>n<=m/\Jb K hd.Y i=0) ?_ (λm hm=>?_)
     . refine AP ?_;refine Ao 1 [(3,.q [.ptr K.p 0]),(4,.q [AA el]),(11,.q [AA hd.I,AA hd.move,Aa hd.Y,AN hd.Z]),(75,Aa hd.Y),(76,AA hd.Y.length),(77,AA i),(12,AA i),(13,.q [AA x.rev,AA x.move])] H n ?_ (λm hm=>?_);simp[go_sem,Or,g,M,Dx.h,AC];have l:∀j y,H j=some y->j<m:=λj y e=>by have:=a j y e;omega
       exact⟨by omega,Ak (Ac l (IO _)) (AC _ _ _),AV l (AV l AE)⟩;refine AP ?_;refine Ao 0 [(3,.q [.ptr K.p 0]),(4,.q [AA el]),(11,.q [AA hd.I,AA hd.move,Aa hd.Y,AN hd.Z]),(75,Aa hd.Y),(76,AA hd.Y.length),(77,AA i),(12,AA i),(13,.q [AA x.rev,AA x.move]),(82,.bool (!F))] H n ?_ (λm hm=>?_)
       . by_cases hr:x.rev∈K.m2
         . have e:F=true:=by rw[Mn];simp[hr]
           obtain⟨j,f,_⟩:=Dy 0 hr;simp[go_sem,Or,hp,h2,f,BN,hm,e]
           repeat first|refine nq ?_|refine sq ?_|refine aq ?_
           first|exact(nd nQ trivial).1|exact(sd nQ trivial).1
         . have e:F=false:=by rw[Mn];simp[hr]
           have f:=Et 0 hr;simp[go_sem,Or,hp,h2,f,BN,hm,e]
           repeat first|refine nq ?_|refine sq ?_|refine aq ?_
           first|exact(nd nQ trivial).1|exact(sd nQ trivial).1
       cases F with
       | false=>exact AJ (by simp[go_sem];exact C 22 _ (by decide) (by rw[u];rfl))
       | true=>
       refine Av (b:=false) nP ?_;simp only[qq,Bool.true_eq_false,if_false]at u ⊢;refine Ao 0 [(3,.q [.ptr K.p 0]),(4,.q [AA el]),(11,.q [AA hd.I,AA hd.move,Aa hd.Y,AN hd.Z]),(75,Aa hd.Y),(76,AA hd.Y.length),(77,AA i),(13,.q [AA x.rev,AA x.move]),(91,.bool G)] H n ?_ (λm hm=>?_)
       . by_cases k:0<i
         . have J:i-1<hd.Y.length:=by omega
           obtain⟨y,hy⟩:∃y,hd.Y[i-1]=y:=⟨_,rfl⟩
           have e:G=decide (x.rev<=y.rev):=by rw[V4];simp[k,List.getD,J,hy]
           have w:IntKind.i64.wrap ((i:Int)-1)=((i-1:Nat):Int):=by rw[D5]<;>omega
           simp[go_sem,Or,k,w,J,hy,Dx.h,hm,e]
           repeat first|refine nq ?_|refine sq ?_|refine aq ?_
           first|exact(nd nQ trivial).1|exact(sd nQ trivial).1
         . have e:G=false:=by rw[V4];simp[k]
           simp[go_sem,Or,k,hm,e]
           repeat first|refine nq ?_|refine sq ?_|refine aq ?_
           first|exact(nd nQ trivial).1|exact(sd nQ trivial).1
       cases G with
       | true=>exact AJ (by simp[go_sem];exact C 6 _ (by decide) (by rw[u];rfl))
       | false=>
       refine Av (b:=false) nP ?_;simp only[qq,if_false]at u ⊢;refine AJ ?_;simp[go_sem];refine(LV _ _ _).use ?_;by_cases c:0<=x.move/\x.move<=1073741824;rw[nS c]at u;simp[go_sem,Or,c,hm,u];rw[nR c]at u;simp[go_sem,c];exact C 21 _ (by decide) u
     refine AJ ?_;simp[go_sem,X,Or,-Int.natCast_add];exact⟨i+1,by omega,⟨by omega,hm.1,by rw[CK,nS hI];exact hm.2⟩,rfl⟩
   have:i=hd.Y.length:=by omega
   subst this;refine AJ ?_;simp[go_sem,Or,hm,hI]
 obtain⟨hm,a3⟩:=hm;rw[nR (by rw[a3];simp)]at d;refine Bz 0 [(3,.q [.ptr K.p 0]),(4,.q [AA el]),(11,.q [AA hd.I,AA hd.move,Aa hd.Y,AN hd.Z])] H (λm=>n<=m/\hd.Z.length<=64) (AJ ?_) (λm hm=>?_);by_cases c:(64:Int)<hd.Z.length;simp[go_sem,c];exact out 9 _ (by rw[d,nS nN]);simp[go_sem,c,Or,hm];omega;obtain⟨hm,hll⟩:=hm;rw[nR nN]at d;refine AJ ?_;simp[go_sem];refine qI (gT A s hd.Z.length nN 151 [] [.q [.ptr K.p 0],.q [AA el],.q [AA hd.I,AA hd.move,Aa hd.Y,AN hd.Z]] (MY K el hd.Z) (λi N n2 hi S W=>kN A s el hd.I hd.move (Aa hd.Y) hd.Z nN i hi S W) (H:=H) (n:=m) nN U) ?_;rw[<-d];rintro v H' n' ⟨rfl,rfl,rfl⟩;simp[go_sem];exact out _ _ rfl
end
def SZ(x:AD):Int:=if x.l=1 then(if Cj x.J then DS x.J x.J.size else 0)else 1
def ZS:Nat->List AD->Int
 | 0,_=>0
 | N+1,l=>(l.map λx=>SZ x+if x.l=6 then ZS N x.W else if x.l=7 then(x.R.map λr=>(r.cells.map λc=>ZS N c.W).sum).sum else 0).sum
def cO(N:Nat)(r:AM):Int:=(r.cells.map λc=>ZS N c.W).sum
def V0(N:Nat)(x:AD):Int:=SZ x+if x.l=6 then ZS N x.W else if x.l=7 then(x.R.map (cO N)).sum else 0
def gN(K:Ck):Nat->C8->List AD->Prop
 | 0,_,_=>True
 | N+1,pl,l=>∀x∈l,Ir x=0/\(x.l=3->pl.body=true)/\(x.l=6->pl.note=false)/\(x.l=7->pl.tables<4)/\(x.l=8->1<=x.id/\x.id<=1073741824)/\D9 K x.l x.H=0/\
  (x.l=6->gN K N ⟨false,true,pl.tables⟩ x.W)/\
  (x.l=7->x.R≠[]/\x.R.length<=256/\∀r∈x.R,D9 K 9 r.H=0/\r.cells≠[]/\r.cells.length<=32/\∀c∈r.cells,D9 K 10 c.H=0/\gN K N ⟨false,pl.note,IntKind.i64.wrap (pl.tables+1)⟩ c.W)
def gC(K:Ck)(N:Nat)(pl:C8)(c:AG):Prop:=D9 K 10 c.H=0/\gN K N pl c.W
def gy(K:Ck)(N:Nat)(pl:C8)(r:AM):Prop:=D9 K 9 r.H=0/\r.cells≠[]/\r.cells.length<=32/\∀c∈r.cells,gC K N pl c
def jb(K:Ck)(N:Nat)(pl:C8)(l:List AM):Prop:=l≠[]/\l.length<=256/\∀r∈l,gy K N pl r
def gI(K:Ck)(N:Nat)(pl:C8)(x:AD):Prop:=Ir x=0/\(x.l=3->pl.body=true)/\(x.l=6->pl.note=false)/\(x.l=7->pl.tables<4)/\(x.l=8->1<=x.id/\x.id<=1073741824)/\D9 K x.l x.H=0/\
 (x.l=6->gN K N ⟨false,true,pl.tables⟩ x.W)/\(x.l=7->jb K N ⟨false,pl.note,IntKind.i64.wrap (pl.tables+1)⟩ x.R)
theorem Z4(K:Ck)(N:Nat)(a:C8)(l:List AD):gN K (N+1) a l↔∀x∈l,gI K N a x:=Iff.rfl
def Ci(a ids:List Int):Prop:=(∀i∈ids,1<=i/\i<=1073741824/\i∉a)/\ids.Nodup
theorem E7(a:List Int):Ci a []:=⟨by simp,List.nodup_nil⟩
theorem CD{a x y:List Int}:Ci a (x++y)↔Ci a x/\Ci (a++x) y:=by
 unfold Ci;rw[qr];constructor;rintro⟨h1,h2,b,f⟩;refine⟨⟨λi hi=>h1 i (qx _ hi),h2⟩,λi hi=>?_,b⟩;obtain⟨b1,c,d⟩:=h1 i (qt _ hi);refine⟨b1,c,λg=>?_⟩;rcases qf.1 g with g|g;exact d g;exact f i g i hi rfl;rintro⟨⟨h1,h2⟩,b,f⟩;refine⟨λi hi=>?_,h2,f,λi hi j h e=>?_⟩;rcases qf.1 hi with g|g;exact h1 i g;obtain⟨b1,c,d⟩:=b i g;exact⟨b1,c,λq=>d (qx _ q)⟩;subst e;exact(b i h).2.2 (qt _ hi)
theorem IL{a:List Int}{i:Int}:Ci a [i]↔1<=i/\i<=1073741824/\i∉a:=by simp[Ci]
structure DY(s:GU)(ids:List Int)(u:Int)(s':GU):Prop where
 ids:s'.1=s.1++ids
 rg:IntKind.i64.wrap s.2=s.2->IntKind.i64.wrap s'.2=s'.2
 un:IntKind.i64.wrap s'.2=IntKind.i64.wrap (s.2+u)
theorem DY.nil(s:GU):DY s [] 0 s:=⟨by simp,id,by rw[Int.add_zero]⟩
theorem DY.trans{s s1 s2:GU}{a b:List Int}{u v:Int}(h:DY s a u s1)(g:DY s1 b v s2):DY s (a++b) (u+v) s2:=
 ⟨by rw[g.ids,h.ids,qv],λr=>g.rg (h.rg r),by have h1:=h.un;have h2:=g.un;rw[IntKind.wrap_i64,IntKind.wrap_i64]at h1 h2 ⊢;omega⟩
theorem DY.to{s c:GU}{a b:List Int}{u v:Int}(h:DY s a u c)(e:a=b)(f:u=v):DY s b v c:=by subst e;subst f;exact h
theorem Qe(x:Int):IntKind.i64.wrap (IntKind.i64.wrap x)=IntKind.i64.wrap x:=by simp only[IntKind.wrap_i64];omega
def XC(s:GU)(ids:List Int)(u:Int)(G:Prop)(e:Int)(s':GU):Prop:=(e=0->G/\Ci s.1 ids/\DY s ids u s')/\(e≠0->¬(G/\Ci s.1 ids))
def exU(X:GU->Prop)(B:Prop)(e:Int)(s':GU):Prop:=(e=0->X s')/\(e≠0->B)
section
variable{K:Ck}{n0:Nat}
theorem Ww(a:K.ok n0)(s:GU)(id:Int){H:Hp}{n:Nat}(h:n0<=n)(b:∀o y,K.st s o=some y->H o=some y):
 BF prog 202 [.ptr K.p 0,AA id] H n (CQ K (XC s [id] 0 True) H n):=by
 refine gq func202 rfl λi=>?_;obtain⟨hp,h0,h1,h2,c,d⟩:=a.has b;have no:∀(e:Int)(m:Nat),e≠0->¬Ci s.1 [id]->Cb n H m (AA e) (CQ K (XC s [id] 0 True) H n):=λe m k l=>a.no h i s b e ⟨λg=>absurd g k,λ_ g=>l g.2⟩ AE;simp only[Ck.cells]at hp;by_cases r:1<=id/\id<=1073741824;have f4:Cd (AA id) [] 0=some none:=rfl;by_cases hm:id∈s.1;obtain⟨j,f,_⟩:=Dy 0 hm;simp[go_sem];refine(LV _ _ _).use ?_;simp[go_sem,r,hp,d,c,f,BN];exact no 7 _ (by decide) (λg=>(IL.1 g).2.2 hm);have f:=Et 0 hm;simp[go_sem];refine(LV _ _ _).use ?_;simp[go_sem,r,hp,d,c,f,BN];refine a.ret h i 0 (s.1++[id],s.2) ⟨λ_=>⟨trivial,IL.2 ⟨r.1,r.2,hm⟩,⟨rfl,λq=>q,by rw[Int.add_zero]⟩⟩,λg=>absurd rfl g⟩ ?_;rw[a.up_ids s _ b,Ny];exact AE;simp[go_sem];refine(LV _ _ _).use ?_;simp[go_sem,r];exact no 18 _ (by decide) (λg=>r ⟨(IL.1 g).1,(IL.1 g).2.1⟩)
theorem gU(h:K.ok n0)(N:Nat)(hN:N<=1048576)(g:FuncId)(a b:List SV)(I:Nat->GU->Prop)(B:Prop)
 (step:∀i c H n,i<N->I i c->n0<=n->(∀o y,K.st c o=some y->H o=some y)->BF prog g (a++[AA i]++b) H n (CQ K (exU (I (i+1)) B) H n))
 (s:GU) (h0:I 0 s) {H:Hp} {n:Nat} (p:n0<=n) (t:∀o y,K.st s o=some y->H o=some y):
 BF prog 143 [AA N,.fn (.func g) a b] H n (CQ K (exU (I N) B) H n):=by
 have D:=h.clo;refine gq func143 rfl λr=>?_;simp[go_sem];refine A9 0 (α:=Nat×GU) (λq=>[(1,.fn (.func g) a b),(7,AA N),(8,AA q.1)]) (λq=>Aq K.st q.2 H) (λq m=>q.1<=N/\n<=m/\I q.1 q.2) (λq=>N-q.1) (0,s) ?_ ?_ ?_ ?_;exact⟨qi _,IO _,h0⟩;simp[look,Fz];rw[Cs s H t];exact AE;rintro⟨i,c⟩ m ⟨hi,j,hI⟩;dsimp only at hi hI ⊢;by_cases d:i<N;have u:=wS i nN;have l:=step i c (Aq K.st c H) m d hI nN CZ;simp only[qv,qB,qK]at l;simp[go_sem,d];refine qI l ?_;rintro v H' n' ⟨e,s2,rfl,k,rfl,rfl⟩;rw[D.up2];by_cases f:e=0;subst f;simp[go_sem,u,-Int.natCast_add];exact⟨i+1,by omega,s2.1,s2.2,⟨by omega,j,k.1 rfl⟩,rfl,AE⟩;simp[go_sem,f];exact h.ret p r e s2 ⟨λg=>absurd g f,λg=>k.2 g⟩ AE;have:i=N:=by omega
 subst this;simp[go_sem];exact h.ret p r 0 c ⟨λ_=>hI,λg=>absurd rfl g⟩ AE
def WB(K:Ck)(n0:Nat)(N:Nat)(x:AD):Prop:=∀(s:GU)(pl:C8)(H:Hp)(n:Nat),n0<=n->(∀o y,K.st s o=some y->H o=some y)->
 BF prog 154 [.ptr K.p 0,x.h,pl.h] H n (CQ K (XC s (Iu N x) (V0 N x) (gI K N pl x)) H n)
def PX(K:Ck)(n0:Nat)(N:Nat)(l:List AD):Prop:=∀(s:GU)(pl:C8)(H:Hp)(n:Nat),n0<=n->(∀o y,K.st s o=some y->H o=some y)->
 BF prog 84 [.ptr K.p 0,AI l,pl.h] H n (CQ K (XC s (Kq N l) (ZS N l) (gN K N pl l)) H n)
theorem gV(c:K.ok n0)(N:Nat)(l:List AD)(i:Nat)(hi:i<l.length)(h:WB K n0 N l[i])(s:GU)(a:C8){H:Hp}{n:Nat}(g:n0<=n)(k:∀o y,K.st s o=some y->H o=some y):
 BF prog 153 [AA i,.q [.ptr K.p 0],.q [AI l],.q [.bool a.body,.bool a.note,AA a.tables]] H n (CQ K (XC s (Iu N l[i]) (V0 N l[i]) (gI K N a l[i])) H n):=by
 refine E8 func153 rfl λj=>?_;obtain⟨x,b⟩:∃x,l[i]=x:=⟨_,rfl⟩
 rw[b]at h ⊢;have hgx:(l.map AD.h)[i]? = some x.h:=by simp[hi,b]
 have D:=c.clo;refine Ao 0 [(0,AA i),(1,.q [.ptr K.p 0]),(2,.q [AI l]),(3,.q [.bool a.body,.bool a.note,AA a.tables])] H n ?_ (λm hm=>?_);simp[go_sem,Or];refine AR 0 (α:=Int×GU) (λq=>[(5,AA q.1)]) (λq=>Aq K.st q.2 H) (λq m=>n<=m/\XC s (Iu N x) (V0 N x) (gI K N a x) q.1 q.2) (CJ trP rfl nQ nQ ?_) (λq m hm=>?_);have d:=h s a H m nN k;simp only[qz,C8.h]at d;simp[go_sem,trP,hi,b,qz];refine qI d ?_;rintro v H' n' ⟨e,s2,rfl,f,rfl,rfl⟩;simp[go_sem];exact⟨e,s2.1,s2.2,⟨by omega,f⟩,Or,AE⟩;refine AJ ?_;simp[go_sem];exact c.ret g j q.1 q.2 hm.2 AE
theorem lc(f:K.ok n0)(N:Nat)(l:List AD)(B:l.length<=1048576)(h:∀x∈l,WB K n0 N x):PX K n0 (N+1) l:=λs b H n C D=>by
 refine E8 func84 rfl λu=>?_;have a:=u.lt;refine Ao 1 [(3,.q [.ptr K.p 0]),(4,.q [AI l]),(5,.q [.bool b.body,.bool b.note,AA b.tables])] H n ?_ (λm hm=>?_);simp[go_sem,C8.h,qw];refine⟨⟨Ak (Ac a nN) (by simp[h_]),Ak (Ac a nN) (by simp[h_]),Ak (Ac a nN) (by simp[h_])⟩,λj y=>?_⟩;have:=a j y;simp only[h_];grind;have hd:=gU f l.length B 153 [] [.q [.ptr K.p 0],.q [AI l],.q [.bool b.body,.bool b.note,AA b.tables]]
  (λi r=>DY s ((l.take i).flatMap (Iu N)) ((l.take i).map (V0 N)).sum r/\Ci s.1 ((l.take i).flatMap (Iu N))/\∀x∈l.take i,gI K N b x) (¬(gN K (N+1) b l/\Ci s.1 (Kq (N+1) l))) (λi r H2 n2 hi hI g k=>by
  refine(gV f N l i hi (h _ (qp hi)) r b g k).mono ?_;rintro v h' n' ⟨e,s2,rfl,d,rfl,rfl⟩;obtain⟨o,E,i3⟩:=hI;have z:l.take (i+1)=l.take i++[l[i]]:=qa hi;refine⟨e,s2,rfl,⟨λc=>?_,λc hg=>d.2 c ⟨(Z4 ..).1 hg.1 _ (qp hi),?_⟩⟩,rfl,rfl⟩;obtain⟨h1,h2,A⟩:=d.1 c;rw[o.ids]at h2;refine⟨(o.trans A).to (Eb _ _ _ hi).symm (by rw[z,qc,List.sum_append];simp),by rw[Eb _ _ _ hi];exact CD.2 ⟨E,h2⟩,λx w=>?_⟩;rw[z]at w;exact NM i3 h1 x w;have t:=hg.2;rw[VX,<-vy (i+1) l,qS,Eb _ _ _ hi,qv]at t;rw[o.ids];exact(CD.1 (CD.1 t).2).1) s ⟨DY.nil s,E7 _,by simp⟩ (H:=H) (n:=m) nN D
 refine AJ ?_;simp[go_sem];refine qI hd ?_;rintro v H' n' ⟨e,s2,rfl,d,rfl,rfl⟩;simp[go_sem];refine f.ret C u e s2 ⟨λc=>?_,d.2⟩ AE;have:=d.1 c;rw[qn]at this;exact⟨this.2.2,this.2.1,this.1⟩
end
structure dj(pl:C8)(x:AD):Prop where
 g3:x.l=3->pl.body=true
 g6:x.l=6->pl.note=false
 g7:x.l=7->pl.tables<4
 g8:x.l=8->1<=x.id/\x.id<=1073741824
theorem DY.one{s:GU}{c u:Int}(a:IntKind.i64.wrap c=IntKind.i64.wrap (s.2+u))(hr:IntKind.i64.wrap c=c):DY s [] u (s.1,c):=⟨by simp,λ_=>hr,a⟩
section
variable{K:Ck}{n0:Nat}
def bJ(K:Ck)(n0:Nat)(N:Nat)(l:List AM):Prop:=∀(s:GU)(pl:C8)(H:Hp)(n:Nat),n0<=n->(∀o y,K.st s o=some y->H o=some y)->
 BF prog 203 [.ptr K.p 0,Ap l,pl.h] H n (CQ K (XC s (l.flatMap (Ks N)) (l.map (cO N)).sum (jb K N pl l)) H n)
theorem gW(t:K.ok n0)(N:Nat)(x:AD)(hx:x.D)(hfl:PX K n0 N x.W)(hrw:bJ K n0 N x.R):WB K n0 N x:=λs i H n hn hs=>by
 refine E8 func154 rfl λT=>?_;have D:=t.clo;have hKp:K.p<n:=by have:=t.lt K.p nO;omega
 have hU:∀f,HQ (Aq K.st f H) n:=λf=>D.old f hn T;have V:∀f j y,Aq K.st f H j=some y->j<n:=λf j y e=>(hU f j y e).1;have hps:∀f,Aq K.st f H K.p=some (.cells [.map K.s0,.map K.s1,.map K.s2,.map K.s3,.map K.s4,AA f.2]):=λf=>(t.has (s:=f) CZ).p;have hcnt:∀(q:GU) b,h_ (Aq K.st q H) K.p (some (.cells [.map K.s0,.map K.s1,.map K.s2,.map K.s3,.map K.s4,AA b]))=Aq K.st (q.1,b) H:=λq b=>by rw[<-D.up2 q (q.1,b) H,t.up_cnt q b CZ];rfl
 obtain⟨c,hc⟩:∃c,c=IntKind.i64.wrap (s.2+1):=⟨_,rfl⟩
 have A:DY s [] 1 (s.1,c):=DY.one (by rw[hc,Qe]) (by rw[hc,Qe]);have no:∀(e:Int)(f:GU)(m:Nat),e≠0->¬(gI K N i x/\Ci s.1 (Iu N x))->Cb n (Aq K.st f H) m (AA e) (CQ K (XC s (Iu N x) (V0 N x) (gI K N i x)) H n):=λe f m w hb=>t.ret hn T e f ⟨λg=>absurd g w,λ_=>hb⟩ AE;have G:∀(e:Int)(f:GU)(m:Nat),e≠0->¬dj i x->Cb n (Aq K.st f H) m (AA e) (CQ K (XC s (Iu N x) (V0 N x) (gI K N i x)) H n):=λe f m w hb=>no e f m w λg=>hb ⟨g.1.2.1,g.1.2.2.1,g.1.2.2.2.1,g.1.2.2.2.2.1⟩;have noI:∀(e:Int)(f:GU)(m:Nat),e≠0->(x.l=6\/x.l=7)->¬Ci s.1 [x.id]->Cb n (Aq K.st f H) m (AA e) (CQ K (XC s (Iu N x) (V0 N x) (gI K N i x)) H n):=λe f m w hk hb=>no e f m w λg=>hb (by
  have h2:=g.2;unfold Iu at h2;rcases hk with k|k;rw[nS k]at h2;exact(CD (x:=[x.id])).1 h2 |>.1;rw[nR nN,nS k]at h2;exact(CD (x:=[x.id])).1 h2 |>.1)
 obtain⟨X,E⟩:∃X:SV,X=.q [AA x.l,AA x.code,AA x.id,.str x.J,AU x.H.Q,AA x.H.I,AA x.H.move,Aa x.H.Y,AN x.H.Z,AI x.W,Ap x.R]:=⟨_,rfl⟩
 obtain⟨Y,S⟩:∃Y:SV,Y=.q [.bool i.body,.bool i.note,AA i.tables]:=⟨_,rfl⟩
 refine Ao 1 [(0,.ptr K.p 0),(4,X),(5,Y)] (Aq K.st s H) n ?_ (λm hm=>?_);rw[Cs s H hs,E,S];have O:=T.lt;simp[go_sem,Or,C8.h,qz];refine⟨by omega,⟨Ak (Ac O nN) (by simp[h_]),Ak (Ac O nN) (by simp[h_])⟩,λj y=>?_⟩;have:=O j y;simp only[h_];grind;refine Bz 0 [(0,.ptr K.p 0),(4,X),(5,Y)] (Aq K.st s H) (λm=>n<=m/\Ir x=0) (AJ ?_) (λm hm=>?_);rw[E];simp[go_sem];refine qO (by simpa[qz]using ki x hx) ?_;obtain⟨e,w⟩:∃e,Ir x=e:=⟨_,rfl⟩
 rw[w];by_cases a:e=0;simp[go_sem,a,Or,hm];simp[go_sem,a];exact no e s _ a λg=>a (by rw[<-w];exact g.1.1);obtain⟨hm,o⟩:=hm;refine Ao 0 [(0,.ptr K.p 0),(4,X),(5,Y)] (Aq K.st (s.1,c) H) n ?_ (λm hm=>?_);simp[go_sem,hps,Or,hm];rw[<-hc,Cs s H hs,t.up_cnt s _ hs];exact AE;refine AR 0 (α:=GU) (λ_=>[(0,.ptr K.p 0),(4,X),(5,Y)]) (λq=>Aq K.st q H) (λq m=>n<=m/\DY s (D4 x) (SZ x) q/\Ci s.1 (D4 x)/\dj i x) ?_ (λq m hm=>?_)
 . refine Ao 0 [(0,.ptr K.p 0),(4,X),(5,Y),(27,AA x.l)] (Aq K.st (s.1,c) H) n ?_ (λm hm=>?_);rw[E];simp[go_sem,Or,hm];refine AP (AJ ?_);by_cases k1:x.l=1;have L:D4 x=[]:=by simp[D4,k1]
   have og:dj i x:=⟨λg=>by omega,λg=>by omega,λg=>by omega,λg=>by omega⟩
   obtain⟨jY,hcn⟩:∃jY:Int,jY=if Cj x.J=true then((DS x.J x.J.size:Nat):Int)else 0:=⟨_,rfl⟩
   have F:SZ x=jY:=by rw[SZ,nS k1,hcn]
   rw[L,E,F];simp[go_sem,k1];refine(kR x.J (by have:=(ES hx).2.1;omega)).use ?_;simp[go_sem,hps,Or];rw[hcnt];refine⟨s.1,_,⟨hm,?_,E7 _,og⟩,AE⟩;exact DY.one (by rw[hc,<-hcn];simp only[IntKind.wrap_i64];omega) (Qe _)
   . by_cases k3:x.l=3;have L:D4 x=[]:=by simp[D4,k3]
     have F:SZ x=1:=by rw[SZ,nR nN]
     rw[L,E,S,F];cases hb:i.body with
     | true=>
      simp[go_sem,k3,Or];exact⟨s.1,_,⟨hm,A,E7 _,⟨λ_=>hb,λg=>by omega,λg=>by omega,λg=>by omega⟩⟩,AE⟩
     | false=>
      simp[go_sem,k3];exact G 19 _ _ (by decide) (λg=>by have:=g.g3 k3;rw[hb]at this;cases this)
     . by_cases k6:x.l=6
       . have L:D4 x=[x.id]:=by simp[D4,k6]
         have F:SZ x=1:=by rw[SZ,nR nN]
         rw[L,E,S,F];simp[go_sem,k6];refine(Kc _ _).use ?_;simp[go_sem];refine wT (bs:=[.x 1 ([if i.note then(19:Int)else 0].map AA) false]) (h2:=Aq K.st (s.1,c) H) 1 (AV (λj z e=>by have:=V _ j z e;omega) AE) ⟨?_,trivial⟩ ?_;exact Ez (es:=[AA (if i.note then(19:Int)else 0)]) (Ac (V _) hm) nO (by rw[AC];simp[SV.cells]) (by simp[SV.B,SV.cells]);refine(SY _ nO).use ?_;cases hb:i.note with
         | true=>simp[go_sem,BH];exact G 19 _ _ (by decide) (λg=>by have:=g.g6 k6;rw[hb]at this;cases this)
         | false=>
         simp[go_sem,BH];refine qI (Ww t (s.1,c) x.id nN CZ) ?_;rintro v H' n' ⟨e,s2,rfl,u,rfl,rfl⟩;rw[D.up2];by_cases a:e=0;obtain⟨_,h2,M⟩:=u.1 a;simp[go_sem,a,Or];exact⟨s2.1,s2.2,⟨by omega,(A.trans M).to rfl rfl,h2,⟨λg=>by omega,λ_=>hb,λg=>by omega,λg=>by omega⟩⟩,AE⟩;simp[go_sem,a];exact noI e _ _ a (.inl k6) (λg=>u.2 a ⟨trivial,g⟩)
       by_cases k7:x.l=7;have L:D4 x=[x.id]:=by simp[D4,k7]
       have F:SZ x=1:=by rw[SZ,nR nN]
       rw[L,E,S,F];by_cases tb:4<=i.tables;simp[go_sem,k7,tb];exact G 17 _ _ (by decide) (λg=>by have:=g.g7 k7;omega);simp[go_sem,k7,tb];refine qI (Ww t (s.1,c) x.id nN CZ) ?_;rintro v H' n' ⟨e,s2,rfl,u,rfl,rfl⟩;rw[D.up2];by_cases a:e=0;obtain⟨_,h2,M⟩:=u.1 a;simp[go_sem,a,Or];exact⟨s2.1,s2.2,⟨by omega,(A.trans M).to rfl rfl,h2,⟨λg=>by omega,λg=>by omega,λ_=>by omega,λg=>by omega⟩⟩,AE⟩;simp[go_sem,a];exact noI e _ _ a (.inr k7) (λg=>u.2 a ⟨trivial,g⟩);have L:D4 x=[]:=by simp[D4,k6,k7]
       have F:SZ x=1:=by rw[SZ,nR nN]
       rw[L,E,S,F];by_cases k8:x.l=8;simp[go_sem,k8];refine(LV _ _ _).use ?_;by_cases c8:1<=x.id/\x.id<=1073741824;simp[go_sem,c8,Or];exact⟨s.1,_,⟨hm,A,E7 _,⟨λg=>by omega,λg=>by omega,λg=>by omega,λ_=>c8⟩⟩,AE⟩;simp[go_sem,c8];exact G 18 _ _ (by decide) (λg=>c8 (g.g8 k8));simp[go_sem,k1,k3,k6,k7,k8,Or];exact⟨s.1,_,⟨hm,A,E7 _,⟨λg=>by omega,λg=>by omega,λg=>by omega,λg=>by omega⟩⟩,AE⟩
 obtain⟨hm,r,P,d⟩:=hm;refine Bz 0 [(0,.ptr K.p 0),(4,X),(5,Y)] (Aq K.st q H) (λm=>n<=m/\D9 K x.l x.H=0) (AJ ?_) (λm hm=>?_);rw[E];simp[go_sem];refine qI (by simpa[AF.h,AF.j]using Zv t q x.l x.H (ES hx).1 (n:=m) nN CZ) ?_;obtain⟨e,w⟩:∃e,D9 K x.l x.H=e:=⟨_,rfl⟩
 rw[w];rintro v H' n' ⟨rfl,rfl,rfl⟩;by_cases a:e=0;simp[go_sem,a,Or,hm];simp[go_sem,a];exact no e _ _ a λg=>a (by rw[<-w];exact g.1.2.2.2.2.2.1);obtain⟨hm,hh⟩:=hm;refine Bz 0 [] (Aq K.st q H) (λm=>x.l≠6/\x.l≠7) (AJ ?_) (λm hk=>?_);rw[E,S];by_cases k6:x.l=6;simp[go_sem,k6];refine qI (by simpa[C8.h]using hfl q ⟨false,true,i.tables⟩ (Aq K.st q H) m nN CZ) ?_;rintro v H' n' ⟨e,s2,rfl,u,rfl,rfl⟩;rw[D.up2];simp[go_sem];have C:Iu N x=D4 x++Kq N x.W:=by simp[D4,Iu,k6]
 have U:V0 N x=SZ x+ZS N x.W:=by simp[V0,k6]
 refine t.ret hn T e s2 ⟨λa=>?_,λa g=>u.2 a ⟨g.1.2.2.2.2.2.2.1 k6,?_⟩⟩ AE;obtain⟨h1,h2,M⟩:=u.1 a;rw[r.ids]at h2;exact⟨⟨o,d.g3,d.g6,d.g7,d.g8,hh,λ_=>h1,λh=>absurd h nN⟩,by rw[C];exact CD.2 ⟨P,h2⟩,(r.trans M).to C.symm U.symm⟩;have h2:=g.2;rw[C]at h2;rw[r.ids];exact(CD.1 h2).2;by_cases k7:x.l=7;simp[go_sem,k7];refine qI (by simpa[C8.h]using hrw q ⟨false,i.note,IntKind.i64.wrap (i.tables+1)⟩ (Aq K.st q H) m nN CZ) ?_;rintro v H' n' ⟨e,s2,rfl,u,rfl,rfl⟩;rw[D.up2];simp[go_sem];have C:Iu N x=D4 x++x.R.flatMap (Ks N):=by simp[D4,Iu,k7]
 have U:V0 N x=SZ x+(x.R.map (cO N)).sum:=by simp[V0,k7]
 refine t.ret hn T e s2 ⟨λa=>?_,λa g=>u.2 a ⟨g.1.2.2.2.2.2.2.2 k7,?_⟩⟩ AE;obtain⟨h1,h2,M⟩:=u.1 a;rw[r.ids]at h2;exact⟨⟨o,d.g3,d.g6,d.g7,d.g8,hh,λh=>absurd h nN,λ_=>h1⟩,by rw[C];exact CD.2 ⟨P,h2⟩,(r.trans M).to C.symm U.symm⟩;have h2:=g.2;rw[C]at h2;rw[r.ids];exact(CD.1 h2).2;simp[go_sem,k6,k7];refine AJ ?_;simp[go_sem];have C:Iu N x=D4 x:=by simp[D4,Iu,hk.1,hk.2]
 have U:V0 N x=SZ x:=by simp[V0,hk.1,hk.2]
 exact t.ret hn T 0 q ⟨λ_=>⟨⟨o,d.g3,d.g6,d.g7,d.g8,hh,λh=>absurd h hk.1,λh=>absurd h hk.2⟩,by rw[C];exact P,r.to C.symm U.symm⟩,λg=>absurd rfl g⟩ AE
end
section
variable{K:Ck}{n0:Nat}
def jo(N:Nat)(c:AG):Int:=ZS N c.W
theorem Pv{a b c:Int}:BH [a,b,c]=0↔a=0/\b=0/\c=0:=by
 simp only[BH];by_cases d:a=0<;>by_cases hb:b=0<;>by_cases e:c=0<;>simp[d,hb,e]
theorem MF{α:Type}{f:α->List Int}{l:List α}{a:List Int}{i:Nat}(hi:i<l.length)(h:Ci a (l.flatMap f)):Ci (a++(l.take i).flatMap f) (f l[i]):=by
 rw[<-vy (i+1) l,qS,Eb _ _ _ hi,qv]at h;exact(CD.1 (CD.1 h).2).1
theorem SN{α:Type}(f:α->Int)(l:List α){i:Nat}(hi:i<l.length):((l.take (i+1)).map f).sum=((l.take i).map f).sum+f l[i]:=by
 rw[qa hi,qc,List.sum_append];simp
theorem gX(hK:K.ok n0)(N:Nat)(l:List AM)(hl:l.length<=1048576)(hr:∀r∈l,r.H.D/\r.cells.length<=1048576/\∀c∈r.cells,c.H.D/\PX K n0 N c.W):bJ K n0 N l:=λs pl H n hn hs=>by
 refine E8 func203 rfl λho=>?_;have D:=hK.clo;have hU:∀s',HQ (Aq K.st s' H) n:=λs'=>D.old s' hn ho;have hUb:∀s' j y,Aq K.st s' H j=some y->j<n:=λs' j y e=>(hU s' j y e).1;obtain⟨T,hT⟩:∃T,T=XC s (l.flatMap (Ks N)) (l.map (cO N)).sum (jb K N pl l):=⟨_,rfl⟩
 rw[<-hT];have no:∀(e:Int)(s':GU)(m:Nat),e≠0->¬(jb K N pl l/\Ci s.1 (l.flatMap (Ks N)))->Cb n (Aq K.st s' H) m (AA e) (CQ K T H n):=λe s' m he hb=>hK.ret hn ho e s' (by rw[hT];exact⟨λg=>absurd g he,λ_=>hb⟩) AE;refine Ao 1 [(0,.ptr K.p 0),(1,Ap l),(5,.q [.bool pl.body,.bool pl.note,AA pl.tables])] (Aq K.st s H) n ?_ (λm hm=>?_);rw[Cs s H hs];have hHb:=ho.lt;simp[go_sem,Or,C8.h];exact⟨Ak (Ac hHb nN) (by simp[h_]),AV hHb AE⟩;refine Bz 0 [(0,.ptr K.p 0),(1,Ap l),(5,.q [.bool pl.body,.bool pl.note,AA pl.tables])] (Aq K.st s H) (λm=>n<=m/\l≠[]) (AJ ?_) (λm hm=>?_);by_cases c:l=[];simp[go_sem,c];exact no 11 _ _ (by decide) (λg=>g.1.1 c);simp[go_sem,c,Or,hm];obtain⟨hm,hne⟩:=hm;refine Bz 0 [(0,.ptr K.p 0),(1,Ap l),(5,.q [.bool pl.body,.bool pl.note,AA pl.tables])] (Aq K.st s H) (λm=>n<=m/\l.length<=256) (AJ ?_) (λm hm=>?_);by_cases c:(256:Int)<l.length;simp[go_sem,c];exact no 9 _ _ (by decide) (λg=>by have:=g.1.2.1;omega);simp[go_sem,c,Or,hm];omega;obtain⟨hm,hle⟩:=hm;refine AR 0 (α:=GU) (λ_=>[]) (λq=>Aq K.st q H) (λq m=>n<=m/\DY s (l.flatMap (Ks N)) (l.map (cO N)).sum q/\Ci s.1 (l.flatMap (Ks N))/\∀r∈l,gy K N pl r) ?_ (λq m hm=>?_)
 . refine Ao 0 [(0,.ptr K.p 0),(5,.q [.bool pl.body,.bool pl.note,AA pl.tables]),(21,Ap l),(22,AA l.length),(23,AA 0)] (Aq K.st s H) n ?_ (λm hm=>?_);simp[go_sem,Or,hm];refine AP (As 0 (α:=Nat×GU) (λq=>[(0,.ptr K.p 0),(5,.q [.bool pl.body,.bool pl.note,AA pl.tables]),(21,Ap l),(22,AA l.length),(23,AA q.1)]) (λq=>Aq K.st q.2 H) (λq m=>q.1<=l.length/\n<=m/\DY s ((l.take q.1).flatMap (Ks N)) ((l.take q.1).map (cO N)).sum q.2/\Ci s.1 ((l.take q.1).flatMap (Ks N))/\∀r∈l.take q.1,gy K N pl r) (λq=>l.length-q.1) (0,s) ⟨qi _,hm,DY.nil s,E7 _,by simp⟩ ?_ AE ?_);simp[go_sem,look,Or];rintro⟨i,s1⟩ m ⟨hi,hm,hmo,hfr,hok⟩;dsimp only at hi hmo hfr hok ⊢;by_cases hlt:i<l.length
   . obtain⟨x,hx⟩:∃x,l[i]=x:=⟨_,rfl⟩
     have hxm:x∈l:=by rw[<-hx];exact qp hlt
     obtain⟨x1,x2,x3⟩:=hr x hxm;have hgx:(l.map AM.h)[i]? = some x.h:=by simp[hlt,hx]
     have w1:=wS i nN;have tk:=Eb (Ks N) l i hlt;have sk:=SN (cO N) l hlt;rw[hx]at tk sk;have noR:∀(e:Int)(s':GU)(m:Nat),e≠0->¬(gy K N pl x/\Ci s1.1 (Ks N x))->Cb n (Aq K.st s' H) m (AA e) (CQ K T H n):=λe s' m he hb=>no e s' m he λg=>hb ⟨g.1.2.2 x hxm,by
      have:=MF hlt g.2;rw[hx]at this;rw[hmo.ids];exact this⟩
     have tl:l.take (i+1)=l.take i++[x]:=by rw[qa hlt,hx]
     refine Ao 0 [(0,.ptr K.p 0),(5,.q [.bool pl.body,.bool pl.note,AA pl.tables]),(21,Ap l),(22,AA l.length),(23,AA i),(24,.bool true)] (Aq K.st s1 H) n ?_ (λm hm=>?_);simp[go_sem,Or,hm,hlt];refine Ao 0 [(0,.ptr K.p 0),(5,.q [.bool pl.body,.bool pl.note,AA pl.tables]),(21,Ap l),(22,AA l.length),(23,AA i)] (Aq K.st s1 H) n ?_ (λm hm=>?_);simp[go_sem,Or,hm];refine AR 0 (α:=GU) (λ_=>[(0,.ptr K.p 0),(5,.q [.bool pl.body,.bool pl.note,AA pl.tables]),(21,Ap l),(22,AA l.length),(23,AA i)]) (λq=>Aq K.st q H) (λq m=>n<=m/\DY s1 (Ks N x) (cO N x) q/\Ci s1.1 (Ks N x)/\gy K N pl x) ?_ (λq m hm=>?_)
     . refine AP ?_;refine Ao 1 [(0,.ptr K.p 0),(5,.q [.bool pl.body,.bool pl.note,AA pl.tables]),(21,Ap l),(22,AA l.length),(23,AA i),(8,.q (x.H.j++[Bf x.cells]))] (Aq K.st s1 H) n ?_ (λm hm=>?_);simp[go_sem,Or,hlt,hx,qR,AF.j,AC];have hHm:∀j y,Aq K.st s1 H j=some y->j<m:=λj y e=>by have:=hUb _ j y e;omega
       exact⟨by omega,Ak (Ac hHm (IO _)) (AC _ _ _),AV hHm (AV hHm AE)⟩;have hd:=Zv hK s1 9 x.H x1 (H:=Aq K.st s1 H) (n:=m) nN CZ;obtain⟨e9,he9⟩:∃e9,D9 K 9 x.H=e9:=⟨_,rfl⟩
       rw[he9]at hd;obtain⟨ef,hef⟩:∃ef,ef=BH [e9,if x.cells=[]then(11:Int)else 0,if 32<(x.cells.length:Int)then(9:Int)else 0]:=⟨_,rfl⟩
       refine Bz 0 [(0,.ptr K.p 0),(5,.q [.bool pl.body,.bool pl.note,AA pl.tables]),(21,Ap l),(22,AA l.length),(23,AA i),(8,.q (x.H.j++[Bf x.cells]))] (Aq K.st s1 H) (λm=>n<=m/\e9=0/\x.cells≠[]/\x.cells.length<=32) ?_ (λm hm=>?_)
       . refine AR 0 (α:=Unit) (λ_=>[(0,.ptr K.p 0),(5,.q [.bool pl.body,.bool pl.note,AA pl.tables]),(21,Ap l),(22,AA l.length),(23,AA i),(8,.q (x.H.j++[Bf x.cells])),(9,AA ef)]) (λ_=>Aq K.st s1 H) (λ_ m=>n<=m) (CJ i8 rfl nQ nQ ?_) (λ_ m hm=>?_);simp[go_sem,i8,AF.j];refine qI (by simpa[AF.h,AF.j]using hd) ?_;rintro v H' n' ⟨rfl,rfl,rfl⟩;simp[go_sem];refine(Kc _ _).use ?_;simp[go_sem];refine(Kc _ _).use ?_;simp[go_sem];generalize(if x.cells=[]then(11:Int)else 0)=ea at hef ⊢;generalize(if 32<(x.cells.length:Int)then(9:Int)else 0)=eb at hef ⊢;refine wT (bs:=[.x 1 ([e9,ea,eb].map AA) false]) (h2:=Aq K.st s1 H) 1 (AV (λj z e=>by have:=hUb s1 j z e;omega) AE) ⟨?_,trivial⟩ ?_;exact Ez (es:=[AA e9,AA ea,AA eb]) (Ac (hUb s1) hm) nO (by rw[AC];simp[SV.cells]) (by simp[SV.B,SV.cells]);refine(SY _ nO).use ?_;rw[<-hef];simp[go_sem,Or];omega;have hz:=hef▸(Pv (a:=e9) (b:=if x.cells=[]then(11:Int)else 0) (c:=if 32<(x.cells.length:Int)then(9:Int)else 0));by_cases e80:ef=0
         case neg=>
          refine AJ ?_;simp[go_sem,e80];refine noR ef _ _ e80 λg=>e80 (hz.2 ⟨by rw[<-he9];exact g.1.1,nR g.1.2.1,nR (by have:=g.1.2.2.1;omega)⟩)
         obtain⟨z1,z2,z3⟩:=hz.1 e80;have z2':x.cells≠[]:=λg=>by rw[nS g]at z2;cases z2
         have z3':x.cells.length<=32:=by
          by_cases g:32<(x.cells.length:Int);rw[nS g]at z3;cases z3;omega
         rw[e80];exact AJ (by simp[go_sem,Or,hm,z1,z2',z3'])
       obtain⟨hm,hhd⟩:=hm;refine Ao 0 [(0,.ptr K.p 0),(5,.q [.bool pl.body,.bool pl.note,AA pl.tables]),(21,Ap l),(22,AA l.length),(23,AA i),(47,Bf x.cells),(48,AA x.cells.length),(49,AA 0)] (Aq K.st s1 H) n ?_ (λm hm=>?_);simp[go_sem,Or,AF.j,hm];refine AP (As 0 (α:=Nat×GU) (λq=>[(0,.ptr K.p 0),(5,.q [.bool pl.body,.bool pl.note,AA pl.tables]),(21,Ap l),(22,AA l.length),(23,AA i),(47,Bf x.cells),(48,AA x.cells.length),(49,AA q.1)]) (λq=>Aq K.st q.2 H) (λq m=>q.1<=x.cells.length/\n<=m/\DY s1 ((x.cells.take q.1).flatMap (S5 N)) ((x.cells.take q.1).map (jo N)).sum q.2/\Ci s1.1 ((x.cells.take q.1).flatMap (S5 N))/\∀c∈x.cells.take q.1,gC K N pl c) (λq=>x.cells.length-q.1) (0,s1) ⟨qi _,hm,DY.nil s1,E7 _,by simp⟩ ?_ AE ?_);simp[go_sem,look,Or];rintro⟨j,s2⟩ m ⟨hj,hm,hmo2,hfr2,hok2⟩;dsimp only at hj hmo2 hfr2 hok2 ⊢;by_cases hjt:j<x.cells.length;obtain⟨y,hy⟩:∃y,x.cells[j]=y:=⟨_,rfl⟩
       have hym:y∈x.cells:=by rw[<-hy];exact qp hjt
       obtain⟨y1,y2⟩:=x3 y hym;have w2:=wS j nN;have tk2:=Eb (S5 N) x.cells j hjt;have sk2:=SN (jo N) x.cells hjt;rw[hy]at tk2 sk2;have noC:∀(e:Int)(s':GU)(m:Nat),e≠0->¬(gC K N pl y/\Ci s2.1 (S5 N y))->Cb n (Aq K.st s' H) m (AA e) (CQ K T H n):=λe s' m he hb=>noR e s' m he λg=>hb ⟨g.1.2.2.2 y hym,by
        have:=MF hjt (Z9 N x▸g.2);rw[hy]at this;rw[hmo2.ids];exact this⟩
       have tl2:x.cells.take (j+1)=x.cells.take j++[y]:=by rw[qa hjt,hy]
       refine Ao 0 [(0,.ptr K.p 0),(5,.q [.bool pl.body,.bool pl.note,AA pl.tables]),(21,Ap l),(22,AA l.length),(23,AA i),(47,Bf x.cells),(48,AA x.cells.length),(49,AA j),(50,.bool true)] (Aq K.st s2 H) n ?_ (λm hm=>?_);simp[go_sem,Or,hm,hjt];refine Ao 0 [(0,.ptr K.p 0),(5,.q [.bool pl.body,.bool pl.note,AA pl.tables]),(21,Ap l),(22,AA l.length),(23,AA i),(47,Bf x.cells),(48,AA x.cells.length),(49,AA j)] (Aq K.st s2 H) n ?_ (λm hm=>?_);simp[go_sem,Or,hm];refine AR 0 (α:=GU) (λ_=>[(0,.ptr K.p 0),(5,.q [.bool pl.body,.bool pl.note,AA pl.tables]),(21,Ap l),(22,AA l.length),(23,AA i),(47,Bf x.cells),(48,AA x.cells.length),(49,AA j)]) (λq=>Aq K.st q H) (λq m=>n<=m/\DY s2 (S5 N y) (jo N y) q/\Ci s2.1 (S5 N y)/\gC K N pl y) ?_ (λq m hm=>?_);refine AP ?_;refine Ao 1 [(0,.ptr K.p 0),(5,.q [.bool pl.body,.bool pl.note,AA pl.tables]),(21,Ap l),(22,AA l.length),(23,AA i),(47,Bf x.cells),(48,AA x.cells.length),(49,AA j),(11,.q ([AA y.id]++y.H.j++[AI y.W]))] (Aq K.st s2 H) n ?_ (λm hm=>?_);simp[go_sem,Or,hjt,hy,vB,AF.j,AC];have hHm:∀j y,Aq K.st s2 H j=some y->j<m:=λj y e=>by have:=hUb _ j y e;omega
       exact⟨by omega,Ak (Ac hHm (IO _)) (AC _ _ _),AV hHm (AV hHm AE)⟩;refine AR 0 (α:=GU) (λ_=>[(0,.ptr K.p 0),(5,.q [.bool pl.body,.bool pl.note,AA pl.tables]),(21,Ap l),(22,AA l.length),(23,AA i),(47,Bf x.cells),(48,AA x.cells.length),(49,AA j),(11,.q ([AA y.id]++y.H.j++[AI y.W]))]) (λq=>Aq K.st q H) (λq m=>n<=m/\DY s2 [y.id] 0 q/\Ci s2.1 [y.id]) (AJ ?_) (λq m hm=>?_);simp[go_sem];refine qI (Ww hK s2 y.id nN CZ) ?_;rintro v H' n' ⟨e,s3,rfl,hT2,rfl,rfl⟩;rw[D.up2];by_cases e0:e=0;obtain⟨_,h2,h3⟩:=hT2.1 e0;simp[go_sem,e0,Or,AF.j];exact⟨s3.1,s3.2,⟨by omega,h3,h2⟩,AE⟩;simp[go_sem,e0];exact noC e _ _ e0 λg=>hT2.2 e0 ⟨trivial,((CD (x:=[y.id])).1 g.2).1⟩;obtain⟨hm,hq1,hq2⟩:=hm;refine Bz 0 [(0,.ptr K.p 0),(5,.q [.bool pl.body,.bool pl.note,AA pl.tables]),(21,Ap l),(22,AA l.length),(23,AA i),(47,Bf x.cells),(48,AA x.cells.length),(49,AA j),(11,.q ([AA y.id]++y.H.j++[AI y.W]))] (Aq K.st q H) (λm=>n<=m/\D9 K 10 y.H=0) (AJ ?_) (λm hm=>?_);simp[go_sem,AF.j];refine qI (by simpa[AF.h,AF.j]using Zv hK q 10 y.H y1 (H:=Aq K.st q H) (n:=m) nN CZ) ?_;obtain⟨e,he⟩:∃e,D9 K 10 y.H=e:=⟨_,rfl⟩
       rw[he];rintro v H' n' ⟨rfl,rfl,rfl⟩;by_cases e0:e=0;simp[go_sem,e0,Or];omega;simp[go_sem,e0];exact noC e _ _ e0 λg=>e0 (by rw[<-he];exact g.1.1);obtain⟨hm,hh2⟩:=hm;refine AJ ?_;simp[go_sem,AF.j];refine qI (by simpa[C8.h]using y2 q pl (Aq K.st q H) m nN CZ) ?_;rintro v H' n' ⟨e,s3,rfl,hT2,rfl,rfl⟩;rw[D.up2];by_cases e0:e=0;obtain⟨h1,h2,h3⟩:=hT2.1 e0;simp[go_sem,e0,Or];rw[hq1.ids]at h2;exact⟨s3.1,s3.2,⟨by omega,(hq1.trans h3).to rfl (by rw[jo];omega),CD (x:=[y.id]) |>.2 ⟨hq2,h2⟩,hh2,h1⟩,AE⟩;simp[go_sem,e0];exact noC e _ _ e0 λg=>hT2.2 e0 ⟨g.1.2,by rw[hq1.ids];exact((CD (x:=[y.id])).1 g.2).2⟩;refine AJ ?_;simp[go_sem,w2,Or,-Int.natCast_add];have h2:=hm.2.2.1;rw[hmo2.ids]at h2;refine⟨j+1,by omega,q.1,q.2,⟨by omega,hm.1,(hmo2.trans hm.2.1).to tk2.symm (by rw[<-vT];exact sk2.symm),by rw[tk2];exact CD.2 ⟨hfr2,h2⟩,λc hc=>?_⟩,rfl,AE⟩;rw[tl2]at hc;exact NM hok2 hm.2.2.2 c hc;have:j=x.cells.length:=by omega
       subst this;rw[qn]at hmo2 hok2 hfr2;refine AJ ?_;simp[go_sem,Or];exact⟨s2.1,s2.2,⟨hm,hmo2,hfr2,by rw[he9];exact hhd.1,hhd.2.1,hhd.2.2,hok2⟩,AE⟩
     refine AJ ?_;simp[go_sem,w1,Or,-Int.natCast_add];have h2:=hm.2.2.1;rw[hmo.ids]at h2;refine⟨i+1,by omega,q.1,q.2,⟨by omega,hm.1,(hmo.trans hm.2.1).to tk.symm (by rw[<-vT];exact sk.symm),by rw[tk];exact CD.2 ⟨hfr,h2⟩,λr hr=>?_⟩,rfl,AE⟩;rw[tl]at hr;exact NM hok hm.2.2.2 r hr
   have:i=l.length:=by omega
   subst this;rw[qn]at hmo hok hfr;refine AJ ?_;simp[go_sem];exact⟨s1.1,s1.2,⟨hm,hmo,hfr,hok⟩,AE⟩
 refine AJ ?_;simp[go_sem];exact hK.ret hn ho 0 q (by rw[hT];exact⟨λ_=>⟨⟨hne,hle,hm.2.2.2⟩,hm.2.2.1,hm.2.1⟩,λg=>absurd rfl g⟩) AE
theorem Pm(a:K.ok n0){B:Nat}(b:B<=1048576):∀(N:Nat)(l:List AD),lim AF.D B N l->PX K n0 N l
 | 0,_,h=>h.elim
 | N+1,l,h=>by
  have g:=h.D (λ_ e=>e) b;obtain⟨_,_,j⟩:=CX.1 h;refine lc a N l g.1 λx i=>?_;obtain⟨a1,a2,a3,a4⟩:=j x i;refine gW a N x (wN g.2 x i) (Pm a b N x.W a2) (gX a N x.R nN λr hr=>?_);obtain⟨b1,b2,d⟩:=a4 r hr;exact⟨b1,by omega,λc f=>⟨(d c f).1,Pm a b N c.W (d c f).2⟩⟩
end
def MH(l:List Al):Nat->List (Int×Int)
 | 0=>[]
 | i+1=>match l[i]? with
  | some s=>LI (MH l i) s.id s.l
  | none=>MH l i
def mW(d:AH)(h:Hp)(n:Nat):SV->Hp->Nat->Prop:=λv h' n'=>∃K:Ck,K.ok n'/\n<=n'/\v=.ptr K.p 0/\(∀o y,K.st ([],0) o=some y->h' o=some y)/\K.m2=BD [] (d.V.map (·.id))/\K.m0=MH d.S.A d.S.A.length/\K.m1=BD [] (d.S.L.map (·.id))/\(∀j y,h j=some y->h' j=some y)/\∀o y,K.st ([],0) o=some y->n<=o
theorem lb(d:AH)(h1:d.S.A.length<=1048576)(h2:d.S.L.length<=1048576)(h3:d.V.length<=1048576){h:Hp}{n:Nat}:BF prog 81 [d.h] h n (mW d h n):=by
 refine E8 func81 rfl λQ=>?_;have s:=Q.lt;obtain⟨X,G⟩:∃X:SV,X=.q ([AI d.W]++d.T0.j++[Cq d.V]++d.S.j):=⟨_,rfl⟩
 refine A6 1 [(1,X)] h (λm=>n+1=m) ?_ (λm hm=>?_);rw[G];simp[go_sem,AH.h,AF.j,AO.j];exact⟨Ak (Ac s (IO _)) (AC _ _ _),AV s AE⟩;subst hm;refine A6 0 [(1,X),(3,.ptr (n+6) 0)] (hb h n [] [] []) (λm=>n+7=m) ?_ (λm hm=>?_);simp[go_sem,Or,qw,hb,IB,Fh];subst hm;refine AR 0 (α:=List (Int×Int)) (λ_=>[(1,X),(3,.ptr (n+6) 0)]) (λa=>hb h n a [] []) (λa m=>n+7<=m/\a=MH d.S.A d.S.A.length) ?_ (λa0 m hm=>?_)
 . refine A6 0 [(1,X),(3,.ptr (n+6) 0),(19,AW d.S.A),(20,AA d.S.A.length),(21,AA 0)] (hb h n [] [] []) (λm=>n+7<=m) ?_ (λm hm=>?_);rw[G];simp[go_sem,Or,AF.j,AO.j];refine AP (As 0 (α:=Nat×List (Int×Int)) (λq=>[(1,X),(3,.ptr (n+6) 0),(19,AW d.S.A),(20,AA d.S.A.length),(21,AA q.1)]) (λq=>hb h n q.2 [] []) (λq m=>q.1<=d.S.A.length/\n+7<=m/\q.2=MH d.S.A q.1) (λq=>d.S.A.length-q.1) (0,[]) ⟨qi _,hm,rfl⟩ ?_ AE ?_);simp[go_sem,look,Or];rintro⟨i,a⟩ m ⟨hi,hm,t⟩;dsimp only at hi t ⊢;refine AJ ?_;by_cases k:i<d.S.A.length
   . obtain⟨x,B⟩:∃x,d.S.A[i]=x:=⟨_,rfl⟩
     have E:=wS i nN;have D:n+6≠m:=by omega
     have C:n+1≠m:=by omega
     have g:MH d.S.A (i+1)=LI a x.id x.l:=by rw[MH,qm k,B,t]
     have fin:∀b z y,∀j w,hb h n b [] [] j=some w->h_ (h_ (h_ (hb h n a [] []) m y) m z) (n+1) (some (.map (IB b))) j=some w:=λb z y j w e=>by
      have:=XP (h:=h) (n:=n) (λj y e=>s j y e) j w e;rw[<-ly (a0:=a)]at e;simp only[h_]at e ⊢;split at e;rename_i c;rw[nS c];exact e;rename_i c;rw[nR c,nR nN,nR nN];exact e
     rcases L6 x.id x.l a 0 with⟨f,p⟩|⟨j,v,f,F⟩
     . simp[go_sem,k,B,Al.h,AC,AB,D,C,Qj,S3,f,BN,p,E,-Int.natCast_add]
       repeat first|refine nq ?_|refine sq ?_|refine aq ?_
       exact⟨i+1,by omega,_,⟨by omega,by omega,g.symm⟩,rfl,fin _ _ _⟩
     . rw[qW]at f;simp[go_sem,k,B,Al.h,AC,AB,D,C,Qj,S3,f,BN,F,E,-Int.natCast_add]
       repeat first|refine nq ?_|refine sq ?_|refine aq ?_
       exact⟨i+1,by omega,_,⟨by omega,by omega,g.symm⟩,rfl,fin _ _ _⟩
   have:i=d.S.A.length:=by omega
   subst this;simp[go_sem,Or];exact⟨a,⟨by omega,t⟩,AE⟩
 obtain⟨hm,H⟩:=hm;refine AR 0 (α:=List Int) (λ_=>[(1,X),(3,.ptr (n+6) 0)]) (λa=>hb h n a0 a []) (λa m=>n+7<=m/\a=BD [] (d.S.L.map (·.id))) ?_ (λa1 m hm=>?_)
 . refine A6 0 [(1,X),(3,.ptr (n+6) 0),(36,CA d.S.L),(37,AA d.S.L.length),(38,AA 0)] (hb h n a0 [] []) (λm=>n+7<=m) ?_ (λm hm=>?_);rw[G];simp[go_sem,Or,AF.j,AO.j,hm];refine AP (As 0 (α:=Nat×List Int) (λq=>[(1,X),(3,.ptr (n+6) 0),(36,CA d.S.L),(37,AA d.S.L.length),(38,AA q.1)]) (λq=>hb h n a0 q.2 []) (λq m=>q.1<=d.S.L.length/\n+7<=m/\q.2=BD [] ((d.S.L.take q.1).map (·.id))) (λq=>d.S.L.length-q.1) (0,[]) ⟨qi _,hm,by simp[BD]⟩ ?_ AE ?_);simp[go_sem,look,Or];rintro⟨i,a⟩ m ⟨hi,hm,t⟩;dsimp only at hi t ⊢;refine AJ ?_;by_cases k:i<d.S.L.length
   . obtain⟨x,B⟩:∃x,d.S.L[i]=x:=⟨_,rfl⟩
     have E:=wS i nN;have D:n+6≠m:=by omega
     have C:n+2≠m:=by omega
     have g:BD [] ((d.S.L.take (i+1)).map (·.id))=B8 a x.id:=by rw[qa k,B,qc,CT,<-t];rfl
     have fin:∀b z y,∀j w,hb h n a0 b [] j=some w->h_ (h_ (h_ (hb h n a0 a []) m y) m z) (n+2) (some (.map (Fh b))) j=some w:=λb z y j w e=>by
      have:=XP (h:=h) (n:=n) (λj y e=>s j y e) j w e;rw[<-l0 (a1:=a)]at e;simp only[h_]at e ⊢;split at e;rename_i c;rw[nS c];exact e;rename_i c;rw[nR c,nR nN,nR nN];exact e
     by_cases r:x.id∈a
     . obtain⟨j,f,J⟩:=Dy 0 r;have u:=KO J;simp only[Fi]at u;rw[qW]at f;simp[go_sem,k,B,Fb.h,AC,AB,D,C,Qj,Ig,f,BN,u,E,-Int.natCast_add]
       repeat first|refine nq ?_|refine sq ?_|refine aq ?_
       refine⟨i+1,by omega,a,⟨by omega,by omega,?_⟩,rfl,fin a _ _⟩;rw[vT]at g;rw[g,B8,nS r]
     . have f:=Et 0 r;have p:=Ny a x.id;simp[go_sem,k,B,Fb.h,AC,AB,D,C,Qj,Ig,f,BN,p,E,-Int.natCast_add]
       repeat first|refine nq ?_|refine sq ?_|refine aq ?_
       refine⟨i+1,by omega,a++[x.id],⟨by omega,by omega,?_⟩,rfl,fin _ _ _⟩;rw[vT]at g;rw[g,B8,nR r]
   have:i=d.S.L.length:=by omega
   subst this;rw[qn]at t;simp[go_sem,Or];exact⟨a,⟨by omega,t⟩,AE⟩
 obtain⟨hm,I⟩:=hm;refine AR 0 (α:=List Int) (λ_=>[(1,X),(3,.ptr (n+6) 0)]) (λa=>hb h n a0 a1 a) (λa m=>n+7<=m/\a=BD [] (d.V.map (·.id))) ?_ (λa2 m hm=>?_)
 . refine A6 0 [(1,X),(3,.ptr (n+6) 0),(50,Cq d.V),(51,AA d.V.length),(52,AA 0)] (hb h n a0 a1 []) (λm=>n+7<=m) ?_ (λm hm=>?_);rw[G];simp[go_sem,Or,AF.j,AO.j,hm];refine AP (As 0 (α:=Nat×List Int) (λq=>[(1,X),(3,.ptr (n+6) 0),(50,Cq d.V),(51,AA d.V.length),(52,AA q.1)]) (λq=>hb h n a0 a1 q.2) (λq m=>q.1<=d.V.length/\n+7<=m/\q.2=BD [] ((d.V.take q.1).map (·.id))) (λq=>d.V.length-q.1) (0,[]) ⟨qi _,hm,by simp[BD]⟩ ?_ AE ?_);simp[go_sem,look,Or];rintro⟨i,a⟩ m ⟨hi,hm,t⟩;dsimp only at hi t ⊢;refine AJ ?_;by_cases k:i<d.V.length
   . obtain⟨x,B⟩:∃x,d.V[i]=x:=⟨_,rfl⟩
     have E:=wS i nN;have D:n+6≠m:=by omega
     have C:n+3≠m:=by omega
     have g:BD [] ((d.V.take (i+1)).map (·.id))=B8 a x.id:=by rw[qa k,B,qc,CT,<-t];rfl
     have fin:∀b z y,∀j w,hb h n a0 a1 b j=some w->h_ (h_ (h_ (hb h n a0 a1 a) m y) m z) (n+3) (some (.map (Fh b))) j=some w:=λb z y j w e=>by
      have:=XP (h:=h) (n:=n) (λj y e=>s j y e) j w e;rw[<-l8 (a2:=a)]at e;simp only[h_]at e ⊢;split at e;rename_i c;rw[nS c];exact e;rename_i c;rw[nR c,nR nN,nR nN];exact e
     by_cases r:x.id∈a
     . obtain⟨j,f,J⟩:=Dy 0 r;have u:=KO J;simp only[Fi]at u;rw[qW]at f;simp[go_sem,k,B,CI.h,AC,AB,D,C,Qj,Mn,f,BN,u,E,-Int.natCast_add]
       repeat first|refine nq ?_|refine sq ?_|refine aq ?_
       refine⟨i+1,by omega,a,⟨by omega,by omega,?_⟩,rfl,fin a _ _⟩;rw[vT]at g;rw[g,B8,nS r]
     . have f:=Et 0 r;have p:=Ny a x.id;simp[go_sem,k,B,CI.h,AC,AB,D,C,Qj,Mn,f,BN,p,E,-Int.natCast_add]
       repeat first|refine nq ?_|refine sq ?_|refine aq ?_
       refine⟨i+1,by omega,a++[x.id],⟨by omega,by omega,?_⟩,rfl,fin _ _ _⟩;rw[vT]at g;rw[g,B8,nR r]
   have:i=d.V.length:=by omega
   subst this;rw[qn]at t;simp[go_sem,Or];exact⟨a,⟨by omega,t⟩,AE⟩
 refine AJ ?_;simp[go_sem];refine .inl ⟨⟨n+6,n+1,n+2,n+3,n+4,n+5,a0,a1,a2⟩,⟨by simp,by simp;omega⟩,by omega,rfl,λo y e=>?_,hm.2,H,I,dM s,λo y e=>?_⟩;simp only[Ck.st,Ck.cells,Fh]at e;by_cases P:o=n+6;subst P;simp at e;rw[Qj];exact congrArg some e;by_cases N:o=n+4;subst N;simp at e;rw[V4];exact congrArg some e;by_cases c1:o=n+1;subst c1;simp at e;rw[S3];exact congrArg some e;by_cases K:o=n+2;subst K;simp at e;rw[Ig];exact congrArg some e;by_cases M:o=n+3;subst M;simp at e;rw[Mn];exact congrArg some e;by_cases O:o=n+5;subst O;simp at e;rw[ZM];exact congrArg some e;rw[nR P,nR N,nR c1,nR K,nR M,nR O]at e;cases e;simp only[Ck.st]at e;by_cases c:n<=o;exact c;rw[nR nN,nR nN,nR nN,nR nN,nR nN,nR nN]at e;cases e
def Nz(F:Nat->Int)(l:List Cv)(i:Nat):Int:=match l[i]? with
 | none=>0
 | some x=>if x.format<1\/7<x.format then 3 else if x.start<0\/32767<x.start then 2 else if F i≠0 then F i else if x.restart<0\/(i:Int)<x.restart then 5 else 0
def I1(F:Nat->Int)(l:List Cv):Int:=if l=[]then 11 else if(9:Int)<l.length then 9 else CK (Nz F l) l.length
theorem ll(l:List Cv)(hl:l.length<=1048576)(I:∀x∈l,∀k:Int,EC 249 [.str x.template,AA k]):EC 191 [DK l]:=by
 obtain⟨F,H⟩:=EC.fam (f:=249) (A:=λi=>[.str (l.getD i ⟨0,0,⟨#[]⟩,0⟩).template,AA ((i+1:Nat):Int)]) (N:=l.length) λi hi=>by
  have:l.getD i ⟨0,0,⟨#[]⟩,0⟩=l[i]:=by simp[List.getD,hi]
  rw[this];exact I _ (qp hi) _
 refine⟨I1 F l,?_⟩;intro h n;refine E8 func191 rfl λE=>?_;have v:=E.lt;have out:∀(e:Int)(m:Nat),e=I1 F l->Cb n h m (AA e) (Is (AA (I1 F l)) h n):=λe m t=>An E rfl (by rw[t]);refine Ao 0 [(0,DK l)] h n ?_ (λm hm=>?_);simp[go_sem,Or];refine Bz 0 [(0,DK l)] h (λm=>n<=m/\I1 F l=CK (Nz F l) l.length) (AJ ?_) (λm hm=>?_);by_cases c:l=[];subst c;simp[go_sem];exact out 11 _ rfl;by_cases r:(9:Int)<l.length;simp[go_sem,c,r];exact out _ _ (by unfold I1;rw[nR c,nS r]);simp[go_sem,c,r,Or,hm];unfold I1;rw[nR c,nR r];obtain⟨hm,D⟩:=hm;refine Bz 0 [] h (λm=>n<=m/\I1 F l=0) ?_ (λm hm=>?_);refine Ao 0 [(14,DK l),(15,AA l.length),(16,AA 0)] h n ?_ (λm hm=>?_);simp[go_sem,Or,hm];refine AP (As 0 (α:=Nat) (λi=>[(14,DK l),(15,AA l.length),(16,AA i)]) (λ_=>h) (λi m=>i<=l.length/\n<=m/\CK (Nz F l) i=0) (λi=>l.length-i) 0 ⟨qi _,hm,rfl⟩ ?_ AE ?_);simp[go_sem,look,Or];rintro i m ⟨hi,hm,h0⟩;by_cases b:i<l.length;obtain⟨x,B⟩:∃x,l[i]=x:=⟨_,rfl⟩
 have p:=H i b;have w:l.getD i ⟨0,0,⟨#[]⟩,0⟩=x:=by simp[List.getD,b,B]
 rw[w]at p;have d:Nz F l i=if x.format<1\/7<x.format then 3 else if x.start<0\/32767<x.start then 2 else if F i≠0 then F i else if x.restart<0\/(i:Int)<x.restart then 5 else 0:=by unfold Nz;rw[qm b,B]
 have a:∀(e:Int)(m:Nat),e≠0->Nz F l i=e->Cb n h m (AA e) (Is (AA (I1 F l)) h n):=λe m z t=>out e m (by rw[D,E4 _ b h0 (by rw[t];exact z),t]);have G:=wS i nN;refine Ao 0 [(14,DK l),(15,AA l.length),(16,AA i),(17,.bool true)] h n ?_ (λm hm=>?_);simp[go_sem,Or,hm,b];refine Ao 0 [(14,DK l),(15,AA l.length),(16,AA i)] h n ?_ (λm hm=>?_);simp[go_sem,Or,hm];refine Bz 0 [(14,DK l),(15,AA l.length),(16,AA i)] h (λm=>n<=m/\Nz F l i=0) ?_ (λm hm=>?_);refine AP ?_;refine Ao 1 [(14,DK l),(15,AA l.length),(16,AA i),(3,AA i),(4,.q [AA x.format,AA x.start,.str x.template,AA x.restart])] h n ?_ (λm hm=>?_);have o:∀j y,h j=some y->j<m:=λj y e=>by have:=v j y e;omega
 simp[go_sem,Or,b,B,Cv.h,AC];exact⟨by omega,Ak (Ac o (IO _)) (AC _ _ _),AV o (AV o AE)⟩;refine AR 0 (α:=Unit) (λ_=>[(14,DK l),(15,AA l.length),(16,AA i),(3,AA i),(4,.q [AA x.format,AA x.start,.str x.template,AA x.restart])]) (λ_=>h) (λ_ m=>n<=m/\¬(x.format<1\/7<x.format)/\¬(x.start<0\/32767<x.start)) (AP (AJ ?_)) (λ_ m hm=>?_);by_cases a1:x.format<1;simp[go_sem,a1];exact a _ _ (by decide) (by rw[d,nS (.inl a1)]);by_cases a2:7<x.format;simp[go_sem,a1,a2];exact a _ _ (by decide) (by rw[d,nS (.inr a2)]);have n1:¬(x.format<1\/7<x.format):=λg=>g.elim a1 a2;by_cases a3:x.start<0;simp[go_sem,a1,a2,a3];exact a _ _ (by decide) (by rw[d,nR n1,nS (.inl a3)]);by_cases a4:32767<x.start;simp[go_sem,a1,a2,a3,a4];exact a _ _ (by decide) (by rw[d,nR n1,nS (.inr a4)]);simp[go_sem,a1,a2,a3,a4,Or,hm];obtain⟨hm,n1,u⟩:=hm;refine Bz 0 [(14,DK l),(15,AA l.length),(16,AA i),(3,AA i),(4,.q [AA x.format,AA x.start,.str x.template,AA x.restart])] h (λm=>n<=m/\F i=0) (AJ ?_) (λm hm=>?_);simp[go_sem,G,-Int.natCast_add];refine p.use ?_;by_cases s:F i=0;simp[go_sem,s,Or,hm];simp[go_sem,s];exact a _ _ s (by rw[d,nR n1,nR u,nS s]);obtain⟨hm,f0⟩:=hm;have C:¬F i≠0:=λg=>g f0;refine AJ ?_;by_cases a1:x.restart<0;simp[go_sem,a1];exact a _ _ (by decide) (by rw[d,nR n1,nR u,nR C,nS (.inl a1)]);by_cases a2:(i:Int)<x.restart;simp[go_sem,a1,a2];exact a _ _ (by decide) (by rw[d,nR n1,nR u,nR C,nS (.inr a2)]);simp[go_sem,a1,a2,Or,hm];rw[d,nR n1,nR u,nR C,nR λg=>g.elim a1 a2];refine AJ ?_;simp[go_sem,G,Or,-Int.natCast_add];exact⟨i+1,by omega,⟨by omega,hm.1,by rw[CK,nS h0];exact hm.2⟩,rfl⟩;refine AJ ?_;have:i=l.length:=by omega
 simp[go_sem,b,hm];rw[D,<-this];exact h0;refine AJ ?_;simp[go_sem];exact out _ _ hm.2.symm
end Go.Proofs.YthinbkgpjmjfeaaGreatDoor.Sh
