/- A part of the proof (part 17 of 18). -/
import Derived.Test.YthinbkgpjmjfeaaGreatDoorM16
namespace Go.Proofs.YthinbkgpjmjfeaaGreatDoor.Sh
open Go.Proofs.Tryz
open Proofs
set_option maxRecDepth 10000
set_option maxHeartbeats 4000000
def cK:Tr:=(.pure 0 (.pure 2 (.pure 3 (.pure 4 (.pure 5 (.pure 6 (.pure 8 (.pure 9 (.pure 10 (.pure 11 (.two 1 7 (.one 7 (.one 12 (.one 13 (.one 14 (.one 15 (.pure 16 (.one 17 .nil))))))) (.two 1 12 (.one 12 (.one 13 (.one 14 (.one 15 (.pure 16 (.one 17 .nil)))))) (.two 1 13 (.one 13 (.one 14 (.one 15 (.pure 16 (.one 17 .nil))))) (.two 1 14 (.one 14 (.one 15 (.pure 16 (.one 17 .nil)))) (.one 1 (.one 15 (.pure 16 (.one 17 .nil))))))))))))))))))
section
variable{σ:Type}{st:σ->Nat->Option A7}{n0:Nat}{gH gI:FuncId}{bH bI:List SV}{R:Pa σ}{pf:Nat->List AD->Prop}{pi:Nat->AD->Prop}{hp:AF->Prop}{rk:σ->Nat}{top:Nat}
theorem lW(C:Zb st n0 113 gH gI [] bH bI R pf pi hp rk top)(hid:∀id l s,R.W id l s=(l,s))
 (hall:∀N x s,pi N x->(R.item x s).2.1=true->pf N (R.item x s).1.W/\(R.item x s).1.R.length<=1048576/\∀r∈(R.item x s).1.R,hp r.H/\r.cells.length<=1048576/\∀c∈r.cells,hp c.H/\pf N c.W):
 ∀N id l s H n,pf N l->rk (BK R N id l s).2<=top->n0<=n->MX st s H->BF prog 31 [AI l,.fn (.func gI) [] bI,.fn (.func gH) [] bH] H n (λv h' n'=>v=AI (BK R N id l s).1/\h'=Aq st (BK R N id l s).2 H/\n'=n)
 | 0=>λid l s H n h=>(C.zero l h).elim
 | N + 1 => fun id l s H n hl ht hn hs => by
  have ih:=lW C hid hall N;have iu:=NY C.up N;have K:=C.clo;have hfo:=C.flow_ok N id l s hl;rw[hid]at hfo;obtain⟨hfl,hfi⟩:=hfo;dsimp only at hfl hfi;refine E8 func31 rfl λho=>?_;have hU:∀s',HQ (Aq st s' H) n:=λs'=>K.old s' hn ho;have hUb:∀s' j y,Aq st s' H j=some y->j<n:=λs' j y e=>(hU s' j y e).1;have hHb:=ho.lt;obtain⟨Q,hQ⟩:∃Q:Nat->List AD×σ,∀i,Q i=(l.take i).foldl (Eh R (BK R N)) ([],s):=⟨_,λ_=>rfl⟩
  have hQ0:Q 0=([],s):=by rw[hQ];rfl
  have hQs:∀i x,(h:i<l.length)->l[i]=x->Q (i+1)=Eh R (BK R N) (Q i) x:=λi x h hx=>by rw[hQ,hQ,Fq _ _ _ _ _ h hx]
  have hQl:Q l.length=BK R (N+1) id l s:=by rw[hQ,qn];rfl
  have hQn:∀i,(Q i).1.length<=i:=λi=>by rw[hQ];have:=NX (R:=R) (it:=BK R N) (l.take i) ([],s);simp at this;omega
  have hQt:∀i,rk (Q i).2<=top:=λi=>by
   rw[hQ];exact qy (JT (Om C.up iu) _ _ i) ht
  clear hQ;refine Ai 0 [(0,AI l),(1,.fn (.func gI) [] bI),(2,.fn (.func gH) [] bH)] (Aq st s H) n ?_ (λm hm=>?_);simp[go_sem,Or,Cs s H hs];subst hm;refine Ai 0 [(0,AI l),(1,.fn (.func gI) [] bI),(2,.fn (.func gH) [] bH),(7,.x 0 [] true)] (Aq st s H) n ?_ (λm hm=>?_);simp[go_sem,Or];subst hm;refine AR 0 (α:=Option Nat) (λo=>[(7,AQ 11 o ((Q l.length).1.map AD.h))]) (λo=>AS o ((Q l.length).1.map AD.h) (Aq st (Q l.length).2 H)) (λo m=>n<=m/\BG n m 11 o ((Q l.length).1.map AD.h)) ?_ (λo m hm=>?_)
  . refine Ai 0 [(0,AI l),(1,.fn (.func gI) [] bI),(2,.fn (.func gH) [] bH),(7,.x 0 [] true),(8,AA 0)] (Aq st s H) n ?_ (λm hm=>?_);simp[go_sem,Or];subst hm;refine AP (As 0 (α:=Nat×Option Nat) (λq=>[(0,AI l),(1,.fn (.func gI) [] bI),(2,.fn (.func gH) [] bH),(7,AQ 11 q.2 ((Q q.1).1.map AD.h)),(8,AA q.1)])
     (λq=>AS q.2 ((Q q.1).1.map AD.h) (Aq st (Q q.1).2 H)) (λq m=>q.1<=l.length/\n<=m/\BG n m 11 q.2 ((Q q.1).1.map AD.h)) (λq=>l.length-q.1) (0,none) ⟨qi _,IO _,by simp only[hQ0];exact wF _ _ _⟩ ?_ ?_ ?_)
    simp[go_sem,look,AQ,Or];simp only[hQ0];exact AE;rintro⟨i,o⟩ m1 ⟨hi,hm1,hA⟩;dsimp only at hi hm1 hA ⊢;have hEn:((Q i).1.map AD.h).length<=i:=by rw[qj];exact hQn i
    by_cases hlt:i<l.length
    · have w1 := wS i nN
      obtain⟨x,hx⟩:∃x,l[i]=x:=⟨_,rfl⟩
      have hpi:pi N x:=hfi x (hx▸qp hlt);have hst:=hQs i x hlt hx;have htop:=hQt (i+1);generalize hSi:(Q i).2=si at hst;generalize hEi:(Q i).1.map AD.h=E at hA hEn ⊢;have hXb:∀s' j y,AS o E (Aq st s' H) j=some y->j<m1:=λs'=>EH (hUb s') hm1 hA;refine Ai 0 [(0,AI l),(1,.fn (.func gI) [] bI),(2,.fn (.func gH) [] bH),(7,AQ 11 o E),(8,AA i)] (AS o E (Aq st si H)) m1 ?_ (λm2 hm2=>?_);simp[go_sem,Or,hlt];subst hm2;refine AR 0 (α:=Option Nat) (λo=>[(0,AI l),(1,.fn (.func gI) [] bI),(2,.fn (.func gH) [] bH),(7,AQ 11 o ((Q (i+1)).1.map AD.h)),(8,AA i)]) (λo=>AS o ((Q (i+1)).1.map AD.h) (Aq st (Q (i+1)).2 H)) (λo m=>n<=m/\BG n m 11 o ((Q (i+1)).1.map AD.h)) ?_ (λo m hm=>?_)
      . refine AP ?_;have hci:=C.item N x si (AS o E (Aq st si H)) m1 hpi (by
         rw[hst]at htop;refine qy ?_ htop;unfold Eh;rw[hSi];dsimp only;split;exact qy (C.up.H _ _) (Pn C.up iu _ _);exact IO _) nN (K.has hn hA CZ)
        have hok:=C.item_ok N x si hpi;have hal:=hall N x si hpi;rw[K.acc hn hA,K.up2]at hci;have hst':Q (i+1)=if(R.item x si).2.1=true then((Q i).1++[(Q3 R (BK R N) ((R.item x si).1.wHead (R.H (R.item x si).1.H (R.item x si).2.2).1) (R.H (R.item x si).1.H (R.item x si).2.2).2).1],(Q3 R (BK R N) ((R.item x si).1.wHead (R.H (R.item x si).1.H (R.item x si).2.2).1) (R.H (R.item x si).1.H (R.item x si).2.2).2).2)else((Q i).1,(R.item x si).2.2):=by rw[hst,Eh,hSi]
        clear hst hSi;rcases hf:R.item x si with⟨x1,k,s2⟩
        rw[hf]at hci hst' hok hal;dsimp only at hci hst' hok hal;refine A6 0 [(0,AI l),(1,.fn (.func gI) [] bI),(2,.fn (.func gH) [] bH),(7,AQ 11 o E),(8,AA i),(9,.ptr m1 0),(10,.bool k)] (h_ (AS o E (Aq st s2 H)) m1 (some (.cells [AA x1.l,AA x1.code,AA x1.id,.str x1.J,AU x1.H.Q,AA x1.H.I,AA x1.H.move,Aa x1.H.Y,AN x1.H.Z,AI x1.W,Ap x1.R]))) (λm3=>m1+1=m3) ?_ (λm3 hm3=>?_);rw[qz,qz]at hci;simp[go_sem,hlt,hx,qz];refine qI (by simpa using hci) ?_;rintro v H' n' ⟨rfl,rfl,rfl⟩;simp[go_sem,Or,AC,AZ];subst hm3;cases k with
        | false=>
         have hst3:Q (i+1)=((Q i).1,s2):=by simpa using hst'
         simp only[hst3,hEi];refine AJ ?_;simp[go_sem,Or];exact⟨o,⟨by omega,hA.mono nN⟩,rfl,AV (hXb _) AE⟩
        | true =>
         rw[nS rfl]at hst';have hst3:=hst';have hk1:=(hok rfl).1;obtain⟨hkf,hkr1,hkr2⟩:=hal rfl;rcases hh:R.H x1.H s2 with⟨h3,s3⟩
         rw[hh]at hst3;dsimp only at hst3;obtain⟨y,hy⟩:∃y,y=x1.wHead h3:=⟨_,rfl⟩
         rw[<-hy]at hst3;have hit3:rk (Q3 R (BK R N) y s3).2<=top:=by have:=htop;rwa [hst3]at this
         have ht3:rk s3<=top:=qy (Pn C.up iu y s3) hit3;have hB0:∀(s:σ)(z:A7),h_ (AS o E (Aq st s H)) m1 (some z)=Aq st s (h_ (AS o E H) m1 (some z)):=λs z=>by rw[<-K.acc hn hA,K.h_ _ _ nN]
         refine A6 0 [(0,AI l),(1,.fn (.func gI) [] bI),(2,.fn (.func gH) [] bH),(7,AQ 11 o E),(8,AA i),(9,.ptr m1 0)] (h_ (AS o E (Aq st s2 H)) m1 (some (.cells [AA x1.l,AA x1.code,AA x1.id,.str x1.J,AU x1.H.Q,AA x1.H.I,AA x1.H.move,Aa x1.H.Y,AN x1.H.Z,AI x1.W,Ap x1.R]))) (λm3=>m1+1=m3) ?_ (λm3 hm3=>?_);simp[go_sem,Or];subst hm3;have hch:=C.H x1.H s2 (h_ (AS o E (Aq st s2 H)) m1 (some (.cells [AA x1.l,AA x1.code,AA x1.id,.str x1.J,AU x1.H.Q,AA x1.H.I,AA x1.H.move,Aa x1.H.Y,AN x1.H.Z,AI x1.W,Ap x1.R]))) (m1+1) hk1 (by rw[hh];exact ht3) nN (by rw[hB0];exact CZ);rw[hh,hB0,K.up2,<-hB0 s2,<-hB0 s3]at hch;dsimp only at hch;refine A6 0 [(0,AI l),(1,.fn (.func gI) [] bI),(2,.fn (.func gH) [] bH),(7,AQ 11 o E),(8,AA i),(9,.ptr m1 0)] (h_ (AS o E (Aq st s3 H)) m1 (some (.cells [AA y.l,AA y.code,AA y.id,.str y.J,AU y.H.Q,AA y.H.I,AA y.H.move,Aa y.H.Y,AN y.H.Z,AI y.W,Ap y.R]))) (λm3=>m1+1=m3) ?_ (λm3 hm3=>?_);simp[go_sem,AC];refine qI (by simpa[AF.h,AF.j]using hch) ?_;rintro v H' n' ⟨rfl,rfl,rfl⟩;simp[go_sem,Or,AC,AZ,hy,AD.wHead,AD.l,AD.code,AD.id,AD.J,AD.H,AD.W,AD.R];subst hm3;have hyk:y.W=x1.W/\y.R=x1.R:=by rw[hy];cases x1;exact⟨rfl,rfl⟩
         obtain⟨y2,y3⟩:=hyk;rw[<-y2]at hkf;rw[<-y3]at hkr1 hkr2;clear hch hh hst' hf hci hok hal;have hcf:=ih 0 y.W s3 (h_ (AS o E (Aq st s3 H)) m1 (some (.cells [AA y.l,AA y.code,AA y.id,.str y.J,AU y.H.Q,AA y.H.I,AA y.H.move,Aa y.H.Y,AN y.H.Z,AI y.W,Ap y.R]))) (m1+1) hkf (qy (Ls C.up iu y.R _) hit3) nN (by rw[hB0];exact CZ);rcases hf5:BK R N 0 y.W s3 with⟨l5,s5⟩
         rw[hf5,hB0,K.up2,<-hB0 s3,<-hB0 s5]at hcf;dsimp only at hcf;have hci5:Q3 R (BK R N) y s3=(.mk y.l y.code y.id y.J y.H l5 (Di R (BK R N) y.R s5).1,(Di R (BK R N) y.R s5).2):=by unfold Q3;rw[hf5]
         rw[hci5]at hit3 hst3;dsimp only at hit3 hst3;refine A6 0 [(0,AI l),(1,.fn (.func gI) [] bI),(2,.fn (.func gH) [] bH),(7,AQ 11 o E),(8,AA i),(9,.ptr m1 0)] (h_ (AS o E (Aq st s5 H)) m1 (some (.cells [AA y.l,AA y.code,AA y.id,.str y.J,AU y.H.Q,AA y.H.I,AA y.H.move,Aa y.H.Y,AN y.H.Z,AI l5,Ap y.R]))) (λm3=>m1+1=m3) ?_ (λm3 hm3=>?_);simp[go_sem,AC];refine qI hcf ?_;rintro v H' n' ⟨rfl,rfl,rfl⟩;simp[go_sem,Or,AC,AZ];subst hm3;clear hcf;obtain⟨B,hB⟩:∃B:Hp,B=h_ (AS o E H) m1 (some (.cells [AA y.l,AA y.code,AA y.id,.str y.J,AU y.H.Q,AA y.H.I,AA y.H.move,Aa y.H.Y,AN y.H.Z,AI l5,Ap y.R])):=⟨_,rfl⟩
         have hBs:∀s,h_ (AS o E (Aq st s H)) m1 (some (.cells [AA y.l,AA y.code,AA y.id,.str y.J,AU y.H.Q,AA y.H.I,AA y.H.move,Aa y.H.Y,AN y.H.Z,AI l5,Ap y.R]))=Aq st s B:=λs=>by rw[hB0,hB]
         have hBb:∀s' j z,Aq st s' B j=some z->j<m1+1:=λs'=>K.ltU nN (λj z e=>by
          rw[hB]at e;by_cases e1:j=m1;omega;rw[AB _ _ e1]at e;have:=EH hHb hm1 hA j z e;omega) s'
         have hk9:∀s,Aq st s B m1=some (.cells [AA y.l,AA y.code,AA y.id,.str y.J,AU y.H.Q,AA y.H.I,AA y.H.move,Aa y.H.Y,AN y.H.Z,AI l5,Ap y.R]):=λs=>by rw[<-hBs,AC]
         rw[hBs];obtain⟨Rr,hRr⟩:∃Rr:Nat->List AM×σ,∀i,Rr i=(y.R.take i).foldl (GG R (BK R N)) ([],s5):=⟨_,λ_=>rfl⟩
         have hRr0:Rr 0=([],s5):=by rw[hRr];rfl
         have hRrs:∀i r,(h:i<y.R.length)->y.R[i]=r->Rr (i+1)=GG R (BK R N) (Rr i) r:=λi x h hx=>by rw[hRr,hRr,Fq _ _ _ _ _ h hx]
         have hRrl:Rr y.R.length=Di R (BK R N) y.R s5:=by rw[hRr,qn];rfl
         have hRrn:∀i,(Rr i).1.length<=i:=λi=>by rw[hRr];have:=KM (R:=R) (it:=BK R N) (y.R.take i) ([],s5);simp at this;omega
         have hRrt:∀i,rk (Rr i).2<=top:=λi=>by rw[hRr];exact qy (JT (OC C.up iu) _ _ i) hit3
         clear hRr;simp only[hst3,qc,hEi,qg,vW];refine A6 0 [(0,AI l),(1,.fn (.func gI) [] bI),(2,.fn (.func gH) [] bH),(7,AQ 11 o E),(8,AA i),(9,.ptr m1 0),(11,.x 0 [] true)] (Aq st s5 B) (λm3=>m1+1=m3) ?_ (λm3 hm3=>?_);simp[go_sem,Or];subst hm3;refine Bz 1 [(0,AI l),(1,.fn (.func gI) [] bI),(2,.fn (.func gH) [] bH),(7,AQ 11 o E),(8,AA i),(9,.ptr m1 0),(11,Ap (Rr y.R.length).1)] (Aq st (Rr y.R.length).2 B) (λm3=>m1+1<=m3) ?_ (λm3 hm3=>?_)
         . refine A6 0 [(0,AI l),(1,.fn (.func gI) [] bI),(2,.fn (.func gH) [] bH),(7,AQ 11 o E),(8,AA i),(9,.ptr m1 0),(11,.x 0 [] true),(12,AA 0)] (Aq st s5 B) (λm3=>m1+1=m3) ?_ (λm3 hm3=>?_);simp[go_sem,Or];subst hm3;refine AP (As 0 (α:=Nat×Option Nat) (λq=>[(0,AI l),(1,.fn (.func gI) [] bI),(2,.fn (.func gH) [] bH),(7,AQ 11 o E),(8,AA i),(9,.ptr m1 0),(11,AQ 6 q.2 ((Rr q.1).1.map AM.h)),(12,AA q.1)])
            (λq=>AS q.2 ((Rr q.1).1.map AM.h) (Aq st (Rr q.1).2 B)) (λq m=>q.1<=y.R.length/\m1+1<=m/\BG (m1+1) m 6 q.2 ((Rr q.1).1.map AM.h)) (λq=>y.R.length-q.1) (0,none) ⟨qi _,IO _,by simp only[hRr0];exact wF _ _ _⟩ ?_ ?_ ?_)
           simp[go_sem,look,AQ,Or];simp only[hRr0];exact AE;rintro⟨a,o2⟩ m3 ⟨ha,hm3,hA2⟩;dsimp only at ha hm3 hA2 ⊢;have hGn:((Rr a).1.map AM.h).length<=a:=by rw[qj];exact hRrn a
           have hGk:∀s (G:List SV),BG (m1+1) m3 6 o2 G->AS o2 G (Aq st s B) m1=some (.cells [AA y.l,AA y.code,AA y.id,.str y.J,AU y.H.Q,AA y.H.I,AA y.H.move,Aa y.H.Y,AN y.H.Z,AI l5,Ap y.R]):=λs G hA2=>by
            rw[<-hk9 s];cases o2 with
            | none=>rfl
            | some j=>have:=(hA2.lt j rfl).1;simp only[AS];rw[AB _ _ nN]
           by_cases halt:a<y.R.length
           · have w2 := wS a nN
             obtain⟨r,hr⟩:∃r,y.R[a]=r:=⟨_,rfl⟩
             obtain⟨g1,g2,g3⟩:=hkr2 r (hr▸qp halt);have hrst:=hRrs a r halt hr;have hrtop:=hRrt (a+1);generalize hSr:(Rr a).2=sr at hrst;generalize hGi:(Rr a).1.map AM.h=G at hA2 hGn ⊢;have hGb:∀s' j z,AS o2 G (Aq st s' B) j=some z->j<m3:=λs'=>EH (hBb s') hm3 hA2;have hGk:=λs=>hGk s G hA2;refine Ai 0 [(0,AI l),(1,.fn (.func gI) [] bI),(2,.fn (.func gH) [] bH),(7,AQ 11 o E),(8,AA i),(9,.ptr m1 0),(11,AQ 6 o2 G),(12,AA a)] (AS o2 G (Aq st sr B)) m3 ?_ (λm' hm'=>?_);simp[go_sem,Or,hGk,halt];subst hm';refine AR 0 (α:=Option Nat) (λo2=>[(0,AI l),(1,.fn (.func gI) [] bI),(2,.fn (.func gH) [] bH),(7,AQ 11 o E),(8,AA i),(9,.ptr m1 0),(11,AQ 6 o2 ((Rr (a+1)).1.map AM.h)),(12,AA a)]) (λo2=>AS o2 ((Rr (a+1)).1.map AM.h) (Aq st (Rr (a+1)).2 B)) (λo2 m=>m1+1<=m/\BG (m1+1) m 6 o2 ((Rr (a+1)).1.map AM.h)) ?_ (λo2 m hm=>?_)
             . refine AP ?_;rw[GG,hSr]at hrst;rcases hh:R.H r.H sr with⟨h4,sr1⟩
               rw[hh]at hrst;dsimp only at hrst;rw[hrst]at hrtop;dsimp only at hrtop;have hct1:rk sr1<=top:=qy (KL C.up iu r.cells sr1) hrtop;have hch:=C.H r.H sr (AS o2 G (Aq st sr B)) m3 g1 (by rw[hh];exact hct1) nN (K.has nN hA2 CZ);rw[hh,K.acc nN hA2,K.up2]at hch;dsimp only at hch;refine A6 0 [(0,AI l),(1,.fn (.func gI) [] bI),(2,.fn (.func gH) [] bH),(7,AQ 11 o E),(8,AA i),(9,.ptr m1 0),(11,AQ 6 o2 G),(12,AA a),(13,.ptr m3 0)] (h_ (AS o2 G (Aq st sr1 B)) m3 (some (.cells (h4.j++[.x 0 [] true])))) (λm5=>m3+1=m5) ?_ (λm5 hm5=>?_);simp[go_sem,AF.j,hGk,halt,hr,qR];refine qI (by simpa[AF.h,AF.j]using hch) ?_;rintro v H' n' ⟨rfl,rfl,rfl⟩;simp[go_sem,Or,AC,AZ];subst hm5;clear hch hh;obtain⟨B1,hB1⟩:∃B1:Hp,B1=AS o2 G B:=⟨_,rfl⟩
               have hB1s:∀s,AS o2 G (Aq st s B)=Aq st s B1:=λs=>by rw[hB1,K.acc nN hA2]
               have hB1b:∀s' j z,Aq st s' B1 j=some z->j<m3:=λs' j z e=>hGb s' j z (by rw[hB1s];exact e);have hB1k:∀s,Aq st s B1 m1=some (.cells [AA y.l,AA y.code,AA y.id,.str y.J,AU y.H.Q,AA y.H.I,AA y.H.move,Aa y.H.Y,AN y.H.Z,AI l5,Ap y.R]):=λs=>by rw[<-hB1s];exact hGk s
               obtain⟨Rc,hRc⟩:∃Rc:Nat->List AG×σ,∀i,Rc i=(r.cells.take i).foldl (EQ R (BK R N)) ([],sr1):=⟨_,λ_=>rfl⟩
               have hRc0:Rc 0=([],sr1):=by rw[hRc];rfl
               have hRcs:∀i c,(h:i<r.cells.length)->r.cells[i]=c->Rc (i+1)=EQ R (BK R N) (Rc i) c:=λi x h hx=>by rw[hRc,hRc,Fq _ _ _ _ _ h hx]
               have hRcl:Rc r.cells.length=JU R (BK R N) r.cells sr1:=by rw[hRc,qn];rfl
               have hRcn:∀i,(Rc i).1.length<=i:=λi=>by rw[hRc];have:=JA (R:=R) (it:=BK R N) (r.cells.take i) ([],sr1);simp at this;omega
               have hRct:∀i,rk (Rc i).2<=top:=λi=>by rw[hRc];exact qy (JT (Lr C.up iu) _ _ i) hrtop
               clear hRc;rw[<-hRcl]at hrst;refine Bz 3 [(0,AI l),(1,.fn (.func gI) [] bI),(2,.fn (.func gH) [] bH),(7,AQ 11 o E),(8,AA i),(9,.ptr m1 0),(11,AQ 6 o2 G),(12,AA a),(13,.q (h4.j++[Bf (Rc r.cells.length).1]))] (AS o2 G (Aq st (Rc r.cells.length).2 B)) (λm5=>m3+1<=m5) ?_ (λm5 hm5=>?_);refine A6 0 [(0,AI l),(1,.fn (.func gI) [] bI),(2,.fn (.func gH) [] bH),(7,AQ 11 o E),(8,AA i),(9,.ptr m1 0),(11,AQ 6 o2 G),(12,AA a),(13,.ptr m3 0),(14,AA 0)] (h_ (AS o2 G (Aq st sr1 B)) m3 (some (.cells (h4.j++[.x 0 [] true])))) (λm5=>m3+1=m5) ?_ (λm5 hm5=>?_);simp[go_sem,Or];subst hm5;rw[hB1s];refine AP (As 0 (α:=Nat×Option Nat) (λq=>[(0,AI l),(1,.fn (.func gI) [] bI),(2,.fn (.func gH) [] bH),(7,AQ 11 o E),(8,AA i),(9,.ptr m1 0),(11,AQ 6 o2 G),(12,AA a),(13,.ptr m3 0),(14,AA q.1)])
                (λq=>AS q.2 ((Rc q.1).1.map AG.h) (h_ (Aq st (Rc q.1).2 B1) m3 (some (.cells (h4.j++[AQ 7 q.2 ((Rc q.1).1.map AG.h)]))))) (λq m=>q.1<=r.cells.length/\m3+1<=m/\BG (m3+1) m 7 q.2 ((Rc q.1).1.map AG.h)) (λq=>r.cells.length-q.1) (0,none) ⟨qi _,IO _,by simp only[hRc0];exact wF _ _ _⟩ ?_ ?_ ?_)
               simp[go_sem,look,Or];simp only[hRc0,hB1s];exact AE;rintro⟨b,o3⟩ m5 ⟨hb,hm5,hA3⟩;dsimp only at hb hm5 hA3 ⊢;have hDn:((Rc b).1.map AG.h).length<=b:=by rw[qj];exact hRcn b
               have hYb:∀s' z,∀j w,h_ (Aq st s' B1) m3 z j=some w->j<m3+1:=λs' z j w e=>by
                by_cases e1:j=m3;omega;rw[AB _ _ e1]at e;have:=hB1b s' j w e;omega
               have hYk:∀s (D:List SV) (z:Option A7),BG (m3+1) m5 7 o3 D->AS o3 D (h_ (Aq st s B1) m3 z) m1=some (.cells [AA y.l,AA y.code,AA y.id,.str y.J,AU y.H.Q,AA y.H.I,AA y.H.move,Aa y.H.Y,AN y.H.Z,AI l5,Ap y.R]):=λs D z hA3=>by
                rw[<-hB1k s];cases o3 with
                | none=>exact AB _ _ nN
                | some j=>have:=(hA3.lt j rfl).1;simp only[AS];rw[AB _ _ nN,AB _ _ nN]
               by_cases hblt:b<r.cells.length;have w3:=wS b nN;obtain⟨c,hc⟩:∃c,r.cells[b]=c:=⟨_,rfl⟩
               obtain⟨c1,c2⟩:=g3 c (hc▸qp hblt);have hcst:=hRcs b c hblt hc;have hctop:=hRct (b+1);generalize hSc:(Rc b).2=sc at hcst;generalize hCi:(Rc b).1.map AG.h=D at hA3 hDn ⊢;have hYk:=λs z=>hYk s D z hA3;have hZb:∀s' z,∀j w,AS o3 D (h_ (Aq st s' B1) m3 z) j=some w->j<m5:=λs' z=>EH (hYb s' z) hm5 hA3;refine Ai 0 [(0,AI l),(1,.fn (.func gI) [] bI),(2,.fn (.func gH) [] bH),(7,AQ 11 o E),(8,AA i),(9,.ptr m1 0),(11,AQ 6 o2 G),(12,AA a),(13,.ptr m3 0),(14,AA b)] (AS o3 D (h_ (Aq st sc B1) m3 (some (.cells (h4.j++[AQ 7 o3 D]))))) m5 ?_ (λm' hm'=>?_);simp[go_sem,Or,hYk,halt,hr,qR,hblt];subst hm';refine AR 0 (α:=Option Nat) (λ_=>[(0,AI l),(1,.fn (.func gI) [] bI),(2,.fn (.func gH) [] bH),(7,AQ 11 o E),(8,AA i),(9,.ptr m1 0),(11,AQ 6 o2 G),(12,AA a),(13,.ptr m3 0),(14,AA b)]) (λo3=>AS o3 ((Rc (b+1)).1.map AG.h) (h_ (Aq st (Rc (b+1)).2 B1) m3 (some (.cells (h4.j++[AQ 7 o3 ((Rc (b+1)).1.map AG.h)]))))) (λo3 m=>m3+1<=m/\BG (m3+1) m 7 o3 ((Rc (b+1)).1.map AG.h)) ?_ (λo3 m hm=>?_);refine AP ?_;refine Ao 1 [(0,AI l),(1,.fn (.func gI) [] bI),(2,.fn (.func gH) [] bH),(7,AQ 11 o E),(8,AA i),(9,.ptr m1 0),(11,AQ 6 o2 G),(12,AA a),(13,.ptr m3 0),(14,AA b),(15,.q ([AA c.id]++c.H.j++[AI c.W]))] (AS o3 D (h_ (Aq st sc B1) m3 (some (.cells (h4.j++[AQ 7 o3 D]))))) m5 ?_ (λm6 hm6=>?_);simp[go_sem,Or,hYk,halt,hr,qR,hblt,hc,vB,AF.j,AC];refine⟨Ak (Ac (hZb _ _) (IO m5)) (AC _ _ _),AV (hZb _ _) (AV (hZb _ _) AE)⟩;rw[EQ,hSc]at hcst;rcases hh:R.H c.H sc with⟨h5,sc1⟩
               rw[hh]at hcst;dsimp only at hcst;rcases hi5:BK R N c.id c.W sc1 with⟨q5,sc2⟩
               rw[hi5]at hcst;dsimp only at hcst;rw[hcst]at hctop;dsimp only at hctop;have hct1:rk sc1<=top:=by have:=iu c.id c.W sc1;rw[hi5]at this;exact qy this hctop
               obtain⟨B2,hB2⟩:∃B2:Hp,B2=AS o3 D (h_ B1 m3 (some (.cells (h4.j++[AQ 7 o3 D])))):=⟨_,rfl⟩
               have hB2s:∀s,AS o3 D (h_ (Aq st s B1) m3 (some (.cells (h4.j++[AQ 7 o3 D]))))=Aq st s B2:=λs=>by rw[hB2,K.h_ _ _ nN,<-K.acc nN hA3]
               have hch:=C.H c.H sc (Aq st sc B2) m6 c1 (by rw[hh];exact hct1) nN CZ;rw[hh,K.up2]at hch;dsimp only at hch;have hcf:=ih c.id c.W sc1 (Aq st sc1 B2) m6 c2 (by rw[hi5];exact hctop) nN CZ;rw[hi5,K.up2]at hcf;dsimp only at hcf;have hk4:∀s,Aq st s B2 m3=some (.cells (h4.j++[AQ 7 o3 D])):=λs=>by
                rw[<-hB2s];cases o3 with
                | none=>exact AC _ _ _
                | some j=>have:=(hA3.lt j rfl).1;simp only[AS];rw[AB _ _ nN,AC]
               have h46:m3≠m6:=by omega
               have h47:m3≠m6+1:=by omega
               rw[hB2s];rw[hcst];simp only[qc,hCi,qg,vW];obtain⟨out,ho1,ho2,ho3,ho4,ho5,ho6⟩:=F5 (X:=h_ (Aq st sc2 B2) m6 (some (.cells (AG.mk c.id h5 q5).h.cells))) (h:=h_ (Aq st sc2 B1) m3 (some (.cells (h4.j++[AQ 7 o3 D])))) (k:=m6) (p:=m6+1) (t:=169) (t2:=169) (el:=173) (z:=7) (e:=(AG.mk c.id h5 q5).h) nP nP nP nO nP nP nP nN hA3 (AG.E.st _) (AG.E.len _) (AC _ _ _)
                (λj w e=>by
                  have:=hZb sc2 _ j w e;rw[AB _ _ nN,<-hB2s];exact e) (hYb _ _) nN nN
               have hkA:CS.app (h_ (Aq st sc2 B2) m6 (some (.cells (AG.mk c.id h5 q5).h.cells))) (m6+1) out m3=some (.cells (h4.j++[AQ 7 o3 D])):=by
                rw[ho6 m3 h47 (λe=>by have:=(hA3.lt m3 e).1;omega),AB _ _ h46,hk4]
               have fin:=Pe (bn:=some (.cells (h4.j++[AQ 7 (some (m6+1)) (D++[(AG.mk c.id h5 q5).h])]))) (show m6+1≠m3 by omega) ho5;have hce:(AG.mk c.id h5 q5).h.cells=[AA c.id,AU h5.Q,AA h5.I,AA h5.move,Aa h5.Y,AN h5.Z,AI q5]:=by rw[vB];rfl
               have hvv:AQ 7 (some (m6+1)) (D++[(AG.mk c.id h5 q5).h])=.sl (m6+1) 0 7 (D.length+1) false:=by simp[AQ]
               rw[hvv]at fin;simp only[CS.app,hce,AF.j,qB,qK]at hkA fin ho1;refine CJ cK rfl nQ nQ ?_;simp[go_sem,cK,hk4,AF.j];refine⟨?_,?_⟩;refine qI (by simpa[AF.h,AF.j]using hch) ?_;rintro v H' n' ⟨rfl,rfl,rfl⟩;simp[go_sem];refine qI hcf ?_;rintro v H' n' ⟨rfl,rfl,rfl⟩;simp[go_sem];rw[ho1];simp[go_sem,hkA,ho2,ho3];exact⟨some (n'+1),⟨by omega,ho4⟩,by rw[hvv];exact fin⟩;refine qI (by simpa[AF.h,AF.j]using hch) ?_;rintro v H' n' ⟨rfl,rfl,rfl⟩;simp[go_sem,AF.j,hk4];refine⟨?_,?_⟩;refine qI hcf ?_;rintro v H' n' ⟨rfl,rfl,rfl⟩;simp[go_sem];rw[ho1];simp[go_sem,hkA,ho2,ho3];exact⟨some (n'+1),⟨by omega,ho4⟩,by rw[hvv];exact fin⟩;refine qI hcf ?_;rintro v H' n' ⟨rfl,rfl,rfl⟩;simp[go_sem,AF.j,hk4,AB _ _ h46];rw[ho1];simp[go_sem,hkA,ho2,ho3];exact⟨some (n'+1),⟨by omega,ho4⟩,by rw[hvv];exact fin⟩;refine AJ ?_;simp[go_sem,w3,Or,-Int.natCast_add];exact⟨b+1,by omega,o3,⟨by omega,hm.1,hm.2⟩,rfl,AE⟩;have hbe:b=r.cells.length:=by omega
               subst hbe;refine AJ ?_;simp[go_sem,Or,hYk _ _ _ hA3,halt,hr,qR];refine⟨by omega,Pi (Ac (hB1b _) (IO _)) ?_ (Sd hA3 (λj h1 h2=>Ac (hB1b _) nN) λj e=>GN j e),λj w e=>?_⟩;cases o3 with
               | none=>exact AC _ _ _
               | some j=>have:=(hA3.lt j rfl).1;simp only[AS];rw[AB _ _ nN,AC]
               refine D6 (hYb _ _) hA3 _ _ ?_;rw[AB _ _ (by have:=hB1b _ j w e;omega)];exact e
               . generalize Rc r.cells.length=rc at hrst ⊢;obtain⟨q2,sr2⟩:=rc;dsimp only at hrst ⊢;rw[hrst];simp only[qc,hGi,qg,vW];refine AJ ?_;simp[go_sem,AF.j];have hpush:=hA2.push (j:=m5+1) (m':=m5+1+1) (e:=(AM.mk h4 q2).h) (AM.E.st _) (AM.E.len _) nN nN;rw[Hl (es:=G) (e:=(AM.mk h4 q2).h) (o:=o2) (t:=78) (t2:=78) (el:=171) (z:=6) nP nP nP nO nP nP nP nN hA2 (AM.E.len _) ?a1 ?a2]
                 case a1=>simp[AC,qR,SV.cells,AM.H,AM.cells]
                 case a2=>
                  intro j e;have:=(hA2.lt j e).2;rw[AB _ _ nN];exact GN j e
                 have hlive:=Gf (p:=m5+1) (v:=.sl (m5+1) 0 6 (G.length+1) false) (e:=(AM.mk h4 q2).h) (hBb sr2) nN (hA2.mono (m':=m5) nN) (H:=h_ (AS o2 G (Aq st sr2 B)) m5 (some (.cells [AU h4.Q,AA h4.I,AA h4.move,Aa h4.Y,AN h4.Z,Bf q2]))) (AV (m:=m5) (λj z e=>by have:=hBb sr2 j z e;omega) (D6 (hBb sr2) hA2));have hvv:AQ 6 (some (m5+1)) (G++[(AM.mk h4 q2).h])=.sl (m5+1) 0 6 (G.length+1) false:=by simp[AQ]
                 simp[go_sem];exact⟨some (m5+1),⟨by omega,hpush⟩,hvv.symm,by simpa[CS.app,SV.cells,qR,AM.H,AM.cells]using hlive⟩
             refine AJ ?_;simp[go_sem,w2,Or,-Int.natCast_add];exact⟨a+1,by omega,o2,⟨by omega,hm.1,hm.2⟩,⟨Or,Or⟩,AE⟩
           have hae:a=y.R.length:=by omega
           subst hae;refine AJ ?_;simp[go_sem,Or,hGk _ _ hA2];exact⟨by omega,AQ.fz' (λj hj=>Ac (hBb _) hj) hA2 AE,D6 (hBb _) hA2⟩
         . rw[hRrl,<-hBs];generalize Di R (BK R N) y.R s5=r9 at hit3 hst3 ⊢;obtain⟨rr,s6⟩:=r9;dsimp only at hit3 hst3 ⊢;refine Ao 1 [(0,AI l),(1,.fn (.func gI) [] bI),(2,.fn (.func gH) [] bH),(7,AQ 11 o E),(8,AA i),(9,.q [AA y.l,AA y.code,AA y.id,.str y.J,AU y.H.Q,AA y.H.I,AA y.H.move,Aa y.H.Y,AN y.H.Z,AI l5,Ap rr])] (AS o E (Aq st s6 H)) m3 ?_ (λm4 hm4=>?_);simp[go_sem,Or,AC,AZ];exact⟨Ak (Ac (hXb _) (IO m1)) (AC _ _ _),AV (hXb _) AE⟩;refine AJ ?_;simp[go_sem];obtain⟨z,hz⟩:∃z:AD,z=.mk y.l y.code y.id y.J y.H l5 rr:=⟨_,rfl⟩
           have hzc:z.h.cells=[AA y.l,AA y.code,AA y.id,.str y.J,AU y.H.Q,AA y.H.I,AA y.H.move,Aa y.H.Y,AN y.H.Z,AI l5,Ap rr]:=by rw[hz,qz];rfl
           rw[<-hz];have hpush:=hA.push (j:=m4+1) (m':=m4+1+1) (e:=z.h) (AD.E.st _) (AD.E.len _) nN nN;rw[Hl (es:=E) (e:=z.h) (o:=o) (t:=22) (t2:=22) (el:=80) (z:=11) nP nP nP nO nP nP nP nN hA (AD.E.len _) ?a1 ?a2]
           case a1=>rw[AC,hzc]
           case a2=>
            intro j e;have:=(hA.lt j e).2;rw[AB _ _ nN];exact GN j e
           have hlive:=Gf (p:=m4+1) (v:=.sl (m4+1) 0 11 (E.length+1) false) (e:=z.h) (hUb s6) nN (hA.mono (m':=m4) nN) (H:=h_ (AS o E (Aq st s6 H)) m4 (some (.cells [AA y.l,AA y.code,AA y.id,.str y.J,AU y.H.Q,AA y.H.I,AA y.H.move,Aa y.H.Y,AN y.H.Z,AI l5,Ap rr]))) (AV (m:=m4) (λj z e=>by have:=hUb s6 j z e;omega) (D6 (hUb s6) hA));have hvv:AQ 11 (some (m4+1)) (E++[z.h])=.sl (m4+1) 0 11 (E.length+1) false:=by simp[AQ]
           rw[hzc]at hlive;rw[hzc];simp[go_sem];exact⟨some (m4+1),⟨by omega,hpush⟩,hvv.symm,by simpa[CS.app]using hlive⟩
      refine AJ ?_;simp[go_sem,w1,Or,-Int.natCast_add];exact⟨i+1,by omega,o,⟨by omega,hm.1,hm.2⟩,⟨Or,Or⟩,AE⟩
    have hie:i=l.length:=by omega
    subst hie;refine AJ ?_;simp[go_sem];exact⟨o,⟨hm1,hA⟩,rfl,AE⟩
  refine AJ ?_;simp[go_sem];rw[hQl]at hm ⊢;exact Rq (hU _) hm.2 (λe he=>by obtain⟨x,_,rfl⟩:=qb.1 he;exact AD.cl n x)
end
theorem w85(x:AD):PC 85 [x.h] (.tup [x.h,.bool true]):=by
 intro h n;refine gq func85 rfl λa=>?_;rw[qz];simp[go_sem,AC,AZ,AB];exact Bq a (λj y=>by have:=a j y;simp only[h_];grind) rfl (by simp[C_,c_,AD.E.c_,AM.E.c_,Fd.E.c_,Dx.E.c_,BC.E.c_])
abbrev Mt(R:List Int):={ s:List (List Int) // s.length=R.length }
theorem J3(R:List Int):∀(l:List (Int×Int))(s:List (List Int)),(l.foldl (BA R) s).length=s.length
 | [],_=>rfl
 | p::l,s=>by rw[qH,J3 R l,HF]
def jZ(R:List Int)(s:Mt R)(h:AF):Mt R:=⟨h.mvs.foldl (BA R) s.1,by rw[J3];exact s.2⟩
theorem aw{p5 jm n0:Nat}{R:List Int}{s:List (List Int)}(b:jm<n0):∀o y,If p5 jm R s o=some y->Ay n0 y=true:=λo y h=>by
 simp only[If]at h;split at h;cases h;split at h;cases h;simpa[Ay,c_,C_]using b;split at h;cases h;simp only[Ay]
 induction s with
 | nil=>rfl
 | cons a L ih=>
  rw[qg,c_,ih,Bool.and_true];unfold EY;split;rfl;exact FC n0 a
 cases h
theorem mL{p5 jm n0 K:Nat}(R:List Int)(b:R.length<=1048576)(h5:p5<n0)(e:jm<n0)(a:jm≠p5)(hK:K<=1048576):
 Zb (λs:Mt R=>If p5 jm R s.1) n0 113 86 85 [] [.q [Bl R],.ptr p5 0] [] (HL (jZ R)) (lim AF.D K) (OW AF.D K) AF.D (λs=>ML s.1) 1048576 where
 up:=⟨λ_ _ _=>IO _,λx s=>K9 R x.mvs s.1,λ_ _=>IO _⟩
 lt s o h:=by
  simp only[If];split;rfl;rw[nR nN,nR nN]
 dom s s' o h:=by
  simp only[If]at h ⊢;split at h;simp_all;split at h;cases h;split at h;cases h;simp_all
 cl s o y h:=aw e o y h
 zero l h:=h
 W N id l s H n hl ht hn hs:=by
  refine wn (bD id l H n) ?_;rintro v h' n' ⟨rfl,rfl,rfl⟩;exact⟨rfl,(Cs s _ hs).symm,rfl⟩
 H x s H n hx ht hn hs:=by
  refine wn (w86 x hx R b s.1 s.2 ht a (H:=H) (n:=n) nN nN hs) ?_;rintro v h' n' ⟨rfl,rfl,rfl⟩;exact⟨rfl,rfl,rfl⟩
 item N x s H n _ ht hn hs:=by
  refine wn (w85 x H n) ?_;rintro v h' n' ⟨rfl,rfl,rfl⟩;exact⟨rfl,(Cs s _ hs).symm,rfl⟩
 flow_ok N id l s hl:=⟨by have:=(CX.1 hl).1;simp only[HL];omega,(CX.1 hl).2.2⟩
 item_ok N x s hx _:=⟨hx.1,λ_=>hx.2.1,λ_=>⟨by have:=hx.2.2.1;simp only[HL];omega,λr hr=>⟨(hx.2.2.2 r hr).1,by have:=(hx.2.2.2 r hr).2.1;omega,λc d=>(hx.2.2.2 r hr).2.2 c d⟩⟩⟩
theorem w89(R:List Int)(o:R.length<=1048576)(M:List (List Int))(hM:M.length=R.length)(hm:∀l∈M,l.length<=1048576)(r m:Int){z:Nat}{f:Bool}(s:M=[]\/z=1):
 PC 89 [AA r,AA m,.q [Bl R],.q [.x z (M.map EY) f]] (AA (Ch R M r m)):=by
 intro h n;refine gq func89 rfl λi=>?_;simp[go_sem];refine(fW R 1 false (.inr rfl) o r).use ?_;have hge:=EW R r;by_cases h0:Am R r=0;have:Ch R M r m=0:=by unfold Ch;rw[nR (by simp[h0])]
 rw[this,h0];simp[go_sem];exact An i rfl rfl;obtain⟨k,hk⟩:∃k:Nat,Am R r=(k:Int)+1:=⟨(Am R r-1).toNat,by omega⟩
 have a:k<M.length:=by omega
 have g:z=1:=s.elim (λe=>by rw[e]at a;cases a) id;subst g;have b:(0:Int)<(k:Int)+1:=by omega
 have t:IntKind.i64.wrap (k:Int)=(k:Int):=by rw[D5]<;>omega
 have c:(k:Int)<M.length:=by omega
 obtain⟨u,j,e,d⟩:=Uu M[k];have p:Ch R M r m=Am M[k] m:=by
  unfold Ch;rw[nS h0];congr 1;unfold Gu;rw[show(Am R r-1).toNat=k by omega,qm a];rfl
 rw[p,hk];simp[go_sem,b,t,a,e];refine(fW M[k] u j d (hm _ (qp a)) m).use ?_;simp[go_sem];exact An i rfl rfl
section
variable{E:BU}{P:Program}{N:Nat}{code:Code}{Q:Ca}{sa:SA}{h h2:Hp}{n:Nat}
theorem Ts(k p:Nat)(u f:List SV)(s:∀o x,h2 o=some x->h o=some x)(hp:h2 p=some (.cells u))(hw:AT (Fz h h2 k) u f)(H:Fc E P N code Q sa (h_ h2 p (some (.cells f))) n):Fc E P N code Q sa h n:=by
 refine Hi (IO n) (λc R F=>?_) H;have t:=R.less s;have d:∀o m b,h_ h2 p (some (.cells f)) o=some m->∃x,h2 o=some x/\(Ar (c.less h2) o x b↔Ar (c.less h2) o m b):=λo m b e=>by
  by_cases q:o=p;subst q;simp only[h_,if_true]at e;cases e;exact⟨_,hp,by simp[Ar,A7.lst]⟩;simp only[h_,nR q]at e;exact⟨m,e,Iff.rfl⟩
 refine⟨c.less h2,rfl,DE R s,⟨λo x e=>?_,λo v x m b z A i l=>?_,λb=>?_⟩,λj C=>F j C,λ_ _=>rfl⟩;by_cases q:o=p;subst q;simp only[h_,if_true]at e;cases e;obtain⟨b,st,arr,e,vs,a1,a2,a3,a4,a5,w⟩:=R.obj o _ (s _ _ hp);exact⟨b,st,arr,e,vs,a1,a2,a3,ud (R:=V c) (S:=Fz h h2 k) (T:=V (c.less h2)) (λa b g g1 r=>Fz.sound R s k r g1) a4 hw,a5,w⟩;simp only[h_,nR q]at e;exact t.obj o x e;obtain⟨y,g1,r⟩:=d o x b z;obtain⟨D,g3,B⟩:=d v m b A;exact t.inj2 o v y D b g1 g3 (r.2 i) (B.2 l);rw[t.own2];constructor;rintro⟨o,x,i,l⟩;by_cases q:o=p;subst q;rw[hp]at i;cases i;exact⟨o,.cells f,by simp[h_],by simpa[Ar,A7.lst]using l⟩;exact⟨o,x,by simp only[h_,nR q];exact i,l⟩;rintro⟨o,x,i,l⟩;obtain⟨y,g1,r⟩:=d o x b i;exact⟨o,y,g1,r.2 l⟩
end
theorem Kb{B:Hp}{q m z:Nat}{C:SV->List SV}{es:List SV}{e:SV}{o:Option Nat}{t t2 el:TypeId}(ht:Ax prog t=some el)(A:(Ax prog t2).isSome=true)(J:Bd prog el=z)(D:z≠0)(x:(BO prog el).B=true)(E:(BO prog el).cells.length=z)
 (hb:Ce prog el<=65536) (a:es.length+1<=1073741824) (f:BG (q+1) m z o es) (I:e.B=true) (H:e.cells.length=z) (G:∀j y,B j=some y->j<q+1) (hqm:q<m) (d:HE el=none:=by rfl):
 AS o es (h_ B q (some (.cells (C (AQ z o es))))) q=some (.cells (C (AQ z o es)))/\∃out,Af prog (h_ (AS o es (h_ B q (some (.cells (C (AQ z o es)))))) m (some (.cells e.cells))) (m+1) .append [t,t2] [AQ z o es,.sl m 0 z 1 true]=some out/\out.val=.sl (m+1) 0 z (es.length+1) false/\out.new.isSome=true/\
  BG (q+1) (m+2) z (some (m+1)) (es++[e])/\CS.app (h_ (AS o es (h_ B q (some (.cells (C (AQ z o es)))))) m (some (.cells e.cells))) (m+1) out q=some (.cells (C (AQ z o es)))/\
  ∀j y,AS (some (m+1)) (es++[e]) (h_ B q (some (.cells (C (.sl (m+1) 0 z (es.length+1) false))))) j=some y->h_ (CS.app (h_ (AS o es (h_ B q (some (.cells (C (AQ z o es)))))) m (some (.cells e.cells))) (m+1) out) q (some (.cells (C (.sl (m+1) 0 z (es.length+1) false)))) j=some y:=by
 have b:∀v j y,h_ B q v j=some y->j<q+1:=λv j y e=>by
  by_cases F:j=q;omega;rw[AB _ _ F]at e;exact G j y e
 have c:∀v,AS o es (h_ B q (some (.cells v))) q=some (.cells v):=λv=>by
  cases o with
  | none=>exact AC _ _ _
  | some j=>have:=(f.lt j rfl).1;simp only[AS];rw[AB _ _ nN];exact AC _ _ _
 obtain⟨out,i,l,n,r,s,u⟩:=F5 (X:=h_ (AS o es (h_ B q (some (.cells (C (AQ z o es)))))) m (some (.cells e.cells))) (h:=h_ B q (some (.cells (C (AQ z o es))))) (k:=m) (p:=m+1) (t:=t) (t2:=t2) (el:=el) (z:=z) (e:=e) ht A J D x E hb a f I H (AC _ _ _)
  (λj w g=>by rw[AB _ _ (by have:=EH (b _) nN f j w g;omega)];exact g) (b _) nN nN d
 refine⟨c _,out,i,l,n,r,?_,Pe nN s⟩;rw[u q nN (λg=>by have:=(f.lt q g).1;omega),AB _ _ nN,c]
def cI:Og:=(.pure 0 (.pure 1 (.pure 2 (.pure 4 (.pure 5 (.pure 6 (.pure 7 (.pure 8 (.two 3 11 (.two 9 11 (.two 10 11 (.one 11 (.one 12 .nil)) (.one 10 (.one 12 .nil))) (.one 9 (.one 10 (.one 12 .nil)))) (.one 3 (.one 9 (.one 10 (.one 12 .nil)))))))))))))
def cJ:Og:=(.pure 0 (.pure 2 (.pure 3 (.pure 4 (.pure 5 (.pure 6 (.pure 7 (.pure 8 (.pure 10 (.pure 11 (.pure 12 (.pure 13 (.pure 14 (.pure 15 (.pure 16 (.pure 17 (.pure 18 (.pure 19 (.pure 20 (.pure 21 (.pure 22 (.two 1 9 (.one 9 (.one 23 (.one 24 (.one 25 (.one 26 (.pure 27 (.one 28 .nil))))))) (.two 1 23 (.one 23 (.one 24 (.one 25 (.one 26 (.pure 27 (.one 28 .nil)))))) (.two 1 24 (.one 24 (.one 25 (.one 26 (.pure 27 (.one 28 .nil))))) (.two 1 25 (.one 25 (.one 26 (.pure 27 (.one 28 .nil)))) (.one 1 (.one 26 (.pure 27 (.one 28 .nil)))))))))))))))))))))))))))))
def Kf(R:List Int)(M:List (List Int))(h:AF):AF:=
 { h with I:=Am R h.I,move:=Ch R M h.I h.move,Y:=h.Y.map λd=>{ d with rev:=Am R d.rev,move:=Ch R M d.rev d.move },Z:=h.Z.map λl=>{ l with rev:=Am R l.rev } }
theorem w90(x:AF)(hs:x.D)(R:List Int)(hR:R.length<=1048576)(M:List (List Int))(hM:M.length=R.length)(hm:∀l∈M,l.length<=1048576){z:Nat}{f:Bool}(hz:M=[]\/z=1):
 PC 90 [x.h,.q [Bl R],.q [.fn (.func 89) [] [.q [Bl R],.q [.x z (M.map EY) f]]]] (Kf R M x).h:=by
 intro h n;refine E8 func90 rfl λho=>?_;have V:=ho.lt;have h89:=λr m=>w89 R hR M hM hm r m (f:=f) hz;have U:=fW R 1 false (.inr rfl) hR;obtain⟨fn,W⟩:∃fn:SV,fn=.fn (.func 89) [] [.q [Bl R],.q [.x z (M.map EY) f]]:=⟨_,rfl⟩
 rw[<-W];obtain⟨B,hB⟩:∃B:Hp,B=h_ h (n+1) (some (.cells RK)):=⟨_,rfl⟩
 have Bb:∀j y,B j=some y->j<n+2:=λj y e=>by
  by_cases e1:j=n+1;omega;rw[hB,AB _ _ e1]at e;have:=V j y e;omega
 have Bn:B (n+1)=some (.cells RK):=by rw[hB,AC]
 refine A6 2 [(1,.q [Bl R]),(2,.q [fn]),(3,.q x.j),(4,.ptr (n+1) 0)] B (λm=>m=n+2) ?_ (λm hm=>?_);rw[hB];simp[go_sem,AF.h,Or];refine⟨Ak (by rw[AB _ _ nN];exact ho.none (IO n)) (by simp[h_]),λj y e=>?_⟩;have h1:=V j y;simp only[h_]at e ⊢;grind;subst hm;refine A6 2 [(1,.q [Bl R]),(2,.q [fn]),(3,.q x.j),(4,.ptr (n+1) 0),(5,.q [AA x.I,AA x.move,Aa x.Y,AN x.Z])] B (λm=>m=n+3) ?_ (λm hm=>?_);simp[go_sem,AF.j,Or,AZ,AC];exact⟨Ak (Ac Bb (IO _)) (AC _ _ _),λj y e=>by have:=Bb j y e;rw[AB _ _ nN];exact e⟩;subst hm;obtain⟨p,hi0⟩:∃p,p=Am R x.I:=⟨_,rfl⟩
 obtain⟨v0,hv0⟩:∃v0,v0=Ch R M x.I x.move:=⟨_,rfl⟩
 refine AR 0 (α:=Unit) (λ_=>[(1,.q [Bl R]),(2,.q [fn]),(3,.q x.j),(4,.ptr (n+1) 0),(5,.q [AA x.I,AA x.move,Aa x.Y,AN x.Z]),(6,.ptr (n+3) 0)]) (λ_=>h_ B (n+3) (some (.cells [AA p,AA v0,.x 0 [] true,.x 0 [] true]))) (λ_ m=>m=n+4) (Il cI rfl nQ nQ ?_) (λ_ m hm=>?_)
 . rw[hi0,hv0,W];simp[go_sem,cI]
   repeat' (with_reducible refine And.intro ?_ ?_)
   all_goals
    refine qO (U x.I) ?_;simp[go_sem]
    repeat' (with_reducible refine And.intro ?_ ?_)
    all_goals
     refine qO (h89 x.I x.move) ?_;simp[go_sem,Or,AZ,AC]
     done
 subst hm;have hsd:=hs.Y;have hsl:=hs.Z;obtain⟨S,hgd⟩:∃S:Dx->Dx,S=λd=>{ d with rev:=Am R d.rev,move:=Ch R M d.rev d.move }:=⟨_,rfl⟩
 obtain⟨T,hgl⟩:∃T:BC->BC,T=λl=>{ l with rev:=Am R l.rev }:=⟨_,rfl⟩
 have Bb4:∀j y,B j=some y->j<n+3+1:=λj y e=>by have:=Bb j y e;omega
 obtain⟨E,u⟩:∃E:Nat->List SV,∀i,E i=((x.Y.take i).map S).map Dx.h:=⟨_,λ_=>rfl⟩
 obtain⟨Y,P⟩:∃Y:Nat->Option Nat->Hp,∀i o,Y i o=AS o (E i) (h_ B (n+3) (some (.cells [AA p,AA v0,AQ 2 o (E i),.x 0 [] true]))):=⟨_,λ_ _=>rfl⟩
 refine AR 0 (α:=Option Nat) (λ_=>[(1,.q [Bl R]),(2,.q [fn]),(3,.q x.j),(4,.ptr (n+1) 0),(5,.q [AA x.I,AA x.move,Aa x.Y,AN x.Z]),(6,.ptr (n+3) 0)]) (λo=>Y x.Y.length o) (λo m=>n+4<=m/\BG (n+4) m 2 o (E x.Y.length)) ?_ (λo m hm=>?_)
 . refine A6 0 [(1,.q [Bl R]),(2,.q [fn]),(3,.q x.j),(4,.ptr (n+1) 0),(5,.q [AA x.I,AA x.move,Aa x.Y,AN x.Z]),(6,.ptr (n+3) 0),(7,AA 0)] (Y 0 none) (λm=>n+4=m) ?_ (λm hm=>?_);rw[P,u];simp[go_sem,Or,AS,AQ];subst hm;refine AP (As 0 (α:=Nat×Option Nat) (λa=>[(1,.q [Bl R]),(2,.q [fn]),(3,.q x.j),(4,.ptr (n+1) 0),(5,.q [AA x.I,AA x.move,Aa x.Y,AN x.Z]),(6,.ptr (n+3) 0),(7,AA a.1)]) (λa=>Y a.1 a.2) (λa m=>a.1<=x.Y.length/\n+4<=m/\BG (n+4) m 2 a.2 (E a.1)) (λa=>x.Y.length-a.1) (0,none) ⟨qi _,IO _,by rw[u];exact wF _ _ _⟩ ?_ AE ?_);simp[go_sem,look,Or];rintro⟨i,o⟩ m ⟨hi,k,c⟩;dsimp only at hi k c ⊢;by_cases s:i<x.Y.length
   . have w1:=wS i nN;have J:(i:Int)<x.Y.length:=by omega
     obtain⟨d,hd⟩:∃d,x.Y[i]=d:=⟨_,rfl⟩
     have F:E (i+1)=E i++[(S d).h]:=by
      rw[u,u,qa s,hd];simp
     have H:(E i).length=i:=by rw[u];simp;omega
     refine Ai 0 [(1,.q [Bl R]),(2,.q [fn]),(3,.q x.j),(4,.ptr (n+1) 0),(5,.q [AA x.I,AA x.move,Aa x.Y,AN x.Z]),(6,.ptr (n+3) 0),(7,AA i)] (Y i o) m ?_ (λm' b=>?_);simp[go_sem,Or,s];subst b;refine AR 0 (α:=Option Nat) (λ_=>[(1,.q [Bl R]),(2,.q [fn]),(3,.q x.j),(4,.ptr (n+1) 0),(5,.q [AA x.I,AA x.move,Aa x.Y,AN x.Z]),(6,.ptr (n+3) 0),(7,AA i)]) (λO=>Y (i+1) O) (λO m'=>n+4<=m'/\BG (n+4) m' 2 O (E (i+1))) (AP ?_) (λO m' b=>?_)
     . rw[P];obtain⟨e,g⟩:∃e,e=(S d).h:=⟨_,rfl⟩
       rw[<-g]at F;simp only[P,F];generalize E i=es at c H ⊢;obtain⟨hq,out,K,ho2,ho3,ho4,N,fin⟩:=Kb (B:=B) (q:=n+3) (m:=m) (C:=λv=>[AA p,AA v0,v,.x 0 [] true]) (t:=24) (t2:=24) (el:=74) (z:=2) (es:=es) (e:=e) (o:=o) nP nP nP nO nP nP nP nN c (by rw[g];rfl) (by rw[g];rfl) Bb4 nN;have hvv:AQ 2 (some (m+1)) (es++[e])=.sl (m+1) 0 2 (es.length+1) false:=by simp[AQ]
       have X:e.cells=[AA (Am R d.rev),AA (Ch R M d.rev d.move)]:=by rw[g,hgd];rfl
       simp only[CS.app,X]at K N fin;rw[W];refine Il cJ rfl nQ nQ ?_;have hnq:n+3≠m:=by omega
       have hq2:∀w,h_ (AS o es (h_ B (n+3) (some (.cells [AA p,AA v0,AQ 2 o es,.x 0 [] true])))) m w (n+3)=some (.cells [AA p,AA v0,AQ 2 o es,.x 0 [] true]):=λw=>by rw[AB _ _ hnq];exact hq
       simp[go_sem,cJ,s,hd,Dx.h,hq]
       repeat' (with_reducible refine And.intro ?_ ?_)
       all_goals refine qO (U d.rev) ?_
       all_goals simp[go_sem,hq]
       all_goals repeat' (with_reducible refine And.intro ?_ ?_)
       all_goals refine qO (h89 d.rev d.move) ?_
       all_goals simp[go_sem,hq,hq2]
       all_goals repeat' (with_reducible refine And.intro ?_ ?_)
       all_goals rw[K]
       all_goals simp[go_sem,ho2,ho3,N]
       all_goals exact⟨some (m+1),⟨by omega,ho4⟩,by rw[hvv];exact fin⟩
     refine AJ ?_;simp[go_sem,w1,Or,-Int.natCast_add];exact⟨i+1,by omega,O,⟨by omega,b.1,b.2⟩,Or,AE⟩
   have hie:i=x.Y.length:=by omega
   subst hie;refine AJ ?_;simp[go_sem,Or];exact⟨o,⟨k,c⟩,AE⟩
 obtain⟨k,c⟩:=hm;have hED:E x.Y.length=(x.Y.map S).map Dx.h:=by rw[u,qn]
 rw[P];rw[hED]at c ⊢;obtain⟨D,hD⟩:∃D:List SV,D=(x.Y.map S).map Dx.h:=⟨_,rfl⟩
 rw[<-hD]at c ⊢;have hq0:∀v,(h_ B (n+3) v)=(λj=>if j=n+3 then v else B j):=λv=>rfl;have G:∀v j y,h_ B (n+3) v j=some y->j<n+4:=λv j y e=>by
  by_cases e1:j=n+3;omega;rw[AB _ _ e1]at e;have:=Bb j y e;omega
 refine Ts 1 (n+3) [AA p,AA v0,AQ 2 o D,.x 0 [] true] [AA p,AA v0,.x 2 D false,.x 0 [] true] (h2:=h_ B (n+3) (some (.cells [AA p,AA v0,AQ 2 o D,.x 0 [] true]))) (D6 (G _) c) (AC _ _ _)
  ⟨Or,Or,AQ.fz' (λj hj=>Ac (G _) hj) c AE,Or,trivial⟩ ?_
 rw[AZ];clear P Y u c;obtain⟨A,u⟩:∃A:Nat->List SV,∀i,A i=((x.Z.take i).map T).map BC.h:=⟨_,λ_=>rfl⟩
 obtain⟨Y,P⟩:∃Y:Nat->Option Nat->Hp,∀i o,Y i o=AS o (A i) (h_ B (n+3) (some (.cells [AA p,AA v0,.x 2 D false,AQ 4 o (A i)]))):=⟨_,λ_ _=>rfl⟩
 refine AR 0 (α:=Option Nat) (λ_=>[(1,.q [Bl R]),(2,.q [fn]),(3,.q x.j),(4,.ptr (n+1) 0),(5,.q [AA x.I,AA x.move,Aa x.Y,AN x.Z]),(6,.ptr (n+3) 0)]) (λo=>Y x.Z.length o) (λo m=>n+4<=m/\BG (n+4) m 4 o (A x.Z.length)) ?_ (λo m hm=>?_);refine Ai 0 [(1,.q [Bl R]),(2,.q [fn]),(3,.q x.j),(4,.ptr (n+1) 0),(5,.q [AA x.I,AA x.move,Aa x.Y,AN x.Z]),(6,.ptr (n+3) 0),(8,AA 0)] (Y 0 none) m ?_ (λm' hm=>?_);rw[P,u];simp[go_sem,Or,AS,AQ];subst hm;refine AP (As 0 (α:=Nat×Option Nat) (λa=>[(1,.q [Bl R]),(2,.q [fn]),(3,.q x.j),(4,.ptr (n+1) 0),(5,.q [AA x.I,AA x.move,Aa x.Y,AN x.Z]),(6,.ptr (n+3) 0),(8,AA a.1)]) (λa=>Y a.1 a.2) (λa m=>a.1<=x.Z.length/\n+4<=m/\BG (n+4) m 4 a.2 (A a.1)) (λa=>x.Z.length-a.1) (0,none) ⟨qi _,k,by rw[u];exact wF _ _ _⟩ ?_ AE ?_);simp[go_sem,look,Or];clear k m;rintro⟨i,o⟩ m ⟨hi,k,c⟩;dsimp only at hi k c ⊢;by_cases s:i<x.Z.length;have w1:=wS i nN;have J:(i:Int)<x.Z.length:=by omega
 obtain⟨d,hd⟩:∃d,x.Z[i]=d:=⟨_,rfl⟩
 have F:A (i+1)=A i++[(T d).h]:=by
  rw[u,u,qa s,hd];simp
 have H:(A i).length=i:=by rw[u];simp;omega
 refine Ai 0 [(1,.q [Bl R]),(2,.q [fn]),(3,.q x.j),(4,.ptr (n+1) 0),(5,.q [AA x.I,AA x.move,Aa x.Y,AN x.Z]),(6,.ptr (n+3) 0),(8,AA i)] (Y i o) m ?_ (λm' b=>?_);simp[go_sem,Or,s];subst b;refine AR 0 (α:=Option Nat) (λ_=>[(1,.q [Bl R]),(2,.q [fn]),(3,.q x.j),(4,.ptr (n+1) 0),(5,.q [AA x.I,AA x.move,Aa x.Y,AN x.Z]),(6,.ptr (n+3) 0),(8,AA i)]) (λO=>Y (i+1) O) (λO m'=>n+4<=m'/\BG (n+4) m' 4 O (A (i+1))) (AP ?_) (λO m' b=>?_);rw[P];obtain⟨e,g⟩:∃e,e=(T d).h:=⟨_,rfl⟩
 rw[<-g]at F;simp only[P,F];generalize A i=es at c H ⊢;have X:e.cells=[AA (Am R d.rev),AA d.key,AA d.before,.bool d.had]:=by rw[g,hgl];rfl
 have hac:∀v j y,AS o es (h_ B (n+3) v) j=some y->j<m:=λv=>EH (G v) k c;refine A6 0 [(1,.q [Bl R]),(2,.q [fn]),(3,.q x.j),(4,.ptr (n+1) 0),(5,.q [AA x.I,AA x.move,Aa x.Y,AN x.Z]),(6,.ptr (n+3) 0),(8,AA i),(9,.ptr m 0)] (h_ (AS o es (h_ B (n+3) (some (.cells [AA p,AA v0,.x 2 D false,AQ 4 o es])))) m (some (.cells [AA d.rev,AA d.key,AA d.before,.bool d.had]))) (λm'=>m+1=m') ?_ (λm' b=>?_);simp[go_sem,Or,s,hd,BC.h,AZ,AC];subst b;refine A6 1 [(1,.q [Bl R]),(2,.q [fn]),(3,.q x.j),(4,.ptr (n+1) 0),(5,.q [AA x.I,AA x.move,Aa x.Y,AN x.Z]),(6,.ptr (n+3) 0),(8,AA i),(9,.q [AA (Am R d.rev),AA d.key,AA d.before,.bool d.had])] (AS o es (h_ B (n+3) (some (.cells [AA p,AA v0,.x 2 D false,AQ 4 o es])))) (λm'=>m+1=m') ?_ (λm' b=>?_);simp[go_sem,AC];refine qO (U d.rev) ?_;simp[go_sem,Or,AZ,AC];exact⟨Ak (Ac (hac _) (IO _)) (AC _ _ _),λj y q=>by have:=hac _ j y q;rw[AB _ _ nN];exact q⟩;subst b;obtain⟨hq,out,K,ho2,ho3,ho4,N,fin⟩:=Kb (B:=B) (q:=n+3) (m:=m+1) (C:=λv=>[AA p,AA v0,.x 2 D false,v]) (t:=25) (t2:=25) (el:=76) (z:=4) (es:=es) (e:=e) (o:=o) nP nP nP nO nP nP nP nN (c.mono nN) (by rw[g];rfl) (by rw[g];rfl) Bb4 nN;have hvv:AQ 4 (some (m+1+1)) (es++[e])=.sl (m+1+1) 0 4 (es.length+1) false:=by simp[AQ]
 simp only[CS.app,X]at K N fin;refine AJ ?_;simp[go_sem,hq];rw[K];simp[go_sem,ho2,ho3,N];exact⟨some (m+1+1),⟨by omega,ho4⟩,by rw[hvv];exact fin⟩;refine AJ ?_;simp[go_sem,w1,Or,-Int.natCast_add];exact⟨i+1,by omega,O,⟨by omega,b.1,b.2⟩,Or,AE⟩;have hie:i=x.Z.length:=by omega
 subst hie;refine AJ ?_;simp[go_sem,Or];exact⟨o,⟨k,c⟩,AE⟩;obtain⟨hnm2,c⟩:=hm;have hEL:A x.Z.length=(x.Z.map T).map BC.h:=by rw[u,qn]
 rw[P];rw[hEL]at c ⊢;obtain⟨L,hL⟩:∃L:List SV,L=(x.Z.map T).map BC.h:=⟨_,rfl⟩
 rw[<-hL]at c ⊢;refine Ts 1 (n+3) [AA p,AA v0,.x 2 D false,AQ 4 o L] [AA p,AA v0,.x 2 D false,.x 4 L false] (h2:=h_ B (n+3) (some (.cells [AA p,AA v0,.x 2 D false,AQ 4 o L]))) (D6 (G _) c) (AC _ _ _)
  ⟨Or,Or,Or,AQ.fz' (λj hj=>Ac (G _) hj) c AE,trivial⟩ ?_
 rw[AZ];have hen:(Kf R M x).h=.agg [AU x.Q,AA p,AA v0,.x 2 D false,.x 4 L false]:=by
  rw[hD,hL,hi0,hv0,hgd,hgl];rfl
 rw[hen];have hBn:h_ B (n+3) (some (.cells [AA p,AA v0,.x 2 D false,.x 4 L false])) (n+1)=some (.cells RK):=by rw[AB _ _ nN];exact Bn
 have hcl:C_ n (Kf R M x).h=true:=by simp[AF.h,AF.j,C_,c_,Fd.E.c_,Dx.E.c_,BC.E.c_]
 rw[hen]at hcl;refine AJ ?_;simp[go_sem,AF.j,AC,hBn];exact K8 ho hcl λj y q=>by
  have:=V j y q;rw[AB _ _ nN,AB _ _ nN,hB,AB _ _ nN];exact q
def jx(l:List Int)(k m:Nat)(H0:Hp)(x:Int)(v:SV)(h':Hp)(n':Nat):Prop:=
 ∃o',v=.tup [AA (Am (B8 l x) x),AQ 1 o' ((B8 l x).map AA)]/\m<=n'/\BG k n' 1 o' ((B8 l x).map AA)/\∀j y,AS o' ((B8 l x).map AA) H0 j=some y->h' j=some y
theorem w92(l:List Int)(hl:l.length<=1048576)(x:Int){H0:Hp}{o:Option Nat}{k m:Nat}(f:BG k m 1 o (l.map AA))(hb:∀j y,H0 j=some y->j<k)(M:k<=m):
 BF prog 92 [AQ 1 o (l.map AA),AA x] (AS o (l.map AA) H0) m (jx l k m H0 x):=by
 refine E8 func92 rfl λho=>?_;obtain⟨V,h⟩:∃V,V=AQ 1 o (l.map AA):=⟨_,rfl⟩
 obtain⟨G,w⟩:∃G,G=AS o (l.map AA) H0:=⟨_,rfl⟩
 have hGb:∀j y,G j=some y->j<m:=λj y e=>(by rw[w]at e;exact EH hb M f j y e)
 rw[<-h,<-w];refine Ai 0 [(0,V),(1,AA x)] G m ?_ (λm' hm=>?_);simp[go_sem,Or];subst hm;refine Bz 0 [(0,V),(1,AA x)] G (λm'=>m=m'/\x∉l) ?_ (λm' hm=>?_)
 . refine Ai 0 [(0,V),(1,AA x),(6,AA 0)] G m ?_ (λm' hm=>?_);simp[go_sem,Or];subst hm;refine AP (As 0 (α:=Nat) (λi=>[(0,V),(1,AA x),(6,AA i)]) (λ_=>G) (λi m'=>m=m'/\i<=l.length/\∀j (C:j<i) (E:j<l.length),l[j]≠x) (λi=>l.length-i) 0 ⟨rfl,qi _,λj q _=>absurd q nN⟩ (by simp[look,Or]) AE ?_);rintro i m' ⟨rfl,hi,t⟩;by_cases c:i<l.length;have K:=wS i nN;have r:(i:Int)<l.length:=by omega
   have F:∃j,o=some j:=by
    cases o with
    | none=>have:=f.none rfl;rw[vV]at this;rw[this]at c;cases c
    | some j=>exact⟨j,rfl⟩
   obtain⟨j,rfl⟩:=F;have C:G j=some (.cells (l.map AA)):=by rw[w];simp only[AS];rw[AC,FF]
   have b:V=.sl j 0 1 l.length false:=by rw[h];simp[AQ]
   have B:i+1<=l.length:=c;have A:(l.map AA).drop i=AA l[i]::(l.map AA).drop (i+1):=by rw[qG (by rw[qj];exact c),List.getElem_map]
   by_cases e:l[i]=x;have I:x∈l:=e▸qp c;have a:B8 l x=l:=by unfold B8;rw[nS I]
   have s:Am l x=((i+1:Nat):Int):=by rw[Oz c (λj C=>t j C nN) e];push_cast;rfl
   have z:jx l k m H0 x (.tup [AA ((i+1:Nat):Int),V]) G m:=⟨some j,by rw[a,s,h],IO _,by rw[a];exact f,by rw[a,w];exact AE⟩
   refine AJ ?_;rw[b]at z ⊢;simp[go_sem,r,C,B,A,e,K,-Int.natCast_add];exact .inl z;refine AJ ?_;rw[b];simp[go_sem,r,C,B,A,e,K,Or,-Int.natCast_add];exact⟨i+1,by omega,⟨by omega,λJ q E=>by
    by_cases O:J=i;subst O;exact e;exact t J nN E⟩,Or⟩
   . have L:i=l.length:=by omega
     subst L;refine AJ ?_;cases o with
     | none=>
      have h0:=f.none rfl;rw[vV]at h0;subst h0;have b:V=.x 0 [] true:=by rw[h];rfl
      rw[b];simp[go_sem]
      done
     | some j =>
      have b:V=.sl j 0 1 l.length false:=by rw[h];simp[AQ]
      rw[b];simp[go_sem];exact λg=>by
       obtain⟨J,D,q⟩:=List.mem_iff_getElem.1 g;exact t J D D q
 obtain⟨rfl,I⟩:=hm;have a:B8 l x=l++[x]:=by unfold B8;rw[nR I]
 have s:Am (l++[x]) x=((l.length+1:Nat):Int):=by rw[Eu,nR I,nS nO];simp[Am]
 have K:IntKind.i64.wrap ((l.length:Int)+1)=((l.length+1:Nat):Int):=by rw[D5]<;>omega
 have d:=T5 (H:=h_ G m (some (.cells [AA x]))) (n:=k) (m:=m) (k:=m) (p:=m+1) (es:=l) (x:=x) (o:=o) f nN (AC _ _ _) (λj e=>by
  subst e;have:=(f.lt j rfl).2;rw[AB _ _ nN,w];simp only[AS];rw[AC,FF])
 rw[<-h]at d;have N:=Gf (p:=m+1) (v:=.sl (m+1) 0 1 (l.length+1) false) (e:=AA x) (H:=h_ G m (some (.cells [AA x]))) hb nN f (λj y q=>by
  have:=hb j y q;rw[AB _ _ nN,w];exact D6 hb f j y q)
 have u:=f.push (j:=m+1) (m':=m+2) (e:=AA x) rfl rfl nN nN;have z:jx l k m H0 x (.tup [AA ((l.length+1:Nat):Int),.sl (m+1) 0 1 (l.length+1) false]) (CS.app (h_ G m (some (.cells [AA x]))) (m+1) { val:=.sl (m+1) 0 1 (l.length+1) false,upd:=o.map λj=>(j,none),new:=some (.cells ((l.map AA).flatMap SV.cells++(AA x).cells)) }) (m+2):=by
  refine⟨some (m+1),?_,by omega,?_,?_⟩;rw[a,s];simp[AQ];rw[a,qc];exact u;rw[a,qc];exact N
 rw[FF]at z;cases o with
 | none=>
  have h0:=f.none rfl;rw[vV]at h0;subst h0;have b:V=.x 0 [] true:=by rw[h];rfl
  rw[b]at d ⊢;refine AJ ?_;simp[go_sem];rw[d];have P:IntKind.i64.wrap 1=1:=D5 nN nN;simp[go_sem,P];exact .inl (by simpa[CS.app,SV.cells]using z)
 | some j=>
  have b:V=.sl j 0 1 l.length false:=by rw[h];simp[AQ]
  rw[b]at d ⊢;refine AJ ?_;simp[go_sem,K,-Int.natCast_add];rw[d];simp[go_sem];exact .inl (by simpa[CS.app,SV.cells]using z)
def GQ(p8 p9:Nat)(s:List Int×List Int)(o:Nat):Option A7:=if o=p8 then some (.list 1 (s.1.map AA))else if o=p9 then some (.list 1 (s.2.map AA))else none
theorem U3(p8 p9:Nat)(s:List Int×List Int)(H:Hp):Aq (GQ p8 p9) s H=h_ (h_ H p9 (some (.list 1 (s.2.map AA)))) p8 (some (.list 1 (s.1.map AA))):=by
 funext o;simp only[Aq,GQ,h_];by_cases e:o=p8;simp[e];by_cases a:o=p9;subst a;simp[e];simp[e,a]
theorem U2(p8 p9 n0:Nat)(s:List Int×List Int)(o:Nat)(y:A7)(h:GQ p8 p9 s o=some y):Ay n0 y=true:=by
 simp only[GQ]at h;split at h;cases h;rw[Ay,FF];exact FC n0 _;split at h;cases h;rw[Ay,FF];exact FC n0 _;cases h
theorem Yp{p8 p9:Nat}{n:Nat}(h8:p8<n)(h9:p9<n)(s:List Int×List Int){H:Hp}(b:HQ H n):HQ (Aq (GQ p8 p9) s H) n:=λo y e=>by
 simp only[Aq]at e;cases a:GQ p8 p9 s o with
 | some z=>
  rw[a]at e;cases e;refine⟨?_,U2 p8 p9 n s o y a⟩;simp only[GQ]at a;split at a;omega;split at a;omega;cases a
 | none=>rw[a]at e;exact b o y e
def Io(x:AD)(s:List Int×List Int):AD×(List Int×List Int):=
 if x.l=8 then(GI x (EB (Db s (x.code,x.id)) (x.code,x.id)),Db s (x.code,x.id))else(x,s)
theorem RS(l:List Int):∀e∈l.map AA,e.B=true/\e.cells.length=1:=λe a=>by
 obtain⟨x,_,rfl⟩:=qb.1 a;exact⟨rfl,rfl⟩
theorem UR(l:List Int)(x:Int):B8 l x≠[]:=λg=>by
 have:x∈B8 l x:=by unfold B8;split<;>simp_all
 rw[g]at this;cases this
theorem w91(x:AD)(s:List Int×List Int)(h1:s.1.length<=1048576)(h2:s.2.length<=1048576){p8 p9:Nat}(h89:p8≠p9){H:Hp}{n:Nat}(h8:p8<n)(h9:p9<n)(hH:MX (GQ p8 p9) s H):
 BF prog 91 [x.h,.ptr p8 0,.ptr p9 0] H n (λv h' n'=>v=.tup [(Io x s).1.h,.bool true]/\h'=Aq (GQ p8 p9) (Io x s).2 H/\n'=n):=by
 refine E8 func91 rfl λho=>?_;have hHb:=ho.lt;have hH8:H p8=some (.list 1 (s.1.map AA)):=hH p8 _ (by simp[GQ]);have hH9:H p9=some (.list 1 (s.2.map AA)):=hH p9 _ (by simp[GQ,Ne.symm h89]);obtain⟨X,w⟩:∃X:Int->List SV,∀i,X i=[AA x.l,AA x.code,AA i,.str x.J,AU x.H.Q,AA x.H.I,AA x.H.move,Aa x.H.Y,AN x.H.Z,AI x.W,Ap x.R]:=⟨_,λ_=>rfl⟩
 obtain⟨U,D⟩:∃U:Hp->Int->Hp,∀G i,U G i=h_ (h_ G n (some (.cells (X i)))) (n+1) (some (.cells be)):=⟨_,λ_ _=>rfl⟩
 have z:∀G i,U G i n=some (.cells (X i)):=λG i=>by rw[D,AB _ _ nN,AC]
 have S:∀G i,U G i (n+1)=some (.cells be):=λG i=>by rw[D,AC]
 have Uo:∀G i j,j<n->U G i j=G j:=λG i j h=>by rw[D,AB _ _ nN,AB _ _ nN]
 have Us:∀G i j y,j<n->h_ (U G i) j y=U (h_ G j y) i:=λG i j y h=>by rw[D,D];funext o;simp only[h_];grind
 have hsz:∀i,(GI x i).h=.agg (X i):=λi=>by rw[w,qz];rfl
 have M:∀s' i m,Cb n (h_ (U (Aq (GQ p8 p9) s' H) i) (n+1) (some (.cells (X i)))) m (.tup [.agg (X i),.bool true]) (λv h' n'=>v=.tup [(GI x i).h,.bool true]/\h'=Aq (GQ p8 p9) s' H/\n'=n):=λs' i m=>by
  have Ar:=Yp h8 h9 s' ho;refine .inr ⟨0,.tup [.agg (X i),.bool true],Aq (GQ p8 p9) s' H,rfl,?_,λo y e=>?_,by rw[hsz],rfl,rfl⟩;rw[<-hsz];simp only[C_,c_,AD.cl,Bool.and_true];have h3:=Ar o y e;exact⟨by rw[AB _ _ nN,Uo _ _ _ h3.1];exact e,h3⟩
 refine A6 0 [(1,.ptr p8 0),(2,.ptr p9 0),(3,.ptr n 0),(4,.ptr (n+1) 0)] (U H x.id) (λm=>n+2=m) ?_ (λm hm=>?_);rw[D,w,qz x];simp[go_sem,Or,SV.cells];subst hm;have Ub:∀i j y,U H i j=some y->j<n+2:=λi j y e=>by
  by_cases P:j<n;omega;by_cases e2:j<n+2;exact e2;rw[D,AB _ _ nN,AB _ _ nN]at e;have:=hHb j y e;omega
 by_cases hk:x.l=8;by_cases hc:x.code<=2;have P:Io x s=(GI x (Am (B8 s.1 x.id) x.id),(B8 s.1 x.id,s.2)):=by unfold Io EB Db;rw[nS hk];dsimp only;rw[nS hc,nS hc]
 rw[P];dsimp only;obtain⟨i,hi⟩:∃i,i=Am (B8 s.1 x.id) x.id:=⟨_,rfl⟩
 obtain⟨L,hL⟩:∃L,L=(B8 s.1 x.id).map AA:=⟨_,rfl⟩
 obtain⟨G,u⟩:∃G,G=U H x.id:=⟨_,rfl⟩
 have hGp:G p8=some (.list 1 (s.1.map AA)):=by rw[u,Uo _ _ _ h8];exact hH8
 have C:∀v j y,h_ G p8 v j=some y->j<n+2:=λv j y e=>by
  by_cases P:j=p8;omega;rw[AB _ _ P,u]at e;exact Ub _ j y e
 refine AR 0 (α:=Option Nat) (λ_=>[(3,.ptr n 0),(4,.ptr (n+1) 0)]) (λa=>AS a L (h_ (U H i) p8 (some (.cells [AQ 1 a L])))) (λa m'=>n+2<=m'/\BG (n+2) m' 1 a L) (AP ?_) (λa m' hm'=>?_);rw[<-u];refine A6 0 [(1,.ptr p8 0),(2,.ptr p9 0),(3,.ptr n 0),(4,.ptr (n+1) 0),(6,.bool true)] G (λm=>n+2=m) ?_ (λm hm=>?_);have q:=(show G n=U H x.id n by rw[u]).trans (z H x.id);rw[w]at q;simp[go_sem,q,hk,hc,Or];subst hm;refine Av (b:=true) nP ?_;simp only[if_true];refine Qs p8 (RS _) hGp λo m hm A K=>?_;have f:n≠p8:=by omega
 have hpo:∀v,AS o (s.1.map AA) (h_ G p8 (some (.cells [v]))) p8=some (.cells [v]):=λv=>by
  cases o with
  | none=>exact AC _ _ _
  | some j=>have:=(A.lt j rfl).1;simp only[AS];rw[AB _ _ nN];exact AC _ _ _
 have hno:∀v,AS o (s.1.map AA) (h_ G p8 v) n=some (.cells (X x.id)):=λv=>by
  have hg:h_ G p8 v n=some (.cells (X x.id)):=by rw[AB _ _ f,u];exact z _ _
  cases o with
  | none=>exact hg
  | some j=>have:=(A.lt j rfl).1;simp only[AS];rw[AB _ _ nN];exact hg
 have T:BG (n+2) m 1 o (s.1.map AA):=⟨A.none,λj e=>⟨(A.lt j e).1,(A.lt j e).2⟩,A.size⟩
 have d:=w92 s.1 h1 x.id (H0:=h_ G p8 (some (.cells [AQ 1 o (s.1.map AA)]))) (o:=o) (k:=n+2) (m:=m) T (C _) nN;have t:=hpo (AQ 1 o (s.1.map AA));have p:=hno (some (.cells [AQ 1 o (s.1.map AA)]));rw[w]at p;generalize hV:AQ 1 o (s.1.map AA)=V at d t p ⊢;have hVs:V.B=true/\V.cells=[V]:=by rw[<-hV];cases o<;>exact⟨rfl,rfl⟩
 refine AJ ?_;simp[go_sem,t,p];refine qI d ?_;rintro v h' n' ⟨a,rfl,q1,O,q3⟩;have F:h' n=some (.cells (X x.id)):=q3 n _ (by
  have hg:h_ G p8 (some (.cells [V])) n=some (.cells (X x.id)):=by rw[AB _ _ f,u];exact z _ _
  cases a with
  | none=>exact hg
  | some j=>have:=(O.lt j rfl).1;simp only[AS];rw[AB _ _ nN];exact hg)
 have hp':h' p8=some (.cells [V]):=q3 p8 _ (by
  cases a with
  | none=>exact AC _ _ _
  | some j=>have:=(O.lt j rfl).1;simp only[AS];rw[AB _ _ nN];exact AC _ _ _)
 rw[<-hL,<-hi]at *;rw[w]at F;have c:∃V2,V2=AQ 1 a L:=⟨_,rfl⟩
 obtain⟨V2,c⟩:=c;rw[<-c];have E:V2.B=true/\V2.cells=[V2]:=by rw[c];cases a<;>exact⟨rfl,rfl⟩
 obtain⟨t1,t2⟩:=E;unfold SV.B at t1;unfold SV.cells at t2;simp[go_sem,F,hp',AB _ _ (Ne.symm f),t1,t2];refine⟨a,⟨by omega,O⟩,λj y e=>?_⟩;rw[<-c]at e;by_cases c1:j=p8;rw[c1]at e ⊢;rw[AC];have:AS a L (h_ (U H i) p8 (some (.cells [V2]))) p8=some (.cells [V2]):=by
  cases a with
  | none=>exact AC _ _ _
  | some j=>have:=(O.lt j rfl).1;simp only[AS];rw[AB _ _ nN];exact AC _ _ _
 rw[this]at e;exact e;rw[AB _ _ c1];by_cases c2:j=n;subst c2;rw[AC];have:AS a L (h_ (U H i) p8 (some (.cells [V2]))) j=some (.cells (X i)):=by
  have hg:h_ (U H i) p8 (some (.cells [V2])) j=some (.cells (X i)):=by rw[AB _ _ f];exact z _ _
  cases a with
  | none=>exact hg
  | some j2=>have:=(O.lt j2 rfl).1;simp only[AS];rw[AB _ _ nN];exact hg
 rw[this,w]at e;exact e;rw[AB _ _ c2];refine q3 j y ?_;rw[u,D];rw[D]at e;cases a with
 | none=>simp only[AS,h_]at e ⊢;grind
 | some j2=>simp only[AS,h_]at e ⊢;grind
 have K:L=[]->a=none:=λg=>absurd g (by rw[hL];simp[UR]);refine NA p8 hm'.2 (λj y e=>Ub _ j y e) nN K ?_;rw[Us _ _ _ _ h8];have hup:h_ H p8 (some (.list 1 L))=Aq (GQ p8 p9) (B8 s.1 x.id,s.2) H:=by
  rw[U3,hL];funext j;simp only[h_];grind
 rw[hup];have hr:=M (B8 s.1 x.id,s.2) i m';have r:(X i).length=11:=by rw[w];rfl
 have N:(X i).take 11=X i:=qD (by rw[r];exact IO _);rw[<-hi];refine AJ ?_;simp[go_sem,z,S,r,N,AC];exact hr;have P:Io x s=(GI x (Am (B8 s.2 x.id) x.id),(s.1,B8 s.2 x.id)):=by unfold Io EB Db;rw[nS hk];dsimp only;rw[nR hc,nR hc]
 rw[P];dsimp only;obtain⟨i,hi⟩:∃i,i=Am (B8 s.2 x.id) x.id:=⟨_,rfl⟩
 obtain⟨L,hL⟩:∃L,L=(B8 s.2 x.id).map AA:=⟨_,rfl⟩
 obtain⟨G,u⟩:∃G,G=U H x.id:=⟨_,rfl⟩
 have hGp:G p9=some (.list 1 (s.2.map AA)):=by rw[u,Uo _ _ _ h9];exact hH9
 have C:∀v j y,h_ G p9 v j=some y->j<n+2:=λv j y e=>by
  by_cases P:j=p9;omega;rw[AB _ _ P,u]at e;exact Ub _ j y e
 refine AR 0 (α:=Option Nat) (λ_=>[(3,.ptr n 0),(4,.ptr (n+1) 0)]) (λa=>AS a L (h_ (U H i) p9 (some (.cells [AQ 1 a L])))) (λa m'=>n+2<=m'/\BG (n+2) m' 1 a L) (AP ?_) (λa m' hm'=>?_);rw[<-u];refine A6 0 [(1,.ptr p8 0),(2,.ptr p9 0),(3,.ptr n 0),(4,.ptr (n+1) 0),(6,.bool false)] G (λm=>n+2=m) ?_ (λm hm=>?_);have q:=(show G n=U H x.id n by rw[u]).trans (z H x.id);rw[w]at q;simp[go_sem,q,hk,hc,Or];subst hm;refine Av (b:=false) nP ?_;simp only[qq,if_false];refine A6 0 [(1,.ptr p8 0),(2,.ptr p9 0),(3,.ptr n 0),(4,.ptr (n+1) 0),(23,.bool true)] G (λm=>n+2=m) ?_ (λm hm=>?_);have q:=(show G n=U H x.id n by rw[u]).trans (z H x.id);rw[w]at q;simp[go_sem,q,hk,Or];subst hm;refine Av (b:=true) nP ?_;simp only[if_true];refine Qs p9 (RS _) hGp λo m hm A K=>?_;have f:n≠p9:=by omega
 have hpo:∀v,AS o (s.2.map AA) (h_ G p9 (some (.cells [v]))) p9=some (.cells [v]):=λv=>by
  cases o with
  | none=>exact AC _ _ _
  | some j=>have:=(A.lt j rfl).1;simp only[AS];rw[AB _ _ nN];exact AC _ _ _
 have hno:∀v,AS o (s.2.map AA) (h_ G p9 v) n=some (.cells (X x.id)):=λv=>by
  have hg:h_ G p9 v n=some (.cells (X x.id)):=by rw[AB _ _ f,u];exact z _ _
  cases o with
  | none=>exact hg
  | some j=>have:=(A.lt j rfl).1;simp only[AS];rw[AB _ _ nN];exact hg
 have T:BG (n+2) m 1 o (s.2.map AA):=⟨A.none,λj e=>⟨(A.lt j e).1,(A.lt j e).2⟩,A.size⟩
 have d:=w92 s.2 h2 x.id (H0:=h_ G p9 (some (.cells [AQ 1 o (s.2.map AA)]))) (o:=o) (k:=n+2) (m:=m) T (C _) nN;have t:=hpo (AQ 1 o (s.2.map AA));have p:=hno (some (.cells [AQ 1 o (s.2.map AA)]));rw[w]at p;generalize hV:AQ 1 o (s.2.map AA)=V at d t p ⊢;have hVs:V.B=true/\V.cells=[V]:=by rw[<-hV];cases o<;>exact⟨rfl,rfl⟩
 refine AJ ?_;simp[go_sem,t,p];refine qI d ?_;rintro v h' n' ⟨a,rfl,q1,O,q3⟩;have F:h' n=some (.cells (X x.id)):=q3 n _ (by
  have hg:h_ G p9 (some (.cells [V])) n=some (.cells (X x.id)):=by rw[AB _ _ f,u];exact z _ _
  cases a with
  | none=>exact hg
  | some j=>have:=(O.lt j rfl).1;simp only[AS];rw[AB _ _ nN];exact hg)
 have hp':h' p9=some (.cells [V]):=q3 p9 _ (by
  cases a with
  | none=>exact AC _ _ _
  | some j=>have:=(O.lt j rfl).1;simp only[AS];rw[AB _ _ nN];exact AC _ _ _)
 rw[<-hL,<-hi]at *;rw[w]at F;have c:∃V2,V2=AQ 1 a L:=⟨_,rfl⟩
 obtain⟨V2,c⟩:=c;rw[<-c];have E:V2.B=true/\V2.cells=[V2]:=by rw[c];cases a<;>exact⟨rfl,rfl⟩
 obtain⟨t1,t2⟩:=E;unfold SV.B at t1;unfold SV.cells at t2;simp[go_sem,F,hp',AB _ _ (Ne.symm f),t1,t2];refine⟨a,⟨by omega,O⟩,λj y e=>?_⟩;rw[<-c]at e;by_cases c1:j=p9;rw[c1]at e ⊢;rw[AC];have:AS a L (h_ (U H i) p9 (some (.cells [V2]))) p9=some (.cells [V2]):=by
  cases a with
  | none=>exact AC _ _ _
  | some j=>have:=(O.lt j rfl).1;simp only[AS];rw[AB _ _ nN];exact AC _ _ _
 rw[this]at e;exact e;rw[AB _ _ c1];by_cases c2:j=n;subst c2;rw[AC];have:AS a L (h_ (U H i) p9 (some (.cells [V2]))) j=some (.cells (X i)):=by
  have hg:h_ (U H i) p9 (some (.cells [V2])) j=some (.cells (X i)):=by rw[AB _ _ f];exact z _ _
  cases a with
  | none=>exact hg
  | some j2=>have:=(O.lt j2 rfl).1;simp only[AS];rw[AB _ _ nN];exact hg
 rw[this,w]at e;exact e;rw[AB _ _ c2];refine q3 j y ?_;rw[u,D];rw[D]at e;cases a with
 | none=>simp only[AS,h_]at e ⊢;grind
 | some j2=>simp only[AS,h_]at e ⊢;grind
 have K:L=[]->a=none:=λg=>absurd g (by rw[hL];simp[UR]);refine NA p9 hm'.2 (λj y e=>Ub _ j y e) nN K ?_;rw[Us _ _ _ _ h9];have hup:h_ H p9 (some (.list 1 L))=Aq (GQ p8 p9) (s.1,B8 s.2 x.id) H:=by
  rw[U3,hL];funext j;simp only[h_];grind
 rw[hup];have hr:=M (s.1,B8 s.2 x.id) i m';have r:(X i).length=11:=by rw[w];rfl
 have N:(X i).take 11=X i:=qD (by rw[r];exact IO _);rw[<-hi];refine AJ ?_;simp[go_sem,z,S,r,N,AC];exact hr
 . have P:Io x s=(GI x x.id,s):=by unfold Io;rw[nR hk];cases x;rfl
   rw[P];refine A6 0 [(3,.ptr n 0),(4,.ptr (n+1) 0)] (U H x.id) (λm=>n+2=m) ?_ (λm hm=>?_)
   . have hXk:X x.id=[AA x.l,AA x.code,AA x.id,.str x.J,AU x.H.Q,AA x.H.I,AA x.H.move,Aa x.H.Y,AN x.H.Z,AI x.W,Ap x.R]:=w _;simp[go_sem,z,hXk,hk,Or]
     done
   subst hm;have hh:Aq (GQ p8 p9) s H=H:=Cs s H hH;have hr:=M s x.id (n+2);rw[hh]at hr ⊢;have r:(X x.id).length=11:=by rw[w];rfl
   have N:(X x.id).take 11=X x.id:=qD (by rw[r];exact IO _);refine AJ ?_;simp[go_sem,z,S,r,N,AC];exact hr
theorem BF.out{f:FuncId}{args:List SV}{h:Hp}{n:Nat}{Q K:SV->Hp->Nat->Prop}(H:BF prog f args h n Q)(t:∀v h' n',Q v h' n'->∃k r,Fz h' h k v r/\C_ n r=true/\(∀o x,h o=some x->h' o=some x)/\K r h n):BF prog f args h n K:=by
 refine⟨H.1,λc vs I R F A=>(H.2 c vs I R F A).mono ?_⟩;rintro e w' ⟨u,v,h',n',l,rfl,q,rfl,p,a,F',X⟩;obtain⟨k,r,g,d,hh,hk⟩:=t v h' n' q;have s:HQ h n:=λo x e=>E5 F (R.obj o x e);have b:=a.less hh;have i:V ((l.less h).cut h n) r u:=(g.sound a hh k p).cut b (λ_ _ e=>e) d;refine⟨u,_,h,n,(l.less h).cut h n,rfl,hk,rfl,i,b.cut (λo x e=>⟨e,s o x e⟩),Pp,⟨Po b (λ_ _ e=>e) F (IO _) (X.ext.trans (DE a hh)),IO _,λj m=>?_⟩⟩;simp only[Cx.cut,m,if_true];exact X.same j m
theorem mZ(d:AH)(hd:d.D)(r:d.normal.D)(s:(BD [] (AD.U (Ae d.W)++d.T0.all)).length<=1048576)(hb:(Cz 0 d.normal.W).2<=1099511627776):PC 74 [d.h] d.normal.renum.h:=λh n=>by
 have ho:∀{P:Prop},P->P:=λp=>p;refine⟨(mV d hd r s hb h n).1,λc vs I R F A=>?_⟩;have Ar:HQ h n:=λo x e=>E5 F (R.obj o x e);refine(BF.out (K:=λv h' n'=>v=d.normal.renum.h/\h'=h/\n'=n) (mV d hd r s hb h n) ?_).2 c vs I R F A;rintro v h1 n1 ⟨hn1,ob,⟨vf,o1,vr,o2,w,o3,rfl,rfl,g,i,l⟩,m,b,hh⟩;have q:=K6 m hh;obtain⟨g1,f⟩:=wE.1 q;obtain⟨t,g3⟩:=wE.1 f;have a:∀k∈AK (o1++(o2++o3)),h k=none:=λk hk=>Ar.none (b k hk).1;obtain⟨K,u⟩:=Sq (h':=h1) (h2:=h) (e:=d.normal.renum) g i l g1 t g3 (λk hk=>a k (by rw[Ad];exact qx _ hk)) (λk hk=>a k (by rw[Ad,Ad];exact qt _ (qx _ hk))) (λk hk=>a k (by rw[Ad,Ad];exact qt _ (qt _ hk)));refine⟨K,d.normal.renum.h,by simpa[AF.j]using u,AH.cl n _,λo x e=>?_,rfl,rfl,rfl⟩;refine wj (_L:=IV []) (_v:=w) b hh (show o<n from(Ar o x e).1) e
theorem jz{p8 p9 n0 K:Nat}(R:List Int)(u:R.length<=1048576)(M:List (List Int))(t:M.length=R.length)(hm:∀l∈M,l.length<=1048576)(h8:p8<n0)(h9:p9<n0)(g:p8≠p9)(hK:K<=1048576):
 Zb (GQ p8 p9) n0 113 90 91 [] [.q [Bl R],.q [.fn (.func 89) [] [.q [Bl R],.q [.x 1 (M.map EY) false]]]] [.ptr p8 0,.ptr p9 0] (GP Db EB (Kf R M)) (lim AF.D K) (OW AF.D K) AF.D (λs=>s.1.length+s.2.length) 1048576:=by
 have m:∀(s:List Int×List Int)(a:Int×Int),s.1.length+s.2.length<=(Db s a).1.length+(Db s a).2.length:=λs a=>by
  unfold Db;split;have:=RO s.1 a.2;dsimp only;split at this<;>omega;have:=RO s.2 a.2;dsimp only;split at this<;>omega
 have ZN:∀(x:AD)(s:List Int×List Int),(GP Db EB (Kf R M)).item x s=((Io x s).1,true,(Io x s).2):=λx s=>by
  unfold GP Io;dsimp only;split<;>rfl
 have j:∀(x:AD)(s:List Int×List Int),∃i,(Io x s).1=GI x i:=λx s=>by
  unfold Io;split;exact⟨_,rfl⟩;exact⟨x.id,by cases x;rfl⟩
 have b:∀(x:AD)(s:List Int×List Int),s.1.length+s.2.length<=(Io x s).2.1.length+(Io x s).2.2.length:=λx s=>by
  unfold Io;split;exact m _ _;exact IO _
 refine { up:=⟨λ_ _ _=>IO _,λ_ _=>IO _,λx s=>by rw[ZN];exact b x s⟩,lt:=λs o h=>?_,dom:=λs s' o h=>?_,cl:=λs o y h=>U2 p8 p9 n0 s o y h,zero:=λl h=>h,W:=λN id l s H n k ht p f=>?_,H:=λx s H n d _ p f=>?_,item:=λN x s H n _ ht p f=>?_,flow_ok:=λN id l s k=>?_,item_ok:=λN x s d _=>?_ };simp only[GQ];rw[nR nN,nR nN];simp only[GQ]at h ⊢;split at h;cases h;split at h;cases h;simp_all;refine wn (bD id l H n) ?_;rintro v h' n' ⟨rfl,rfl,rfl⟩;exact⟨rfl,(Cs s _ f).symm,rfl⟩;refine wn (w90 x d R u M t hm (.inr rfl) H n) ?_;rintro v h' n' ⟨rfl,rfl,rfl⟩;exact⟨rfl,(Cs s _ f).symm,rfl⟩;rw[ZN]at ht ⊢;have:=b x s;refine Ab.mono (w91 x s (by dsimp only at ht;omega) (by dsimp only at ht;omega) g (H:=H) (n:=n) nN nN f) ?_;rintro v h' n' ⟨rfl,rfl,rfl⟩;exact⟨rfl,rfl,rfl⟩;exact⟨by have:=(CX.1 k).1;simp only[GP];omega,(CX.1 k).2.2⟩;obtain⟨i,e⟩:=j x s;rw[ZN];show dQ _ _ N (Io x s).1;rw[e];exact⟨d.1,λ_=>d.2.1,λ_=>⟨by have:=d.2.2.1;show x.R.length<=_;omega,λr hr=>⟨(d.2.2.2 r hr).1,by have:=(d.2.2.2 r hr).2.1;omega,λc w=>(d.2.2.2 r hr).2.2 c w⟩⟩⟩
def cF:Tr:=(.pure 1 (.pure 3 (.two 0 2 (.one 2 (.one 4 (.pure 5 (.one 6 (.one 7 (.one 8 (.one 9 .nil))))))) (.two 0 4 (.one 4 (.pure 5 (.one 6 (.one 7 (.one 8 (.one 9 .nil)))))) (.pure 5 (.two 0 6 (.one 6 (.one 7 (.one 8 (.one 9 .nil)))) (.two 0 7 (.one 7 (.one 8 (.one 9 .nil))) (.one 0 (.one 8 (.one 9 .nil))))))))))
def cG:Tr:=(.pure 1 (.pure 2 (.pure 4 (.two 0 3 (.one 3 (.one 5 (.pure 6 (.one 7 (.one 8 (.one 9 (.one 10 .nil))))))) (.two 0 5 (.one 5 (.pure 6 (.one 7 (.one 8 (.one 9 (.one 10 .nil)))))) (.pure 6 (.two 0 7 (.one 7 (.one 8 (.one 9 (.one 10 .nil)))) (.two 0 8 (.one 8 (.one 9 (.one 10 .nil))) (.one 0 (.one 9 (.one 10 .nil)))))))))))
def CF(e:AH):List SV:=[AI e.W,AU e.T0.Q,AA e.T0.I,AA e.T0.move,Aa e.T0.Y,AN e.T0.Z,Cq e.V,AW e.S.A,CA e.S.L,A8 e.S.C,CW e.S.vars]
theorem F9(e:AH):e.h=.agg (CF e):=by simp[AH.h,CF,AF.j,AO.j]
theorem Z7{σ τ:Type}{F:σ->AF->σ}{G:τ->AF->τ}(φ:σ->τ)(h:∀s x,φ (F s x)=G (φ s) x)(l:List AF)(s:σ):φ (l.foldl F s)=l.foldl G (φ s):=by
 induction l generalizing s with
 | nil=>rfl
 | cons a l ih=>rw[qH,qH,ih,h]
theorem bM{B:Hp}{q m z:Nat}{o:Option Nat}{es:List SV}{v:Option A7}(a:BG (q+1) m z o es):AS o es (h_ B q v) q=v:=by
 cases o with
 | none=>exact AC _ _ _
 | some k=>have:=(a.lt k rfl).1;simp only[AS];rw[AB _ _ nN];exact AC _ _ _
theorem Pf{B:Hp}{q m z j:Nat}{o:Option Nat}{es:List SV}{v:Option A7}(a:BG (q+1) m z o es)(hj:j<q):AS o es (h_ B q v) j=B j:=by
 cases o with
 | none=>exact AB _ _ nN
 | some k=>have:=(a.lt k rfl).1;simp only[AS];rw[AB _ _ nN,AB _ _ nN]
theorem w27(d:AH)(hd:d.D)(hn:d.normal.D)(hu:(BD [] (AD.U (Ae d.W)++d.T0.all)).length<=1048576)(hb:(Cz 0 d.normal.W).2<=1099511627776){K N:Nat}(hK:K<=1048576)
 (he:d.normal.renum.D) (hl:lim AF.D K N d.normal.renum.W) (hM:∀s:Mt (d.normal.renum.V.map (·.id)),(BK (HL (jZ (d.normal.renum.V.map (·.id)))) N 0 d.normal.renum.W s).2.1=(BK (HL λs h=>h.mvs.foldl (BA (d.normal.renum.V.map (·.id))) s) N 0 d.normal.renum.W s.1).2)
 (hrM:ML (bj N (d.normal.renum.V.map (·.id)) d.normal.renum.W)<=1048576)
 (hrk:(λs:List Int×List Int=>s.1.length+s.2.length) (BK (Wd (LW (d.normal.renum.V.map (·.id)) (Ch (d.normal.renum.V.map (·.id)) (bj N (d.normal.renum.V.map (·.id)) d.normal.renum.W)))) N 0 d.normal.renum.W ([],d.normal.renum.S.C.map (·.id))).2<=1048576)
 (hY:(Ho N d.normal.renum).D) (hZ:(Ho N d.normal.renum).normal.D) (hW:(BD [] (AD.U (Ae (Ho N d.normal.renum).W)++(Ho N d.normal.renum).T0.all)).length<=1048576):PC 27 [d.h] (Ho N d.normal.renum).normal.h:=by
 intro h n;refine E8 func27 rfl λho=>?_;have hHb:=ho.lt;have h74:=mZ d hd hn hu hb;obtain⟨X,hX⟩:∃X:AH->Hp,∀e,X e=h_ (h_ h n (some (.cells (CF e)))) (n+1) (some (.cells LY)):=⟨_,λ_=>rfl⟩
 have Xn:∀e,X e n=some (.cells (CF e)):=λe=>by rw[hX,AB _ _ nN,AC]
 have Xz:∀e,X e (n+1)=some (.cells LY):=λe=>by rw[hX,AC]
 have Xb:∀e j y,X e j=some y->j<n+2:=λe j y g=>by
  by_cases e1:j<n+2;exact e1;rw[hX,AB _ _ nN,AB _ _ nN]at g;have:=hHb j y g;omega
 have Xs:∀e e',h_ (X e) n (some (.cells (CF e')))=X e':=λe e'=>by rw[hX,hX];funext o;simp only[h_];grind
 have Xh:∀e j y,h j=some y->X e j=some y:=λe j y g=>by have:=hHb j y g;rw[hX,AB _ _ nN,AB _ _ nN];exact g
 refine A6 0 [(1,.ptr n 0),(2,.ptr (n+1) 0)] (X d) (λm=>n+2=m) ?_ (λm hm=>?_)
 . rw[hX,CF];simp[go_sem,qw,Or,SV.cells,AH.h,AF.j,AO.j]
   done
 subst hm;clear hX;rw[F9 d,F9 d.normal.renum]at h74;generalize d.normal.renum=e at *;refine A6 0 [(1,.ptr n 0),(2,.ptr (n+1) 0)] (X e) (λm=>n+2=m) ?_ (λm hm=>?_);have hx:=Xn d;have hs:=Xs d e;rw[CF]at hx hs;rw[CF,CF]at h74;simp[go_sem,hx];refine qO h74 ?_;rw[<-CF]at hx;simp[go_sem,hx,hs,Or,SV.cells,CF];subst hm;obtain⟨R,hR⟩:∃R,R=e.V.map (·.id):=⟨_,rfl⟩
 rw[<-hR]at hM hrM hrk;have hRl:R.length=e.V.length:=by rw[hR,qj]
 have hrv:e.V.length<=1048576:=he.V;have Xb2:∀e j y,X e j=some y->j<n+2+1:=λe j y g=>by have:=Xb e j y g;omega
 refine A6 0 [(1,.ptr n 0),(2,.ptr (n+1) 0),(3,.ptr (n+2) 0)] (h_ (X e) (n+2) (some (.cells [.x 0 [] true]))) (λm=>n+3=m) ?_ (λm hm=>?_);simp[go_sem,Or];subst hm;refine Bz 3 [(1,.ptr n 0),(2,.ptr (n+1) 0),(3,.q [Bl R])] (X e) (λm=>n+3<=m) ?_ (λm hm=>?_)
 . obtain⟨E,hE⟩:∃E:Nat->List SV,∀i,E i=((e.V.take i).map (·.id)).map AA:=⟨_,λ_=>rfl⟩
   have hEl:E e.V.length=R.map AA:=by rw[hE,qn,hR]
   obtain⟨Y,hY⟩:∃Y:Nat->Option Nat->Hp,∀i o,Y i o=AS o (E i) (h_ (X e) (n+2) (some (.cells [AQ 1 o (E i)]))):=⟨_,λ_ _=>rfl⟩
   refine A6 0 [(1,.ptr n 0),(2,.ptr (n+1) 0),(3,.ptr (n+2) 0),(4,AA 0)] (Y 0 none) (λm=>n+3=m) ?_ (λm hm=>?_);rw[hY,hE];simp[go_sem,Or,AS,AQ];subst hm;refine AP (As 0 (α:=Nat×Option Nat) (λa=>[(1,.ptr n 0),(2,.ptr (n+1) 0),(3,.ptr (n+2) 0),(4,AA a.1)]) (λa=>Y a.1 a.2) (λa m=>a.1<=e.V.length/\n+3<=m/\BG (n+3) m 1 a.2 (E a.1)) (λa=>e.V.length-a.1) (0,none) ⟨qi _,IO _,by rw[hE];exact wF _ _ _⟩ ?_ AE ?_);simp[go_sem,look,Or];rintro⟨i,o⟩ m ⟨hi,hnm,hA⟩;dsimp only at hi hnm hA ⊢;have hYn:∀j o m',BG (n+3) m' 1 o (E j)->Y j o n=some (.cells (CF e)):=λj o m' hA=>by
    rw[hY];have hg:∀v,h_ (X e) (n+2) v n=some (.cells (CF e)):=λv=>by rw[AB _ _ nN];exact Xn e
    cases o with
    | none=>exact hg _
    | some k=>have:=(hA.lt k rfl).1;simp only[AS];rw[AB _ _ nN];exact hg _
   have hyn:=hYn i o m hA;rw[CF]at hyn;by_cases hlt:i<e.V.length
   . have w1:=wS i nN;have hlt':(i:Int)<e.V.length:=by omega
     obtain⟨x,hx⟩:∃x,e.V[i]=x:=⟨_,rfl⟩
     have hEs:E (i+1)=E i++[AA x.id]:=by
      rw[hE,hE,qa hlt,hx];simp
     have hlen:(E i).length=i:=by rw[hE];simp;omega
     refine Ai 0 [(1,.ptr n 0),(2,.ptr (n+1) 0),(3,.ptr (n+2) 0),(4,AA i)] (Y i o) m ?_ (λm' hm'=>?_);simp[go_sem,Or,hlt,hyn];subst hm';refine AR 0 (α:=Option Nat) (λ_=>[(1,.ptr n 0),(2,.ptr (n+1) 0),(3,.ptr (n+2) 0),(4,AA i)]) (λo'=>Y (i+1) o') (λo' m'=>n+3<=m'/\BG (n+3) m' 1 o' (E (i+1))) (AP ?_) (λo' m' hm'=>?_)
     . rw[hY]at hyn;rw[hY];simp only[hY,hEs];generalize E i=es at hA hlen hyn ⊢;obtain⟨hq,out,ho1,ho2,ho3,ho4,ho5,fin⟩:=Kb (B:=X e) (q:=n+2) (m:=m) (C:=λv=>[v]) (t:=91) (t2:=91) (el:=3) (z:=1) (es:=es) (e:=AA x.id) (o:=o) nP nP nP nO nP nP nP nN hA rfl rfl (Xb2 e) nN;have hvv:AQ 1 (some (m+1)) (es++[AA x.id])=.sl (m+1) 0 1 (es.length+1) false:=by simp[AQ]
       have hgc:(AA x.id).cells=[AA x.id]:=rfl;simp only[CS.app,hgc]at ho1 ho5 fin;refine CJ cF rfl nQ nQ ?_;have hnq:n+2≠m:=by omega
       have hq2:∀w,h_ (AS o es (h_ (X e) (n+2) (some (.cells [AQ 1 o es])))) m w (n+2)=some (.cells [AQ 1 o es]):=λw=>by rw[AB _ _ hnq];exact hq
       simp[go_sem,cF,hlt,hx,CI.h,hq,hq2,hyn]
       repeat' (with_reducible refine And.intro ?_ ?_)
       all_goals rw[ho1]
       all_goals simp[go_sem,ho2,ho3,ho5]
       all_goals exact⟨some (m+1),⟨by omega,ho4⟩,by rw[hvv];exact fin⟩
     refine AJ ?_;simp[go_sem,w1,Or,-Int.natCast_add];exact⟨i+1,by omega,o',⟨by omega,hm'.1,hm'.2⟩,Or,AE⟩
   have hie:i=e.V.length:=by omega
   subst hie;have hfz:=Sd (h2:=X e) (h':=Y e.V.length o) (k:=1) hA (λj hj _=>Ac (Xb e) nN) (λj hj=>by rw[hY,hj];exact AC _ _ _);rw[hEl]at hfz;refine AJ ?_;simp[go_sem,Or,hyn,hnm];refine⟨Pi (pre:=[]) (Ac (Xb e) (IO _)) ?_ hfz,?_⟩;rw[hY,<-hEl];exact bM hA;intro j y g;have:=Xb e j y g;rw[hY,Pf hA nN];exact g
 have hn2m:n+2<m:=by omega
 obtain⟨Hm,hHm⟩:∃Hm:Hp,Hm=h_ (h_ (X e) m (some (.cells (List.replicate R.length (.x 0 [] true))))) (m+1) (some (.cells [.sl m 0 1 R.length true])):=⟨_,rfl⟩
 have hro:Ex R.length 24=true:=by simp[Ex];omega
 refine A6 0 [(1,.ptr n 0),(2,.ptr (n+1) 0),(3,.q [Bl R]),(5,.ptr (m+1) 0)] Hm (λm'=>m'=m+2) ?_ (λm' hm'=>?_)
 . rw[hHm];simp[go_sem,hro,Or,AC,AZ]
   done
 subst hm';have hm1:m+1≠m:=by omega
 have HmX:∀j y,X e j=some y->Hm j=some y:=λj y g=>by have:=Xb e j y g;rw[hHm,AB _ _ nN,AB _ _ nN];exact g
 have Hmm:Hm m=some (.cells (List.replicate R.length (.x 0 [] true))):=by rw[hHm,AB _ _ nN,AC]
 have Hm1:Hm (m+1)=some (.cells [.sl m 0 1 R.length true]):=by rw[hHm,AC]
 have hMlen:=J3 R;obtain⟨s0,hs0⟩:∃s0:Mt R,s0=⟨List.replicate R.length [],List.length_replicate⟩:=⟨_,rfl⟩
 have hU0:MX (λs:Mt R=>If (m+1) m R s.1) s0 Hm:=by
  intro o y g;rw[hs0]at g;simp only[If]at g;split at g;cases g;split at g
  . next e1=>cases g;rw[e1];exact Hm1
  split at g
  . next e1=>cases g;rw[e1,Hmm];simp[EY]
  cases g
 obtain⟨M,hMM⟩:∃M:Mt R,M=(BK (HL (jZ R)) N 0 e.W s0).2:=⟨_,rfl⟩
 have hMv:M.1=bj N R e.W:=by rw[hMM,hM,hs0];rfl
 have h31:=lW (mL (p5:=m+1) (jm:=m) (n0:=m+2) R nN nN nN nN hK) (λ_ _ _=>rfl)
  (λN x s hp _=>⟨hp.2.1,by have:=hp.2.2.1;simp only[HL];omega,λr hr=>⟨(hp.2.2.2 r hr).1,by have:=(hp.2.2.2 r hr).2.1;omega,λc hc=>(hp.2.2.2 r hr).2.2 c hc⟩⟩) N 0 e.W s0 Hm (m+2) hl (by rw[<-hMM,hMv];exact hrM) (IO _) hU0
 rw[<-hMM]at h31;refine A6 3 [(1,.ptr n 0),(2,.ptr (n+1) 0),(3,.q [Bl R]),(5,.q [.x 1 (M.1.map EY) false])] (X e) (λm'=>m+2=m') ?_ (λm' hm'=>?_)
 . have hx:=HmX n _ (Xn e);rw[CF]at hx;simp[go_sem,hx];refine qI h31 ?_;rintro v h' n' ⟨rfl,rfl,rfl⟩;have hup:=QV (p5:=m+1) (jm:=m) hU0 M.1 nN;have um1:Aq (If (m+1) m R) M.1 Hm (m+1)=some (.cells [.sl m 0 1 R.length true]):=by
    rw[hup];split;exact Hm1;rw[AB _ _ hm1];exact Hm1
   have hMl:(M.1.map EY).length=R.length:=by rw[qj];exact M.2
   have hfl:(M.1.map EY).flatMap SV.cells=M.1.map EY:=by
    generalize M.1=W
    induction W with
    | nil=>rfl
    | cons a W ih=>rw[qg,qV,ih,(QM a).2];rfl
   have um:Aq (If (m+1) m R) M.1 Hm m=some (.cells ((M.1.map EY).flatMap SV.cells)):=by
    rw[hup,hfl];split
    . next e1=>
      have hz:M.1=[]:=vg.1 (by rw[M.2,e1];rfl);rw[hz,Hmm,e1];rfl
    exact AC _ _ _
   have ux:∀j y,X e j=some y->Aq (If (m+1) m R) M.1 Hm j=some y:=λj y g=>by
    have:=Xb e j y g;rw[hup];split;exact HmX j y g;rw[AB _ _ nN];exact HmX j y g
   have hf1:=Ez (h':=Aq (If (m+1) m R) M.1 Hm) (h:=X e) (k:=1) (z:=1) (o:=m) (es:=M.1.map EY) (full:=true) (full':=false) (Ac (Xb e) nN) (λg=>by cases g) um (λv hv=>by
    obtain⟨a,_,rfl⟩:=qb.1 hv;exact⟨(QM a).1,by rw[(QM a).2];rfl⟩)
   rw[hMl]at hf1;simp[go_sem,Or];exact⟨Pi (pre:=[]) (Ac (Xb e) nN) um1 hf1,ux⟩
 subst hm';obtain⟨f89,h89⟩:∃v:SV,v=.fn (.func 89) [] [.q [Bl R],.q [.x 1 (M.1.map EY) false]]:=⟨_,rfl⟩
 obtain⟨f90,h90⟩:∃v:SV,v=.fn (.func 90) [] [.q [Bl R],.q [f89]]:=⟨_,rfl⟩
 refine A6 2 [(1,.ptr n 0),(2,.ptr (n+1) 0),(3,.q [Bl R]),(6,.q [f89])] (X e) (λm'=>m+3=m') ?_ (λm' hm'=>?_);rw[h89];simp[go_sem,Or,AC,AZ];exact⟨Ak (Ac (Xb e) nN) (AC _ _ _),λj y g=>by have:=Xb e j y g;rw[AB _ _ nN];exact g⟩;subst hm';refine A6 0 [(1,.ptr n 0),(2,.ptr (n+1) 0),(7,f90)] (X e) (λm'=>m+3=m') ?_ (λm' hm'=>?_)
 . rw[h90];simp[go_sem,Or]
   done
 subst hm';obtain⟨a,ha⟩:∃a,a=m+3:=⟨_,rfl⟩
 have ha2:n+2<a:=by omega
 rw[<-ha];obtain⟨B,hB⟩:∃B:Hp,B=h_ (X e) a (some (.cells [.x 0 [] true])):=⟨_,rfl⟩
 have Bb:∀j y,B j=some y->j<a+1:=λj y g=>by
  by_cases e1:j=a;omega;rw[hB,AB _ _ e1]at g;have:=Xb e j y g;omega
 have Bb2:∀j y,B j=some y->j<a+1+1:=λj y g=>by have:=Bb j y g;omega
 have BX:∀j y,X e j=some y->B j=some y:=λj y g=>by have:=Xb e j y g;rw[hB,AB _ _ nN];exact g
 have Ba:B a=some (.cells [.x 0 [] true]):=by rw[hB,AC]
 have Bn:B n=some (.cells (CF e)):=BX n _ (Xn e);obtain⟨C,hC⟩:∃C,C=e.S.C.map (·.id):=⟨_,rfl⟩
 rw[<-hC]at hrk;have hCl:C.length=e.S.C.length:=by rw[hC,qj]
 have hcv:e.S.C.length<=1048576:=he.set.C;refine A6 0 [(1,.ptr n 0),(2,.ptr (n+1) 0),(7,f90),(8,.ptr a 0),(9,.ptr (a+1) 0)] (h_ B (a+1) (some (.cells [.x 0 [] true]))) (λm'=>a+2=m') ?_ (λm' hm'=>?_)
 . rw[hB];simp[go_sem,Or]
   done
 subst hm';refine AR 0 (α:=Option Nat) (λo=>[(1,.ptr n 0),(2,.ptr (n+1) 0),(7,f90),(8,.ptr a 0),(9,.ptr (a+1) 0)]) (λo=>AS o (C.map AA) (h_ B (a+1) (some (.cells [AQ 1 o (C.map AA)])))) (λo m=>a+2<=m/\BG (a+2) m 1 o (C.map AA)/\(C=[]->o=none)) ?_ (λo m hm=>?_)
 . obtain⟨E,hE⟩:∃E:Nat->List SV,∀i,E i=((e.S.C.take i).map (·.id)).map AA:=⟨_,λ_=>rfl⟩
   have hEl:E e.S.C.length=C.map AA:=by rw[hE,qn,hC]
   rw[<-hEl];obtain⟨Y,hY⟩:∃Y:Nat->Option Nat->Hp,∀i o,Y i o=AS o (E i) (h_ B (a+1) (some (.cells [AQ 1 o (E i)]))):=⟨_,λ_ _=>rfl⟩
   refine A6 0 [(1,.ptr n 0),(2,.ptr (n+1) 0),(7,f90),(8,.ptr a 0),(9,.ptr (a+1) 0),(10,AA 0)] (Y 0 none) (λm=>a+2=m) ?_ (λm hm=>?_);rw[hY,hE];simp[go_sem,Or,AS,AQ];subst hm;refine AP (As 0 (α:=Nat×Option Nat) (λq=>[(1,.ptr n 0),(2,.ptr (n+1) 0),(7,f90),(8,.ptr a 0),(9,.ptr (a+1) 0),(10,AA q.1)]) (λq=>Y q.1 q.2) (λq m=>q.1<=e.S.C.length/\a+2<=m/\BG (a+2) m 1 q.2 (E q.1)/\(C=[]->q.2=none)) (λq=>e.S.C.length-q.1) (0,none) ⟨qi _,IO _,by rw[hE];exact wF _ _ _,λ_=>rfl⟩ ?_ AE ?_);simp[go_sem,look,Or];rintro⟨i,o⟩ m ⟨hi,hnm,hA,ho0⟩;dsimp only at hi hnm hA ⊢;have hyn:Y i o n=some (.cells (CF e)):=by rw[hY,Pf hA nN];exact Bn
   rw[CF]at hyn;by_cases hlt:i<e.S.C.length
   . have w1:=wS i nN;have hlt':(i:Int)<e.S.C.length:=by omega
     obtain⟨x,hx⟩:∃x,e.S.C[i]=x:=⟨_,rfl⟩
     have hEs:E (i+1)=E i++[AA x.id]:=by
      rw[hE,hE,qa hlt,hx];simp
     have hlen:(E i).length=i:=by rw[hE];simp;omega
     refine Ai 0 [(1,.ptr n 0),(2,.ptr (n+1) 0),(7,f90),(8,.ptr a 0),(9,.ptr (a+1) 0),(10,AA i)] (Y i o) m ?_ (λm' hm'=>?_);simp[go_sem,Or,hlt,hyn];subst hm';refine AR 0 (α:=Option Nat) (λ_=>[(1,.ptr n 0),(2,.ptr (n+1) 0),(7,f90),(8,.ptr a 0),(9,.ptr (a+1) 0),(10,AA i)]) (λo'=>Y (i+1) o') (λo' m'=>a+2<=m'/\BG (a+2) m' 1 o' (E (i+1))) (AP ?_) (λo' m' hm'=>?_)
     . rw[hY]at hyn;rw[hY];simp only[hY,hEs];generalize E i=es at hA hlen hyn ⊢;obtain⟨hq,out,ho1,ho2,ho3,ho4,ho5,fin⟩:=Kb (B:=B) (q:=a+1) (m:=m) (C:=λv=>[v]) (t:=91) (t2:=91) (el:=3) (z:=1) (es:=es) (e:=AA x.id) (o:=o) nP nP nP nO nP nP nP nN hA rfl rfl Bb2 nN;have hvv:AQ 1 (some (m+1)) (es++[AA x.id])=.sl (m+1) 0 1 (es.length+1) false:=by simp[AQ]
       have hgc:(AA x.id).cells=[AA x.id]:=rfl;simp only[CS.app,hgc]at ho1 ho5 fin;refine CJ cG rfl nQ nQ ?_;have hnq:a+1≠m:=by omega
       have hq2:∀w,h_ (AS o es (h_ B (a+1) (some (.cells [AQ 1 o es])))) m w (a+1)=some (.cells [AQ 1 o es]):=λw=>by rw[AB _ _ hnq];exact hq
       simp[go_sem,cG,hlt,hx,AX.h,hq,hq2,hyn]
       repeat' (with_reducible refine And.intro ?_ ?_)
       all_goals rw[ho1]
       all_goals simp[go_sem,ho2,ho3,ho5]
       all_goals exact⟨some (m+1),⟨by omega,ho4⟩,by rw[hvv];exact fin⟩
     refine AJ ?_;simp[go_sem,w1,Or,-Int.natCast_add];exact⟨i+1,by omega,o',⟨by omega,hm'.1,hm'.2,λg=>by rw[g]at hCl;simp only[vL]at hCl;omega⟩,Or,AE⟩
   have hie:i=e.S.C.length:=by omega
   subst hie;refine AJ ?_;simp[go_sem,Or,hyn];exact⟨o,⟨hnm,hA,ho0⟩,λj y g=>by rw[hY];exact g⟩
 obtain⟨hnm,hA,ho0⟩:=hm;obtain⟨G,hG⟩:∃G:Hp,G=AS o (C.map AA) (h_ B (a+1) (some (.cells [AQ 1 o (C.map AA)]))):=⟨_,rfl⟩
 have Gb:∀j y,G j=some y->j<m:=λj y g=>by
  rw[hG]at g;refine EH (λj y g=>?_) hnm hA j y g;by_cases e1:j=a+1;omega;rw[AB _ _ e1]at g;exact Bb2 j y g
 have Gn:G n=some (.cells (CF e)):=by rw[hG,Pf hA nN];exact Bn
 have Ga:G (a+1)=some (.cells [AQ 1 o (C.map AA)]):=by rw[hG];exact bM hA
 have Go:∀j,o=some j->j<m/\a+2<=j/\G j=some (.cells ((C.map AA).flatMap SV.cells)):=λj hj=>⟨(hA.lt j hj).2,(hA.lt j hj).1,by rw[hG,hj];exact AC _ _ _⟩
 obtain⟨V,hV⟩:∃V,V=AQ 1 o (C.map AA):=⟨_,rfl⟩
 have hVs:V.B=true/\V.cells=[V]:=by rw[hV];cases o<;>exact⟨rfl,rfl⟩
 have hVf:∀h':Hp,(∀j,o=some j->h' j=some (.cells ((C.map AA).flatMap SV.cells)))->Fz h' (λ_=>none) 2 V (Bl C):=λh' hh=>by
  rw[hV];exact AQ.fz' (λ_ _=>rfl) hA λj y g=>by
   cases o with
   | none=>cases g
   | some k=>
    simp only[AS]at g;by_cases e1:j=k;subst e1;rw[AC]at g;rw[<-g];exact hh j rfl;rw[AB _ _ e1]at g;cases g
 have h87:=fW C 1 false (.inr rfl) nN;rw[<-hV]at Ga;rw[<-hG];obtain⟨f91,h91⟩:∃v:SV,v=.fn (.func 91) [] [.ptr a 0,.ptr (a+1) 0]:=⟨_,rfl⟩
 refine Ai 0 [(1,.ptr n 0),(2,.ptr (n+1) 0),(7,f90),(9,.ptr (a+1) 0),(11,f91)] G m ?_ (λm' hm'=>?_)
 . rw[h91];simp[go_sem,Or]
   done
 subst hm';refine Ai 0 [(1,.ptr n 0),(2,.ptr (n+1) 0),(7,f90),(9,.ptr (a+1) 0),(11,f91),(12,.x 0 [] true)] G m ?_ (λm' hm'=>?_)
 . simp[go_sem,Or]
   done
 subst hm';obtain⟨gc,hgc⟩:∃gc:AX->AX,gc=Na C:=⟨_,rfl⟩
 refine LO 1 [(1,.ptr n 0),(2,.ptr (n+1) 0),(7,f90),(9,.ptr (a+1) 0),(11,f91),(12,A8 (e.S.C.map gc))] G m ?_ (λm' hm'=>?_)
 . obtain⟨E,hE⟩:∃E:Nat->List SV,∀i,E i=((e.S.C.take i).map gc).map AX.h:=⟨_,λ_=>rfl⟩
   have hEl:A8 (e.S.C.map gc)=.x 6 (E e.S.C.length) false:=by rw[hE,qn]
   rw[hEl];refine Ai 0 [(1,.ptr n 0),(2,.ptr (n+1) 0),(7,f90),(9,.ptr (a+1) 0),(11,f91),(12,.x 0 [] true),(13,AA 0)] G m ?_ (λm' hm'=>?_);simp[go_sem,Or];subst hm';refine AP (As 0 (α:=Nat×Option Nat) (λq=>[(1,.ptr n 0),(2,.ptr (n+1) 0),(7,f90),(9,.ptr (a+1) 0),(11,f91),(12,AQ 6 q.2 (E q.1)),(13,AA q.1)]) (λq=>AS q.2 (E q.1) G) (λq m'=>q.1<=e.S.C.length/\m<=m'/\BG m m' 6 q.2 (E q.1)) (λq=>e.S.C.length-q.1) (0,none) ⟨qi _,IO _,by rw[hE];exact wF _ _ _⟩ ?_ AE ?_);rw[hE];simp[go_sem,look,Or,AQ];rintro⟨i,o2⟩ m2 ⟨hi,hm2,hA2⟩;dsimp only at hi hm2 hA2 ⊢;obtain⟨W,hW⟩:∃W:Hp,W=AS o2 (E i) G:=⟨_,rfl⟩
   have WG:∀j y,G j=some y->W j=some y:=λj y g=>by rw[hW];exact D6 Gb hA2 j y g
   have Wn:=WG n _ Gn;have Wa:=WG (a+1) _ Ga;have Wb:∀j y,W j=some y->j<m2:=λj y g=>by rw[hW]at g;exact EH Gb hm2 hA2 j y g
   rw[<-hW];rw[CF]at Wn;have hVsw:=hVs.1;have hVcw:=hVs.2;unfold SV.B at hVsw;unfold SV.cells at hVcw;by_cases hlt:i<e.S.C.length
   . have w1:=wS i nN;have hlt':(i:Int)<e.S.C.length:=by omega
     obtain⟨x,hx⟩:∃x,e.S.C[i]=x:=⟨_,rfl⟩
     have hEs:E (i+1)=E i++[(gc x).h]:=by
      rw[hE,hE,qa hlt,hx];simp
     have hlen:(E i).length=i:=by rw[hE];simp;omega
     refine Ai 0 [(1,.ptr n 0),(2,.ptr (n+1) 0),(7,f90),(9,.ptr (a+1) 0),(11,f91),(12,AQ 6 o2 (E i)),(13,AA i)] W m2 ?_ (λm' hm'=>?_);simp[go_sem,Or,hlt,Wn];subst hm';refine AR 0 (α:=Option Nat) (λo'=>[(1,.ptr n 0),(2,.ptr (n+1) 0),(7,f90),(9,.ptr (a+1) 0),(11,f91),(12,AQ 6 o' (E (i+1))),(13,AA i)]) (λo'=>AS o' (E (i+1)) G) (λo' m'=>m<=m'/\BG m m' 6 o' (E (i+1))) (AP ?_) (λo' m' hm'=>?_)
     . refine A6 0 [(1,.ptr n 0),(2,.ptr (n+1) 0),(7,f90),(9,.ptr (a+1) 0),(11,f91),(12,AQ 6 o2 (E i)),(13,AA i),(14,.ptr m2 0)] (h_ W m2 (some (.cells [AA x.id,AA x.parent,.str x.O,AA x.time,.str x.J,.bool x.done]))) (λm'=>m2+1=m') ?_ (λm' hm'=>?_)
       . simp[go_sem,Or,hlt,Wn,hx,AX.h,AZ,AC]
         done
       subst hm';have h2a:a+1≠m2:=by omega
       have Wa2:∀v,h_ W m2 v (a+1)=some (.cells [V]):=λv=>by rw[AB _ _ h2a];exact Wa
       refine A6 0 [(1,.ptr n 0),(2,.ptr (n+1) 0),(7,f90),(9,.ptr (a+1) 0),(11,f91),(12,AQ 6 o2 (E i)),(13,AA i),(14,.ptr m2 0)] (h_ W m2 (some (.cells [AA (Am C x.id),AA (Am C x.parent),.str x.O,AA x.time,.str x.J,.bool x.done]))) (λm'=>m2+1=m') ?_ (λm' hm'=>?_)
       . simp[go_sem,Wa2,AC]
         repeat first|refine⟨by omega,?_⟩|refine nd nQ ?_|refine sq ?_
         have hlend:∀v k h',(∀j∈o.toList,h' j=h_ W m2 v j)->AT (Fz h' (λ_=>none) 2) [V,AA k] [Bl C,AA k]:=λv k h' hh=>⟨hVf h' λj hj=>by
          have h1:=Go j hj;rw[hh j (by simp[hj]),AB _ _ nN];exact WG j _ h1.2.2,Or,trivial⟩
         refine Be.lend _ _ _ _ _ _ 2 o.toList (h87 x.id) rfl (by rintro j hj;have:=Go j (by simpa using hj);omega) (hlend _ x.id) ?_;simp[go_sem,Wa2,AC]
         repeat first|refine⟨by omega,?_⟩|refine nd nQ ?_|refine sq ?_
         refine Be.lend _ _ _ _ _ _ 2 o.toList (h87 x.parent) rfl (by rintro j hj;have:=Go j (by simpa using hj);omega) (hlend _ x.parent) ?_;simp[go_sem,AC,AZ,Or]
         repeat first|refine⟨by omega,?_⟩|refine nd (by simp[Ct,Dq,DX,Aj,Region.binds]<;>omega) ?_|refine sq ?_
         simp[Ct,Dq,DX,Aj,Region.binds]<;>omega
       subst hm';have hgx:(gc x).h=.agg [AA (Am C x.id),AA (Am C x.parent),.str x.O,AA x.time,.str x.J,.bool x.done]:=by rw[hgc];rfl
       rw[hEs,hgx];generalize hes:E i=es at hA2 hlen hW ⊢;obtain⟨L,hL⟩:∃L,L=[AA (Am C x.id),AA (Am C x.parent),.str x.O,AA x.time,.str x.J,.bool x.done]:=⟨_,rfl⟩
       rw[<-hL];have hLl:L.length=6:=by rw[hL];rfl
       have hLt:L.take 6=L:=by rw[hL];rfl
       obtain⟨out,ho1,ho2,ho3,ho4,ho5,ho6⟩:=F5 (X:=h_ (h_ W m2 (some (.cells L))) (m2+1) (some (.cells L))) (h:=G) (k:=m2+1) (p:=m2+1+1) (t:=33) (t2:=33) (el:=71) (z:=6) (e:=.agg L) (es:=es) nP nP nP nO nP nP nP nN hA2 rfl hLl (AC _ _ _)
        (λj y g=>by have:=Wb j y (by rw[hW];exact g);rw[AB _ _ nN,AB _ _ nN,hW];exact g) Gb nN nN
       simp only[CS.app]at ho5;have hvv:AQ 6 (some (m2+1+1)) (es++[.agg L])=.sl (m2+1+1) 0 6 (es.length+1) false:=by simp[AQ]
       refine AJ ?_;simp[go_sem,AC,hLl,hLt];rw[ho1];simp[go_sem,ho2,ho3];exact⟨some (m2+1+1),⟨by omega,ho4⟩,by rw[hvv];exact Or,ho5⟩
     refine AJ ?_;simp[go_sem,w1,Or,-Int.natCast_add];exact⟨i+1,by omega,o',⟨by omega,hm'.1,hm'.2⟩,⟨Or,Or⟩,AE⟩
   have hie:i=e.S.C.length:=by omega
   subst hie;have hfz:=AQ.fz' (k:=0) (λj hj=>Ac Gb hj) hA2 (h':=W) (λj y g=>by rw[hW];exact g);refine AJ ?_;simp[go_sem,Or,Wn,hm2];exact⟨hfz,WG⟩
 have hm2:a+2<=m':=by omega
 rw[hgc];obtain⟨cms,hcms⟩:∃cms,cms=e.S.C.map (Na C):=⟨_,rfl⟩
 rw[<-hcms];rw[hG];refine NA (a+1) hA (λj y g=>Bb2 j y g) nN (λg=>ho0 (vV.1 g)) ?_;refine Of a 1 none (by rw[AB _ _ nN];exact Ba) ?_;obtain⟨D,hD⟩:∃D:Hp,D=h_ (h_ B (a+1) (some (.list 1 (C.map AA)))) a (some (.list 1 [])):=⟨_,rfl⟩
 have Dlow:∀j,j<n+2->D j=X e j:=λj hj=>by rw[hD,AB _ _ nN,AB _ _ nN,hB,AB _ _ nN]
 have DU:MX (GQ a (a+1)) ([],C) D:=λj y g=>by
  simp only[GQ]at g;split at g
  . next e1=>rw[e1,hD,AC];exact g
  split at g
  . next e1 e2=>rw[e2,hD,AB _ _ nN,AC];exact g
  cases g
 have hm1:∀l∈M.1,l.length<=1048576:=λl hl=>qy (QE hl) (by rw[hMv];exact hrM);rw[<-hMv]at hrk;have hc31:=lW (jz (p8:=a) (p9:=a+1) (n0:=a+2) R nN M.1 M.2 hm1 nN nN nN hK) (λ_ _ _=>rfl)
  (λN x s hp _=>by
    have key:((GP Db EB (Kf R M.1)).item x s).1.W=x.W/\((GP Db EB (Kf R M.1)).item x s).1.R=x.R:=by
     unfold GP;dsimp only;split<;>exact⟨rfl,rfl⟩
    rw[key.1,key.2];exact⟨hp.2.1,by have:=hp.2.2.1;omega,λr hr=>⟨(hp.2.2.2 r hr).1,by have:=(hp.2.2.2 r hr).2.1;omega,λc hc=>(hp.2.2.2 r hr).2.2 c hc⟩⟩) N 0 e.W ([],C) D m' hl hrk nN DU
 obtain⟨g,hg⟩:∃g,g=LW R (Ch R M.1):=⟨_,rfl⟩
 have hcl:GP Db EB (Kf R M.1)=Wd g:=by rw[hg];rfl
 rw[hcl]at hc31;obtain⟨T,hT⟩:∃T,T=BK (Wd g) N 0 e.W ([],C):=⟨_,rfl⟩
 rw[<-hT]at hc31;obtain⟨e1,he1⟩:∃e1:AH,e1={ e with W:=T.1 }:=⟨_,rfl⟩
 have Xo:∀e e' j,j≠n->X e j=X e' j:=λe e' j hj=>by rw[<-Xs e' e,AB _ _ hj]
 refine Ai 0 [(1,.ptr n 0),(2,.ptr (n+1) 0),(7,f90),(12,A8 cms)] (X e1) m' ?_ (λm'' hm''=>?_);have hx:D n=some (.cells (CF e)):=by rw[Dlow n nN];exact Xn e
 have hup:Aq (GQ a (a+1)) T.2 D n=some (.cells (CF e)):=by
  simp only[Aq,GQ];rw[nR nN,nR nN];exact hx
 rw[<-hD];rw[CF]at hx hup;rw[h91,h90,h89];simp[go_sem,hx];refine qI hc31 ?_;rintro v h' n' ⟨rfl,rfl,rfl⟩;simp[go_sem,hup,Or];intro j y q;by_cases ej:j=n;subst ej;rw[Xn]at q;rw[AC,<-q,he1,CF];have:=Xb _ j y q;rw[AB _ _ ej];simp only[Aq,GQ];rw[nR nN,nR nN];show D j=_;rw[Dlow j nN,Xo e e1 j ej];exact q;subst hm'';obtain⟨e2,he2⟩:∃e2:AH,e2={ e1 with T0:=g e.T0 }:=⟨_,rfl⟩
 refine Ai 0 [(1,.ptr n 0),(2,.ptr (n+1) 0),(12,A8 cms)] (X e2) m' ?_ (λm'' hm''=>?_)
 . have hx:=Xn e1;have hs:=Xs e1 e2;have h9:=w90 e.T0 he.T0 R nN M.1 M.2 hm1 (f:=false) (.inr rfl);have hgl:Kf R M.1 e.T0 = g e.T0:=by rw[hg];rfl
   rw[hgl,AF.h,AF.h,AF.j,AF.j]at h9;rw[he2]at hs ⊢;rw[he1]at hx hs ⊢;rw[CF]at hx hs;rw[h90,h89];simp[go_sem,hx];refine qO h9 ?_;simp[go_sem,hx,Or,hs]
   done
 subst hm'';obtain⟨e3,he3⟩:∃e3:AH,e3={ e2 with S:={ e.S with C:=cms } }:=⟨_,rfl⟩
 refine Ai 0 [(1,.ptr n 0),(2,.ptr (n+1) 0)] (X e3) m' ?_ (λm'' hm''=>?_)
 . have hx:=Xn e2;have hs:=Xs e2 e3;rw[he3]at hs ⊢;rw[he2]at hx hs ⊢;rw[he1]at hx hs ⊢;rw[CF]at hx hs;simp[go_sem,hx,Or,hs]
   done
 subst hm'';have hre:e3.V=e.V:=by rw[he3,he2,he1]
 have hgoal:Ho N e={ e3 with V:=EP e.V 0 }:=by
  rw[he3,he2,he1,hT,hg,hcms,Ho];rw[<-hR,<-hC,hMv]
 have hX3:=Xn e3;rw[CF,hre]at hX3;refine Ai 0 [(1,.ptr n 0),(2,.ptr (n+1) 0),(15,.x 0 [] true)] (X e3) m' ?_ (λm'' hm''=>?_)
 . simp[go_sem,Or]
   done
 subst hm'';refine Bz 1 [(1,.ptr n 0),(2,.ptr (n+1) 0),(15,Cq (EP e.V 0))] (X e3) (λm''=>n+2<=m'') ?_ (λm'' hm''=>?_)
 . obtain⟨E,hE⟩:∃E:Nat->List SV,∀i,E i=(EP (e.V.take i) 0).map CI.h:=⟨_,λ_=>rfl⟩
   have hEl:Cq (EP e.V 0)=.x 3 (E e.V.length) false:=by rw[hE,qn]
   rw[hEl];refine Ai 0 [(1,.ptr n 0),(2,.ptr (n+1) 0),(15,.x 0 [] true),(16,AA 0)] (X e3) m' ?_ (λm'' hm''=>?_)
   . simp[go_sem,Or]
     done
   subst hm'';have Gb:=Xb e3;have hmn:n+2<=m':=by omega
   refine AP (As 0 (α:=Nat×Option Nat) (λq=>[(1,.ptr n 0),(2,.ptr (n+1) 0),(15,AQ 3 q.2 (E q.1)),(16,AA q.1)]) (λq=>AS q.2 (E q.1) (X e3)) (λq m=>q.1<=e.V.length/\n+2<=m/\BG (n+2) m 3 q.2 (E q.1)) (λq=>e.V.length-q.1) (0,none) ⟨qi _,hmn,by rw[hE];exact wF _ _ _⟩ ?_ AE ?_);rw[hE];simp[go_sem,look,Or,AQ];rintro⟨i,o2⟩ m2 ⟨hi,hm2,hA2⟩;dsimp only at hi hm2 hA2 ⊢;obtain⟨W,hW⟩:∃W:Hp,W=AS o2 (E i) (X e3):=⟨_,rfl⟩
   have WG:∀j y,X e3 j=some y->W j=some y:=λj y g=>by rw[hW];exact D6 Gb hA2 j y g
   have Wn:=WG n _ hX3;have Wb:∀j y,W j=some y->j<m2:=λj y g=>by rw[hW]at g;exact EH Gb hm2 hA2 j y g
   rw[<-hW];by_cases hlt:i<e.V.length
   . have w1:=wS i nN;have hlt':(i:Int)<e.V.length:=by omega
     obtain⟨x,hx⟩:∃x,e.V[i]=x:=⟨_,rfl⟩
     have hEs:E (i+1)=E i++[.agg [AA ((i+1:Nat):Int),.str x.O,AA x.time]]:=by
      rw[hE,hE,qa hlt,hx,Lj,qc];rw[va,vQ nN];simp[CI.h]
     have hlen:(E i).length=i:=by rw[hE,qj,G8,va];omega
     refine Ai 0 [(1,.ptr n 0),(2,.ptr (n+1) 0),(15,AQ 3 o2 (E i)),(16,AA i)] W m2 ?_ (λm' hm'=>?_);simp[go_sem,Or,hlt,Wn];subst hm';refine AR 0 (α:=Option Nat) (λo'=>[(1,.ptr n 0),(2,.ptr (n+1) 0),(15,AQ 3 o' (E (i+1))),(16,AA i)]) (λo'=>AS o' (E (i+1)) (X e3)) (λo' m'=>n+2<=m'/\BG (n+2) m' 3 o' (E (i+1))) (AP ?_) (λo' m' hm'=>?_)
     . refine A6 0 [(1,.ptr n 0),(2,.ptr (n+1) 0),(15,AQ 3 o2 (E i)),(16,AA i),(17,.ptr m2 0)] (h_ W m2 (some (.cells [AA x.id,.str x.O,AA x.time]))) (λm'=>m2+1=m') ?_ (λm' hm'=>?_)
       . simp[go_sem,Or,hlt,Wn,hx,CI.h,AZ,AC]
         done
       subst hm';refine A6 0 [(1,.ptr n 0),(2,.ptr (n+1) 0),(15,AQ 3 o2 (E i)),(16,AA i),(17,.ptr m2 0)] (h_ W m2 (some (.cells [AA ((i+1:Nat):Int),.str x.O,AA x.time]))) (λm'=>m2+1=m') ?_ (λm' hm'=>?_)
       . simp[go_sem,AZ,AC,w1,Or,-Int.natCast_add]
         done
       subst hm';rw[hEs];generalize hes:E i=es at hA2 hlen hW ⊢;obtain⟨L,hL⟩:∃L,L=[AA ((i+1:Nat):Int),.str x.O,AA x.time]:=⟨_,rfl⟩
       rw[<-hL];have hLl:L.length=3:=by rw[hL];rfl
       have hLt:L.take 3=L:=by rw[hL];rfl
       obtain⟨out,ho1,ho2,ho3,ho4,ho5,ho6⟩:=F5 (X:=h_ (h_ W m2 (some (.cells L))) (m2+1) (some (.cells L))) (h:=X e3) (k:=m2+1) (p:=m2+1+1) (t:=30) (t2:=30) (el:=68) (z:=3) (e:=.agg L) (es:=es) nP nP nP nO nP nP nP nN hA2 rfl hLl (AC _ _ _)
        (λj y g=>by have:=Wb j y (by rw[hW];exact g);rw[AB _ _ nN,AB _ _ nN,hW];exact g) Gb nN nN
       simp only[CS.app]at ho5;have hvv:AQ 3 (some (m2+1+1)) (es++[.agg L])=.sl (m2+1+1) 0 3 (es.length+1) false:=by simp[AQ]
       refine AJ ?_;simp[go_sem,AC,hLl,hLt];rw[ho1];simp[go_sem,ho2,ho3];exact⟨some (m2+1+1),⟨by omega,ho4⟩,by rw[hvv];exact Or,ho5⟩
     refine AJ ?_;simp[go_sem,w1,Or,-Int.natCast_add];exact⟨i+1,by omega,o',⟨by omega,hm'.1,hm'.2⟩,⟨Or,Or⟩,AE⟩
   have hie:i=e.V.length:=by omega
   subst hie;have hfz:=AQ.fz' (k:=0) (λj hj=>Ac Gb hj) hA2 (h':=W) (λj y g=>by rw[hW];exact g);refine AJ ?_;simp[go_sem,Or,Wn,hm2];exact⟨hfz,WG⟩
 refine Ai 0 [(1,.ptr n 0),(2,.ptr (n+1) 0)] (X (Ho N e)) m'' ?_ (λm3 hm3=>?_)
 . have hs:=Xs e3 (Ho N e);rw[hgoal]at hs ⊢;rw[CF]at hs;simp[go_sem,hX3,Or,hs]
   done
 subst hm3;generalize Ho N e=z at *;have hfl:=Xn z;have hz:=Xz z;have hc:=c21 z hY hZ hW;rw[F9 z]at hc;rw[CF]at hfl hc;refine AJ ?_;simp[go_sem,hfl];refine qO hc ?_;generalize hw:z.normal=w;have hcl:=AH.cl n w;rw[F9,CF]at hcl ⊢;simp[go_sem,hz,AC,SV.cells];exact K8 ho hcl λj y q=>by
  have:=hHb j y q;rw[AB _ _ nN];exact Xh z j y q
end Go.Proofs.YthinbkgpjmjfeaaGreatDoor.Sh
