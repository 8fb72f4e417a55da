/- A part of the proof (part 18 of 18). -/
import Derived.Test.YtgakninlhfkkmaaGreatN17
import Derived.Test.YtgakninlhfkkmaaGreatRows
import Derived.JoinedCond
namespace Go.Proofs.YtgakninlhfkkmaaGreat.Sh
open Go.Proofs.Tryz
open Proofs
set_option maxRecDepth 10000
set_option maxHeartbeats 4000000
theorem fq(x:AF):PC 230 [x.e] (.fn (.func 276) [] [.q x.g]):=by
 intro h n;refine gq func230 rfl λa=>?_;simp[go_sem,AF.e,AF.g];refine Dj 3 a (AR a (qa _) AC) ?_ (by simp[cc,ca,Bi.E.ca,Bs.E.ca,AM.E.ca]);exact .inr ⟨rfl,trivial,AZ (a.none (qa n)) (by simp[h_]),trivial⟩
theorem Uq{h H:Hp}{p:Nat}{es:List SV}{e:SV}{o:Option Nat}{v:SV}(hn:∀j,o=some j->h j=none)(c:∀j y,h j=some y->H j=some y):
 ∀j y,AV (some p) (es++[e]) h j=some y->(C5.app H p { val:=v,upd:=o.map λj=>(j,none),new:=some (.cells (es.flatMap SV.cells++e.cells)) }) j=some y:=by
 intro j y a;simp only[AV]at a;by_cases b:j=p;subst b;rw[AD]at a;simp only[C5.app,AD];rw[<-a];simp;rw[AE _ _ b]at a;have:=c j y a;cases o with
 | none=>simp[C5.app,AE _ _ b,this]
 | some k=>
  have d:j≠k:=λe=>by rw[e,hn k rfl]at a;cases a
  simp[C5.app,AE _ _ b,AE _ _ d,this]
theorem Qt{h H:Hp}{p q:Nat}{es:List SV}{new old:Option Bb}(a:p≠q)(hl:∀j y,AV (some q) es (h_ h p old) j=some y->H j=some y):∀j y,AV (some q) es (h_ h p new) j=some y->h_ H p new j=some y:=λj y e=>by
 by_cases c:j=p;subst c;simp only[AV]at e;rw[AE _ _ a,AD]at e;rw[AD];exact e;rw[AE _ _ c];refine hl j y ?_;simp only[AV,h_]at e ⊢;by_cases d:j=q;rw[if_pos d]at e ⊢;exact e;rw[if_neg d,if_neg c]at e ⊢;exact e
theorem Q0(n:Nat)(h:AF)(b:Bool):cc n (.tup [h.e,.bool b])=true:=by simp[cc,ca,AF.e,AF.g,Bi.E.ca,Bs.E.ca,AM.E.ca]
structure Nw where
 p:Int×Bool
theorem TZ{E:CC}{N n:Nat}{R:LoopState->Option Code->Loop}{assign body:Code}{g:SV->Hp->Nat->Prop}{sa:SA}{h:Hp}{m:Nat}(fr:SA)
 (i:LP E prog N assign (λe f h1 m1=>e=.normal/\h1=h/\m1=m/\∀p∈fr,Ao f p.1=p.2) sa h m) (hl:h n=some (.loop (R .ready none)))
 (j:Ic E prog N body (Hg n R g) fr (h_ h n (some (.loop (R .busy none)))) m):QL prog E N n R assign body g sa h m:=
 GC (AJ i) λ_ _ _ _ ⟨a,b,c,d⟩=>by subst a;subst b;subst c;exact⟨rfl,hl,NG j d⟩
theorem Zp{g:FuncId}{a b:List SV}{acc rej:Int->Bool}(hv:VC g a b acc rej)(hd:AF)(hok:Jp hd):PC 162 [hd.e,.fn (.func g) a b] (.tup [((CE acc rej hd).getD DN).e,.bool (CE acc rej hd).isSome]):=by
 intro h n;refine cm func162 rfl (by kernel_rfl) (by kernel_rfl) (by simp[go_sem]) λho B=>?_;have hHb:=ho.lt;obtain⟨hok1,hok2⟩:=hok;obtain⟨T3,hT3⟩:∃T3:SV,T3=.q [.fn (.func g) a b]:=⟨_,rfl⟩
 have k225:∀x,PC 225 [AA x,T3] (.bool (acc x)):=λx=>by rw[hT3];exact bi hv x
 have k226:∀x,PC 226 [AA x,T3] (.bool (rej x)):=λx=>by rw[hT3];exact fk hv x
 have k227:PC 227 [Ax hd.Y,.fn (.func 228) [] [.q [.fn (.func 225) [] [T3]]]] (.bool (hd.Y.any λx=>acc x.rev)):=by
  rw[<-Vv hd.Y λx=>acc x.rev,hT3];exact fo hd.Y hok2 228 [] [.q [.fn (.func 225) [] [.q [.fn (.func g) a b]]]] _ λi hi=>by rw[qe hi];exact fp hv _
 obtain⟨T6,hT6⟩:∃T6:SV,T6=.q [.fn (.func 225) [] [T3]]:=⟨_,rfl⟩
 obtain⟨T7,hT7⟩:∃T7:SV,T7=.q [.fn (.func 226) [] [T3]]:=⟨_,rfl⟩
 obtain⟨T2,hT2⟩:∃T2:SV,T2=.q hd.g:=⟨_,rfl⟩
 obtain⟨T8,hT8⟩:∃T8:SV,T8=.q [AA hd.I,AA hd.move,Ax hd.Y,Ai hd.Z]:=⟨_,rfl⟩
 obtain⟨zc,hzc⟩:∃zc:List SV,zc=[.i 0 [] true,AA 0,AA 0,.i 0 [] true,.i 0 [] true]:=⟨_,rfl⟩
 refine B8 1 (α:=Nat) (λr=>[(2,T2),(3,T3),(4,.ptr r 0)]) (λr=>h_ h r (some (.cells zc))) (λr m=>n<=r/\r<m) ?_ (λr m hm=>?_);rw[hT2,hT3,hzc];simp[go_sem,AF.e,AF.g,qu];refine⟨n+2,by omega,⟨AZ (by simp only[h_];rw[if_neg (by omega)];exact AS hHb (qa _)) (by simp[h_]),AZ (by simp only[h_];rw[if_neg (by omega)];exact AS hHb (by omega)) (by simp[h_]),IO⟩,λj y=>?_⟩;have:=hHb j y;simp only[h_];grind;obtain⟨G,hG⟩:∃G:Hp,G=h_ h r (some (.cells zc)):=⟨_,rfl⟩
 rw[<-hG];have hGb:∀j y,G j=some y->j<r+1:=λj y e=>by
  rw[hG]at e;simp only[h_]at e;split at e;omega;have:=hHb j y e;omega
 have hGr:G r=some (.cells zc):=by rw[hG,AD]
 have hGk:∀j y,h j=some y->G j=some y:=λj y e=>by have:=hHb j y e;rw[hG,AE _ _ (by omega)];exact e
 refine By 1 [(2,T2),(3,T3),(4,.ptr r 0),(6,T6)] G (λm=>r<m) ?_ (λm hm=>?_);rw[hT6];simp[go_sem,IO,AD,Ah];exact⟨by omega,AZ (AS hGb (by omega)) (AD _ _ _),AL (λj z e=>by have:=hGb j z e;omega) AC⟩;refine By 1 [(2,T2),(4,.ptr r 0),(6,T6),(7,T7)] G (λm=>r<m) ?_ (λm hm=>?_);rw[hT7];simp[go_sem,IO,AD,Ah];exact⟨by omega,AZ (AS hGb (by omega)) (AD _ _ _),AL (λj z e=>by have:=hGb j z e;omega) AC⟩;refine By 1 [(2,T2),(4,.ptr r 0),(6,T6),(7,T7),(8,T8)] G (λm=>r<m) ?_ (λm hm=>?_);rw[hT2,hT8];simp[go_sem,IO,AF.g,AD,Ah];exact⟨by omega,AZ (AS hGb (by omega)) (AD _ _ _),AL (λj z e=>by have:=hGb j z e;omega) AC⟩;obtain⟨B0,hB0⟩:∃B0,B0=((decide (hd.I≠0)&&rej hd.I)||hd.Y.any (λx=>acc x.rev)):=⟨_,rfl⟩
 refine Bg 0 [(2,T2),(4,.ptr r 0),(6,T6),(7,T7),(8,T8)] G (λm=>r<m/\B0=false) ?_ (λm hm=>?_);refine By 0 [(2,T2),(4,.ptr r 0),(6,T6),(7,T7),(8,T8),(40,.bool B0)] G (λm=>r<m) ?_ (λm hm=>?_);rw[hT6,hT7,hT8];obtain⟨bd,hbd⟩:∃bd,bd=hd.Y.any (λx=>acc x.rev):=⟨_,rfl⟩
 rw[<-hbd]at k227 hB0;by_cases z:hd.I=0;have e:B0=bd:=by rw[hB0,z];simp
 simp[go_sem,z];refine k227.use ?_;simp[go_sem,IO,hm,e];have z':(hd.I !=0)=true:=by simpa using z
 simp[go_sem,z'];refine(k226 hd.I).use ?_;cases hr:rej hd.I with
 | true=>
  have e:B0=true:=by rw[hB0,hr];simp[z]
  simp[go_sem,IO,hm,e]
 | false=>
  have e:B0=bd:=by rw[hB0,hr];simp
  simp[go_sem];refine k227.use ?_;simp[go_sem,IO,hm,e]
 refine AJ ?_;cases hb:B0 with
 | true=>
  have hdec:CE acc rej hd=none:=by unfold CE;rw[<-hB0,hb];rfl
  rw[hdec];simp[go_sem,hGr,hzc,AD];exact Dj 3 ho (AL (λj z e=>by have:=hHb j z e;omega) hGk) (.inr ⟨.inr ⟨Bj (by simp),IO,IO,Bj (by simp),Bj (by simp),trivial⟩,IO,trivial⟩) (by simp[cc,ca,AF.e,AF.g,DN])
 | false=>simp[go_sem,IO,hm]
 obtain⟨hm,hB⟩:=hm;have hdec:CE acc rej hd=some { hd with Q:=((C8 hd.Z.length hd.Z).foldl (CM acc rej hd.Q) (hd.Q,[])).1,I:=if(decide (hd.I≠0)&&acc hd.I)=true then 0 else hd.I,move:=if(decide (hd.I≠0)&&acc hd.I)=true then 0 else hd.move,Y:=hd.Y.filter (λx=>!rej x.rev),Z:=((C8 hd.Z.length hd.Z).foldl (CM acc rej hd.Q) (hd.Q,[])).2 }:=by
  unfold CE;rw[<-hB0,hB];rfl
 rw[hdec];clear hdec hB0 hB k227;obtain⟨b1,Me⟩:∃b1,b1=(decide (hd.I≠0)&&acc hd.I):=⟨_,rfl⟩
 rw[<-Me];obtain⟨i0,hi0⟩:∃i0,i0=if b1=true then 0 else hd.I:=⟨_,rfl⟩
 obtain⟨v0,hv0⟩:∃v0,v0=if b1=true then 0 else hd.move:=⟨_,rfl⟩
 rw[<-hi0,<-hv0];refine B8 0 (α:=Nat) (λp=>[(2,T2),(4,.ptr r 0),(6,T6),(7,T7),(8,T8),(9,.ptr p 0)]) (λp=>h_ G p (some (.cells [AU hd.Q,AA hd.I,AA hd.move,.i 0 [] true,.i 0 [] true]))) (λp m=>r<p/\p<m) ?_ (λp m hm=>?_)
 . rw[hT2,hT8];simp[go_sem,AF.g]
   repeat first|refine nq ?_|refine sq ?_
   refine Yg _ _ _ _ _ _ (bn hd.Q (by omega)) ?_;simp[go_sem,IO,AD,Ah]
   repeat first|refine nq ?_|refine sq ?_
   exact⟨m,by omega,IO,AC⟩
 obtain⟨hrp,hpm⟩:=hm;have hrp':r≠p:=by omega
 refine Bg 0 [(2,T2),(4,.ptr r 0),(6,T6),(7,T7),(8,T8),(9,.ptr p 0)] (h_ G p (some (.cells [AU hd.Q,AA i0,AA v0,.i 0 [] true,.i 0 [] true]))) (λm=>p<m) ?_ (λm hm=>?_);refine By 0 [(2,T2),(4,.ptr r 0),(6,T6),(7,T7),(8,T8),(9,.ptr p 0),(59,.bool b1)] (h_ G p (some (.cells [AU hd.Q,AA hd.I,AA hd.move,.i 0 [] true,.i 0 [] true]))) (λm=>p<m) ?_ (λm hm=>?_);rw[hT6,hT8];by_cases z:hd.I=0;have e:b1=false:=by rw[Me,z];simp
 simp[go_sem,z,e,IO,hpm];have z':(hd.I !=0)=true:=by simpa using z
 have e:b1=acc hd.I:=by rw[Me];simp[z]
 simp[go_sem,z'];refine(k225 hd.I).use ?_;simp[go_sem,e,IO,hpm];refine AJ ?_;rw[hi0,hv0];cases b1 with
 | true=>simp[go_sem,AD,Ah,IO,hm]
 | false=>simp[go_sem,IO,hm]
 obtain⟨Dk,hDk⟩:∃Dk:Nat->List SV,∀i,Dk i=((hd.Y.take i).filter λx=>!rej x.rev).map Bs.e:=⟨_,λ_=>rfl⟩
 have hD0:Dk 0=[]:=by rw[hDk];rfl
 have hDs:∀i x,(hi:i<hd.Y.length)->hd.Y[i]=x->Dk (i+1)=Dk i++if rej x.rev then[]else[x.e]:=λi x hi e=>by
  rw[hDk,hDk,qb hi,e,QN,qc];by_cases c:rej x.rev=true<;>simp[c]
 have hDl:Dk hd.Y.length=(hd.Y.filter λx=>!rej x.rev).map Bs.e:=by rw[hDk,qm]
 have hDn:∀i,(Dk i).length<=i:=λi=>by
  rw[hDk,qf];exact qI (JM _ _) (vz i _)
 clear hDk;obtain⟨X,hX⟩:∃X:Option Nat->List SV->Hp,∀o D,X o D=h_ G p (some (.cells [AU hd.Q,AA i0,AA v0,AW 2 o D,.i 0 [] true])):=⟨_,λ_ _=>rfl⟩
 have hXp:∀o D,X o D p=some (.cells [AU hd.Q,AA i0,AA v0,AW 2 o D,.i 0 [] true]):=λo D=>by rw[hX,AD]
 have hXb:∀o D j y,X o D j=some y->j<m:=λo D j y e=>by
  rw[hX]at e;simp only[h_]at e;split at e;omega;have:=hGb j y e;omega
 have hXs:∀o D o' D',h_ (X o D) p (some (.cells [AU hd.Q,AA i0,AA v0,AW 2 o' D',.i 0 [] true]))=X o' D':=λo D o' D'=>by rw[hX,hX,Ah]
 refine AX 0 (α:=Option Nat) (λo=>[(2,T2),(4,.ptr r 0),(6,T6),(7,T7),(9,.ptr p 0)]) (λo=>AV o (Dk hd.Y.length) (X o (Dk hd.Y.length))) (λo m'=>m<=m'/\BR m m' 2 o (Dk hd.Y.length)) ?_ (λoD m2 hm2=>?_)
 . refine B5 0 [(2,T2),(4,.ptr r 0),(6,T6),(7,T7),(9,.ptr p 0),(65,Ax hd.Y),(66,AA hd.Y.length),(67,AA 0)] (X none []) m ?_ (λm' hm'=>?_);rw[hT8,hX];simp[go_sem,IO,AW];subst hm';refine AY (BT 0 (α:=Nat×Option Nat) (λq=>[(2,T2),(4,.ptr r 0),(6,T6),(7,T7),(9,.ptr p 0),(65,Ax hd.Y),(66,AA hd.Y.length),(67,AA q.1)]) (λq=>AV q.2 (Dk q.1) (X q.2 (Dk q.1))) (λq m'=>q.1<=hd.Y.length/\m<=m'/\BR m m' 2 q.2 (Dk q.1)) (λq=>hd.Y.length-q.1) (0,none) ⟨qg _,qa _,by simp only[hD0];exact vA _ _ _⟩ ?_ ?_ ?_);simp[go_sem,Ao,IO];simp only[hD0];exact AC;rintro⟨i,o⟩ m2 ⟨hi,hm2,hA⟩;dsimp only at hi hA ⊢;by_cases hlt:i<hd.Y.length
   . obtain⟨x,hx⟩:∃x,hd.Y[i]=x:=⟨_,rfl⟩
     have hst:=hDs i x hlt hx;have hEn:=hDn i;have w1:=wS i (by omega);generalize hE:Dk i=E at hA hst hEn ⊢;have hYb:∀j y,AV o E (X o E) j=some y->j<m2:=G0 (hXb o E) hm2 hA;refine B5 0 [(2,T2),(4,.ptr r 0),(6,T6),(7,T7),(9,.ptr p 0),(65,Ax hd.Y),(66,AA hd.Y.length),(67,AA i),(68,.bool true)] (AV o E (X o E)) m2 ?_ (λm' hm'=>?_);simp[go_sem,IO,hlt];subst hm';refine B5 0 [(2,T2),(4,.ptr r 0),(6,T6),(7,T7),(9,.ptr p 0),(65,Ax hd.Y),(66,AA hd.Y.length),(67,AA i)] (AV o E (X o E)) m2 ?_ (λm' hm'=>?_);simp[go_sem,IO];subst hm';refine AX 0 (α:=Option Nat) (λo=>[(2,T2),(4,.ptr r 0),(6,T6),(7,T7),(9,.ptr p 0),(65,Ax hd.Y),(66,AA hd.Y.length),(67,AA i)]) (λo=>AV o (Dk (i+1)) (X o (Dk (i+1)))) (λo m'=>m<=m'/\BR m m' 2 o (Dk (i+1))) (AY ?_) (λo m' hm'=>?_)
     . rw[hst];refine Aa 1 [(2,T2),(4,.ptr r 0),(6,T6),(7,T7),(9,.ptr p 0),(65,Ax hd.Y),(66,AA hd.Y.length),(67,AA i),(11,.q [AA x.rev,AA x.move])] (AV o E (X o E)) m2 ?_ (λm3 hm3=>?_);simp[go_sem,IO,hlt,hx,Bs.e,AD];exact⟨AZ (AS hYb (qa _)) (AD _ _ _),AL hYb (AL hYb AC)⟩;refine Aa 0 [(2,T2),(4,.ptr r 0),(6,T6),(7,T7),(9,.ptr p 0),(65,Ax hd.Y),(66,AA hd.Y.length),(67,AA i),(11,.q [AA x.rev,AA x.move]),(75,.bool (!rej x.rev))] (AV o E (X o E)) m2 ?_ (λm4 hm4=>?_);rw[hT7];simp[go_sem];refine(k226 x.rev).use ?_;simp[go_sem,IO,hm3];have hop:o≠some p:=λe=>by have:=(hA.lt p e).1;omega
       have hap:AV o E (X o E) p=some (.cells [AU hd.Q,AA i0,AA v0,AW 2 o E,.i 0 [] true]):=by
        cases o with
        | none=>exact hXp _ _
        | some k=>simp only[AV];rw[AE _ _ (λe=>hop (by rw[e]))];exact hXp _ _
       cases hr:rej x.rev with
       | true=>
        refine AJ ?_;simp[go_sem,IO];exact⟨o,⟨by omega,hA.mono (by omega)⟩,AC⟩
       | false =>
        simp only[qn,if_false];refine AJ ?_;simp[go_sem,hap,IO];have hpush:=hA.push (j:=m4+1) (m':=m4+1+1) (e:=x.e) (Bs.E.st _) (Bs.E.len _) (by omega) (by omega);rw[Fa (es:=E) (e:=x.e) (o:=o) (t:=24) (t2:=24) (el:=166) (z:=2) (by simp[go_sem]) (by simp[go_sem]) (by simp[go_sem]) (by simp) (by simp[go_sem]) (by simp[go_sem]) (by simp[go_sem]) (by omega) hA (Bs.E.len _) ?a1 ?a2]
        case a1=>simp[AD,Bs.e,SV.cells]
        case a2=>
         intro j e;have:=(hA.lt j e).2;rw[AE _ _ (by omega)];exact FX j e
        have hlive:=D7 (p:=m4+1) (v:=.sl (m4+1) 0 2 (E.length+1) false) (e:=x.e) (hXb o E) (by omega) hA (H:=h_ (AV o E (X o E)) m4 (some (.cells [AA x.rev,AA x.move]))) (AL (λj z e=>by have:=hXb o E j z e;omega) (Eb (hXb o E) hA));have hvv:AW 2 (some (m4+1)) (E++[x.e])=.sl (m4+1) 0 2 (E.length+1) false:=by simp[AW]
        have hl2:∀j y,AV (some (m4+1)) (E++[x.e]) (X (some (m4+1)) (E++[x.e])) j=some y->h_ (C5.app (h_ (AV o E (X o E)) m4 (some (.cells [AA x.rev,AA x.move]))) (m4+1) { val:=.sl (m4+1) 0 2 (E.length+1) false,upd:=o.map λj=>(j,none),new:=some (.cells (E.flatMap SV.cells++x.e.cells)) }) p (some (.cells [AU hd.Q,AA i0,AA v0,.sl (m4+1) 0 2 (E.length+1) false,.i 0 [] true])) j=some y:=by
         have e1:=hX (some (m4+1)) (E++[x.e]);have e0:=hX o E;rw[e1,hvv];refine Qt (old:=some (.cells [AU hd.Q,AA i0,AA v0,AW 2 o E,.i 0 [] true])) (by omega) ?_;rw[<-e0];exact hlive
        have n1:p≠m4:=by omega
        have n2:p≠m4+1:=by omega
        cases o with
        | none=>
         have hap2:X none E p=some (.cells [AU hd.Q,AA i0,AA v0,AW 2 none E,.i 0 [] true]):=hXp _ _;simp[go_sem,AE,n1,n2,AV,hap2];exact⟨some (m4+1),⟨by omega,hpush⟩,by simpa[C5.app,SV.cells,AV,Bs.e]using hl2⟩
        | some i=>
         have n3:p≠i:=λe=>hop (by rw[e]);have hap2:X (some i) E p=some (.cells [AU hd.Q,AA i0,AA v0,AW 2 (some i) E,.i 0 [] true]):=hXp _ _;simp[go_sem,AE,n1,n2,n3,AV,hap2];exact⟨some (m4+1),⟨by omega,hpush⟩,by simpa[C5.app,SV.cells,AV,Bs.e]using hl2⟩
     refine AJ ?_;simp[go_sem,w1,IO,-Int.natCast_add];exact⟨i+1,by omega,o,⟨by omega,hm'.1,hm'.2⟩,rfl,AC⟩
   have:i=hd.Y.length:=by omega
   subst this;refine AJ ?_;simp[go_sem,IO];exact⟨o,⟨hm2,hA⟩,AC⟩
 obtain⟨hm2,hAD⟩:=hm2;generalize Dk hd.Y.length=D at hAD hDl ⊢;clear hD0 hDs hDn;obtain⟨Gs,hGs⟩:∃Gs,Gs=C8 hd.Z.length hd.Z:=⟨_,rfl⟩
 rw[<-hGs];obtain⟨O,hO⟩:∃O:Nat->List Bi×List AM,∀k,O k=(Gs.take k).foldl (CM acc rej hd.Q) (hd.Q,[]):=⟨_,λ_=>rfl⟩
 have hO0:O 0=(hd.Q,[]):=by rw[hO];rfl
 have hOs:∀k gg,Gs[k]? = some gg->O (k+1)=CM acc rej hd.Q (O k) gg:=λk gg e=>by
  obtain⟨hk,e⟩:=qh.1 e;rw[hO,hO,qb hk,UU,e];rfl
 have hOl:O Gs.length=Gs.foldl (CM acc rej hd.Q) (hd.Q,[]):=by rw[hO,qm]
 have hcnt:Gs.length<=hd.Z.length:=by rw[hGs];exact KJ _ _
 have hflat:Gs.flatten.length<=hd.Z.length:=by rw[hGs];exact Lg _ _
 have hOn:∀k gg,Gs[k]? = some gg->(O k).1.length<=1048576/\(O k).2.length+gg.length<=1048576:=λk gg e=>by
  obtain⟨hk,e⟩:=qh.1 e;obtain⟨f1,f2⟩:=Ih (acc:=acc) (rej:=rej) (ps:=hd.Q) (Gs.take k) (hd.Q,[]);rw[<-hO]at f1 f2;have e2:Gs.flatten.length=(Gs.take k).flatten.length+(gg.length+(Gs.drop (k+1)).flatten.length):=by
   conv=>lhs;rw[<-qM k Gs,qQ hk,e,List.flatten_append,qq,List.flatten_cons,qq]
  have:=vz k Gs;rw[vD]at f1;simp only[vI]at f2;dsimp only at f1;omega
 rw[<-hOl];clear hO;obtain⟨W,hW⟩:∃W:List Bi->Option Nat->List AM->List SV,∀ps o L,W ps o L=[AU ps,AA i0,AA v0,AW 2 oD D,AW 4 o (L.map AM.e)]:=⟨_,λ_ _ _=>rfl⟩
 obtain⟨Hq,hHq⟩:∃Hq:Hp,Hq=AV oD D (X oD D):=⟨_,rfl⟩
 have hHqb:∀j y,Hq j=some y->j<m2:=by rw[hHq];exact G0 (hXb oD D) hm2 hAD
 have hDp:∀j,oD=some j->m<=j/\j<m2:=λj e=>hAD.lt j e;have hHqp:Hq p=some (.cells (W hd.Q none [])):=by
  rw[hHq,hW];cases oD with
  | none=>exact hXp _ _
  | some k=>have:=hDp k rfl;simp only[AV];rw[AE _ _ (by omega)];exact hXp _ _
 have hHqr:Hq r=some (.cells zc):=by
  have:X oD D r=some (.cells zc):=by rw[hX,AE _ _ hrp'];exact hGr
  rw[hHq];cases oD with
  | none=>exact this
  | some k=>have:=hDp k rfl;simp only[AV];rw[AE _ _ (by omega)];assumption
 have hHqk:∀j y,AV oD D h j=some y->Hq j=some y:=λj y e=>by
  rw[hHq];have hx:∀j y,h j=some y->X oD D j=some y:=λj y e=>by have:=hHb j y e;rw[hX,AE _ _ (by omega)];exact hGk j y e
  cases oD with
  | none=>exact hx j y e
  | some k=>
   simp only[AV,h_]at e ⊢;split at e;rename_i c;rw[if_pos c];exact e;rename_i c;rw[if_neg c];exact hx j y e
 rw[<-hHq];obtain⟨Z,hZ⟩:∃Z:Option Nat->List Bi->List AM->Hp,∀o ps L,Z o ps L=AV o (L.map AM.e) (h_ Hq p (some (.cells (W ps o L)))):=⟨_,λ_ _ _=>rfl⟩
 refine AX 0 (α:=Option Nat) (λo=>[(4,.ptr r 0),(9,.ptr p 0)]) (λo=>Z o (O Gs.length).1 (O Gs.length).2) (λo m'=>m2<=m'/\BR m2 m' 4 o ((O Gs.length).2.map AM.e)) ?_ (λo m3 hm3=>?_)
 . refine Aa 0 [(2,T2),(4,.ptr r 0),(6,T6),(7,T7),(9,.ptr p 0),(86,.fn (.func 276) [] [T2])] Hq m2 ?_ (λm3 hm3=>?_);rw[hT2];simp[go_sem,AF.g];refine qz (by simpa[AF.e,AF.g]using fq hd) ?_;simp[go_sem,IO];refine AY ?_;refine Et rfl rfl rfl λE1 yl R hY=>?_;let J:Nat->(Nat->Prop)->Hp->Nat->Prop:=λk Dm hh mm=>∃o,Dm=(λj=>j=p\/j=m3\/o=some j)/\m3<mm/\hh p=some (.cells (W (O k).1 o (O k).2))/\hh m3=some (.loop (R .ready none))/\BR (m3+1) mm 4 o ((O k).2.map AM.e)/\∀j,o=some j->hh j=some (.cells (((O k).2.map AM.e).flatMap SV.cells));have Y:YJ E1 yl Wk Gs J (λ_ _ _=>False):=by
    refine⟨λk gg Dm hh mm hx hJ=>?_,?_,?_⟩
    . obtain⟨o,rfl,g0,g1,g2,g3,g4⟩:=hJ;have hst:=hOs k gg hx;obtain⟨hn1,hn2⟩:=hOn k gg hx;obtain⟨key,hkey⟩:∃key,key=(gg.headD ⟨0,0,0,false⟩).key:=⟨_,rfl⟩
      obtain⟨p0,hp0⟩:∃p0,p0=Ix hd.Q key:=⟨_,rfl⟩
      have hst2:O (k+1)=(Hf (O k).1 key (Du acc rej p0 gg).2,(O k).2++(Du acc rej p0 gg).1):=by rw[hst,CM,<-hkey,<-hp0]
      clear hst;generalize hps:(O k).1=ps at g1 hn1 hst2;generalize hL0:(O k).2=L0 at g1 g3 g4 hn2 hst2;have hgE:Wk gg=[AA key,.i 4 (gg.map AM.e) false]:=by rw[hkey];rfl
      rw[hgE];refine hY _ _ _ _ g2 rfl (TZ [(2,T2),(6,T6),(7,T7),(9,.ptr p 0),(12,AA key),(13,.i 4 (gg.map AM.e) false)] ?_ g2 ?_);simp[go_sem,J0];have hmz:m3<mm:=g0;obtain⟨Bq,hBq⟩:∃Bq:Hp,Bq=λj=>if j=m3 then some (.loop (R .busy none))else if j<mm/\j≠p/\o≠some j then hh j else none:=⟨_,rfl⟩
      have hp3:p<m3:=by omega
      have hBqb:∀j y,Bq j=some y->j<mm:=λj y e=>by
       rw[hBq]at e;dsimp only at e;split at e;omega;split at e;rename_i c;exact c.1;cases e
      have hBq3:Bq m3=some (.loop (R .busy none)):=by rw[hBq];simp
      have hBqo:∀j,o=some j->j≠p/\j≠m3/\Bq j=none:=λj e=>by
       have:=g3.lt j e;refine⟨by omega,by omega,?_⟩;rw[hBq];dsimp only;rw[if_neg (by omega),if_neg λc=>c.2.2 e]
      have hBqk:∀j,j<mm->j≠p->j≠m3->o≠some j->Bq j=hh j:=λj c1 c2 c3 c4=>by rw[hBq];dsimp only;rw[if_neg c3,if_pos ⟨c1,c2,c4⟩]
      have done:∀(H2:Hp)(m':Nat)(sa:SA)(o':Option Nat)(L':List AM),mm<=m'->(∀j,j<mm->j≠p->j≠m3->o≠some j->H2 j=hh j)->H2 m3=some (.loop (R .busy none))->H2 p=some (.cells (W (Hf ps key (Du acc rej p0 gg).2) o' (L0++(Du acc rej p0 gg).1)))->BR (m3+1) m' 4 o' ((L0++(Du acc rej p0 gg).1).map AM.e)->(∀j,o'=some j->H2 j=some (.cells (((L0++(Du acc rej p0 gg).1).map AM.e).flatMap SV.cells)))->(∀j,o'=some j->o=some j\/mm<=j)->
       Hg m3 R (HN (J (k+1)) (λ_ _ _=>False) (λj=>j=p\/j=m3\/o=some j) hh mm) .normal sa H2 m':=by
       intro H2 m' sa o' L' q1 q2 q3 q4 q5 q6 q7;refine⟨q3,q1,λj=>j=p\/j=m3\/o'=some j,λj g=>?_,λj g c=>?_,.inl ⟨rfl,o',rfl,by omega,?_,AD _ _ _,by rw[hst2];exact q5,λj e=>?_⟩⟩;rcases g with g|g|g;exact .inl (.inl g);exact .inl (.inr (.inl g));rcases q7 j g with c|c;exact .inl (.inr (.inr c));exact .inr ⟨c,(q5.lt j g).2⟩;have c3:j≠m3:=λe=>g (.inr (.inl e));rw[AE _ _ c3];exact q2 j c (λe=>g (.inl e)) c3 λe=>g (.inr (.inr e));rw[AE _ _ (by omega),hst2];exact q4;have:=q5.lt j e;rw[AE _ _ (by omega),hst2];exact q6 j e
      obtain⟨V,hV⟩:∃V:Option Nat->List AM->Hp,∀o' L',V o' L'=AV o' (L'.map AM.e) (h_ Bq p (some (.cells (W ps o' L')))):=⟨_,λ_ _=>rfl⟩
      have hV0:∀j y,V o L0 j=some y->h_ hh m3 (some (.loop (R .busy none))) j=some y:=λj y e=>by
       have hb:∀j y,h_ Bq p (some (.cells (W ps o L0))) j=some y->h_ hh m3 (some (.loop (R .busy none))) j=some y:=λj y e=>by
        by_cases c:j=p;subst c;rw[AD]at e;rw[AE _ _ (by omega),g1];exact e;rw[AE _ _ c]at e;by_cases c3:j=m3;subst c3;rw[AD,<-hBq3];exact e;rw[AE _ _ c3];rw[hBq]at e;dsimp only at e;rw[if_neg c3]at e;split at e;exact e;cases e
       rw[hV]at e;cases o with
       | none=>exact hb j y e
       | some i=>
        have:=g3.lt i rfl;simp only[AV,h_]at e;split at e;rename_i c;subst c;rw[AE _ _ (by omega),g4 _ rfl];exact e;exact hb j y e
      have hVb:∀j y,V o L0 j=some y->j<mm:=λj y e=>by
       rw[hV]at e;have hb:∀j y,h_ Bq p (some (.cells (W ps o L0))) j=some y->j<mm:=λj y e=>by
        simp only[h_]at e;split at e;omega;exact hBqb j y e
       cases o with
       | none=>exact hb j y e
       | some i=>
        have:=g3.lt i rfl;simp only[AV,h_]at e;split at e;omega;exact hb j y e
      refine AY ?_;refine B5 0 [(2,T2),(6,T6),(7,T7),(9,.ptr p 0),(12,AA key),(13,.i 4 (gg.map AM.e) false),(14,.i 0 [] true)] (V o L0) mm ?_ (λm' hm'=>?_);simp[go_sem,IO];exact hV0;subst hm';obtain⟨S,hS⟩:∃S:Nat->List SV,∀i,S i=(gg.take i).map λy=>Pg (y.before,y.had):=⟨_,λ_=>rfl⟩
      have hS0:S 0=[]:=by rw[hS];rfl
      have hSs:∀i y,(hi:i<gg.length)->gg[i]=y->S (i+1)=S i++[Pg (y.before,y.had)]:=λi y hi e=>by rw[hS,hS,qb hi,e,qc];rfl
      have hSl:S gg.length++[Pg p0]=(Mi gg p0).map Pg:=by rw[hS,qm];unfold Mi;rw[qc,List.map_map];rfl
      have hSn:∀i,(S i).length<=i:=λi=>by rw[hS,qf];exact vz i _
      clear hS;have H5:∀q:Int×Bool,(Pg q).B=true/\(Pg q).cells.length=2:=λq=>⟨by simp[SV.B],by simp[SV.cells]⟩
      refine AX 0 (α:=Option Nat) (λos=>[(2,T2),(6,T6),(7,T7),(9,.ptr p 0),(12,AA key),(13,.i 4 (gg.map AM.e) false),(14,AW 2 os (S gg.length))]) (λos=>AV os (S gg.length) (V o L0)) (λos m'=>mm<=m'/\BR mm m' 2 os (S gg.length)) ?_ (λos m4 hm4=>?_)
      . refine B5 0 [(2,T2),(6,T6),(7,T7),(9,.ptr p 0),(12,AA key),(13,.i 4 (gg.map AM.e) false),(14,.i 0 [] true),(89,.i 4 (gg.map AM.e) false),(90,AA gg.length),(91,AA 0)] (V o L0) mm ?_ (λm' hm'=>?_);simp[go_sem,IO];subst hm';refine AY (BT 0 (α:=Nat×Option Nat) (λq=>[(2,T2),(6,T6),(7,T7),(9,.ptr p 0),(12,AA key),(13,.i 4 (gg.map AM.e) false),(14,AW 2 q.2 (S q.1)),(89,.i 4 (gg.map AM.e) false),(90,AA gg.length),(91,AA q.1)]) (λq=>AV q.2 (S q.1) (V o L0)) (λq m'=>q.1<=gg.length/\mm<=m'/\BR mm m' 2 q.2 (S q.1)) (λq=>gg.length-q.1) (0,none) ⟨qg _,qa _,by simp only[hS0];exact vA _ _ _⟩ ?_ ?_ ?_);simp[go_sem,Ao,IO,AW];simp only[hS0];exact AC;rintro⟨i,os⟩ m4 ⟨hi,hm4,hA⟩;dsimp only at hi hA ⊢;by_cases hlt:i<gg.length
        . obtain⟨y,hy⟩:∃y,gg[i]=y:=⟨_,rfl⟩
          have hst:=hSs i y hlt hy;have hEn:=hSn i;have w1:=wS i (by omega);generalize hE:S i=E at hA hst hEn ⊢;have hYb:∀j y,AV os E (V o L0) j=some y->j<m4:=G0 hVb hm4 hA;refine B5 0 [(2,T2),(6,T6),(7,T7),(9,.ptr p 0),(12,AA key),(13,.i 4 (gg.map AM.e) false),(14,AW 2 os E),(89,.i 4 (gg.map AM.e) false),(90,AA gg.length),(91,AA i),(92,.bool true)] (AV os E (V o L0)) m4 ?_ (λm' hm'=>?_);simp[go_sem,IO,hlt];subst hm';refine B5 0 [(2,T2),(6,T6),(7,T7),(9,.ptr p 0),(12,AA key),(13,.i 4 (gg.map AM.e) false),(14,AW 2 os E),(89,.i 4 (gg.map AM.e) false),(90,AA gg.length),(91,AA i)] (AV os E (V o L0)) m4 ?_ (λm' hm'=>?_);simp[go_sem,IO];subst hm';refine AX 0 (α:=Option Nat) (λos=>[(2,T2),(6,T6),(7,T7),(9,.ptr p 0),(12,AA key),(13,.i 4 (gg.map AM.e) false),(14,AW 2 os (S (i+1))),(89,.i 4 (gg.map AM.e) false),(90,AA gg.length),(91,AA i)]) (λos=>AV os (S (i+1)) (V o L0)) (λos m'=>mm<=m'/\BR mm m' 2 os (S (i+1))) (AY ?_) (λos m5 hm5=>?_)
          . rw[hst];refine Aa 1 [(2,T2),(6,T6),(7,T7),(9,.ptr p 0),(12,AA key),(13,.i 4 (gg.map AM.e) false),(14,AW 2 os E),(89,.i 4 (gg.map AM.e) false),(90,AA gg.length),(91,AA i),(16,.q [AA y.rev,AA y.key,AA y.before,.bool y.had])] (AV os E (V o L0)) m4 ?_ (λm5 hm5=>?_);simp[go_sem,IO,hlt,hy,AM.e,AD];exact⟨AZ (AS hYb (qa _)) (AD _ _ _),AL hYb (AL hYb AC)⟩;refine AJ ?_;simp[go_sem];refine qz (by simpa[AM.e]using fu y) ?_;simp[go_sem];have hpush:=hA.push (j:=m5+1) (m':=m5+1+1) (e:=Pg (y.before,y.had)) (H5 _).1 (H5 _).2 (by omega) (by omega);rw[Fa (es:=E) (e:=Pg (y.before,y.had)) (o:=os) (t:=289) (t2:=289) (el:=291) (z:=2) (by simp[go_sem]) (by simp[go_sem]) (by simp[go_sem]) (by simp) (by simp[go_sem]) (by simp[go_sem]) (by simp[go_sem]) (by omega) hA (H5 _).2 ?a1 ?a2]
            case a1=>simp[AD,SV.cells]
            case a2=>
             intro j e;have:=(hA.lt j e).2;rw[AE _ _ (by omega)];exact FX j e
            have hlive:=D7 (p:=m5+1) (v:=.sl (m5+1) 0 2 (E.length+1) false) (e:=Pg (y.before,y.had)) hVb (by omega) hA (H:=h_ (AV os E (V o L0)) m5 (some (.cells [AA y.before,.bool y.had]))) (AL (λj z e=>by have:=hVb j z e;omega) (Eb hVb hA));have hvv:AW 2 (some (m5+1)) (E++[Pg (y.before,y.had)])=.sl (m5+1) 0 2 (E.length+1) false:=by simp[AW]
            simp[go_sem];exact⟨some (m5+1),⟨by omega,hpush⟩,hvv.symm,by simpa[C5.app,SV.cells]using hlive⟩
          refine AJ ?_;simp[go_sem,w1,IO,-Int.natCast_add];exact⟨i+1,by omega,os,⟨by omega,hm5.1,hm5.2⟩,⟨rfl,rfl⟩,AC⟩
        have:i=gg.length:=by omega
        subst this;refine AJ ?_;simp[go_sem,IO];exact⟨os,⟨hm4,hA⟩,rfl,AC⟩
      obtain⟨hm4,hA⟩:=hm4;have hSn2:=hSn gg.length;generalize S gg.length=E at hA hSl hSn2 ⊢;clear hS0 hSs hSn;have hYb:∀j y,AV os E (V o L0) j=some y->j<m4:=G0 hVb hm4 hA;obtain⟨ST,hST⟩:∃ST:SV,ST=.i 2 ((Mi gg p0).map Pg) false:=⟨_,rfl⟩
      refine Aa 1 [(6,T6),(7,T7),(9,.ptr p 0),(12,AA key),(13,.i 4 (gg.map AM.e) false),(14,ST)] (V o L0) mm ?_ (λm5 hm5=>?_)
      . rw[hT2];simp[go_sem,AF.g];refine qz (fw hd.Q (by omega) (AA hd.I) (AA hd.move) (Ax hd.Y) (Ai hd.Z) key) ?_;rw[<-hp0];simp[go_sem];have hpush:=hA.push (j:=m4+1) (m':=m4+1+1) (e:=Pg p0) (H5 _).1 (H5 _).2 (by omega) (by omega);rw[Fa (es:=E) (e:=Pg p0) (o:=os) (t:=289) (t2:=289) (el:=291) (z:=2) (by simp[go_sem]) (by simp[go_sem]) (by simp[go_sem]) (by simp) (by simp[go_sem]) (by simp[go_sem]) (by simp[go_sem]) (by omega) hA (H5 _).2 ?a1 ?a2]
        case a1=>simp[AD,SV.cells]
        case a2=>
         intro j e;have:=(hA.lt j e).2;rw[AE _ _ (by omega)];exact FX j e
        have hlive:=D7 (p:=m4+1) (v:=.sl (m4+1) 0 2 (E.length+1) false) (e:=Pg p0) hVb (by omega) hA (H:=h_ (AV os E (V o L0)) m4 (some (.cells [AA p0.1,.bool p0.2]))) (AL (λj z e=>by have:=hVb j z e;omega) (Eb hVb hA));have hvv:AW 2 (some (m4+1)) (E++[Pg p0])=.sl (m4+1) 0 2 (E.length+1) false:=by simp[AW]
        have hfz:=AW.fz' (h:=V o L0) (k:=0) (λj hj=>AS hVb hj) hpush hlive;have BV:=λj y e=>hlive j y (Eb hVb hpush j y e);rw[hvv,hSl,<-hST]at hfz;simp[go_sem];exact⟨by omega,by simpa[C5.app,SV.cells]using hfz,by simpa[C5.app,SV.cells]using BV⟩
      clear hA hYb hSl;have hgl:gg.length<=1048576:=by omega
      refine Aa 0 [(6,T6),(7,T7),(9,.ptr p 0),(12,AA key),(13,.i 4 (gg.map AM.e) false),(14,ST),(17,AA (0:Nat))] (V o L0) mm ?_ (λm6 hm6=>?_);simp[go_sem,IO,hm5];refine CW 0 [(7,T7),(9,.ptr p 0),(12,AA key),(13,.i 4 (gg.map AM.e) false),(14,ST),(17,AA (EW acc gg:Nat))] (V o L0) mm ?_ (λm7 hm7=>?_);refine Aa 0 [(6,T6),(7,T7),(9,.ptr p 0),(12,AA key),(13,.i 4 (gg.map AM.e) false),(14,ST),(17,AA (0:Nat)),(107,.i 4 (gg.map AM.e) false),(108,AA gg.length),(109,AA 0)] (V o L0) mm ?_ (λm7 hm7=>?_);simp[go_sem,IO,hm6];refine AY (BT 0 (α:=Nat) (λi=>[(6,T6),(7,T7),(9,.ptr p 0),(12,AA key),(13,.i 4 (gg.map AM.e) false),(14,ST),(17,AA (EW acc (gg.take i):Nat)),(107,.i 4 (gg.map AM.e) false),(108,AA gg.length),(109,AA i)]) (λ_=>V o L0) (λi m'=>i<=gg.length/\mm<=m') (λi=>gg.length-i) 0 ⟨qg _,hm7⟩ ?_ AC ?_);simp[go_sem,Ao,IO,EW];rintro i m8 ⟨hi,hm8⟩;by_cases hlt:i<gg.length;obtain⟨y,hy⟩:∃y,gg[i]=y:=⟨_,rfl⟩
      have w1:=wS i (by omega);have hst:EW acc (gg.take (i+1))=if acc y.rev then i+1 else EW acc (gg.take i):=by
       rw[qb hlt,hy,Ny,vD,Ut (by omega)]
      generalize EW acc (gg.take i)=f0 at hst ⊢;obtain⟨f1,hf1⟩:∃f1,EW acc (gg.take (i+1))=f1:=⟨_,rfl⟩
      rw[hf1]at hst;refine Aa 0 [(6,T6),(7,T7),(9,.ptr p 0),(12,AA key),(13,.i 4 (gg.map AM.e) false),(14,ST),(17,AA (f0:Nat)),(107,.i 4 (gg.map AM.e) false),(108,AA gg.length),(109,AA i),(110,.bool true)] (V o L0) mm ?_ (λm9 hm9=>?_);simp[go_sem,IO,hm8,hlt];refine Aa 0 [(6,T6),(7,T7),(9,.ptr p 0),(12,AA key),(13,.i 4 (gg.map AM.e) false),(14,ST),(17,AA (f0:Nat)),(107,.i 4 (gg.map AM.e) false),(108,AA gg.length),(109,AA i)] (V o L0) mm ?_ (λm9 hm9=>?_);simp[go_sem,IO,hm9];refine AX 0 (α:=Unit) (λ_=>[(6,T6),(7,T7),(9,.ptr p 0),(12,AA key),(13,.i 4 (gg.map AM.e) false),(14,ST),(17,AA (f1:Nat)),(107,.i 4 (gg.map AM.e) false),(108,AA gg.length),(109,AA i)]) (λ_=>V o L0) (λ_ m'=>mm<=m') (AY ?_) (λ_ m10 hm10=>?_);refine Aa 1 [(6,T6),(7,T7),(9,.ptr p 0),(12,AA key),(13,.i 4 (gg.map AM.e) false),(14,ST),(17,AA (f0:Nat)),(107,.i 4 (gg.map AM.e) false),(108,AA gg.length),(109,AA i),(18,AA i),(19,.q [AA y.rev,AA y.key,AA y.before,.bool y.had])] (V o L0) mm ?_ (λm10 hm10=>?_);have hVm:∀j z,V o L0 j=some z->j<m9:=λj z e=>by have:=hVb j z e;omega
      simp[go_sem,IO,hlt,hy,AM.e,AD];exact⟨by omega,AZ (AS hVm (qa _)) (AD _ _ _),AL hVm (AL hVm AC)⟩;refine AJ ?_;rw[hT6];simp[go_sem];refine(k225 y.rev).use ?_;cases ha:acc y.rev with
      | true=>
       rw[ha,if_pos rfl]at hst;subst hst;simp[go_sem,w1,IO,hm10,-Int.natCast_add]
      | false=>
       rw[ha,if_neg (by decide)]at hst;subst hst;simp[go_sem,IO,hm10]
      refine AJ ?_;simp[go_sem,w1,IO,-Int.natCast_add];exact⟨i+1,by omega,⟨by omega,hm10⟩,by rw[hf1];exact⟨rfl,rfl⟩⟩;have:i=gg.length:=by omega
      subst this;rw[qm];refine AJ ?_;simp[go_sem,IO,hm8];obtain⟨f,hf⟩:∃f,f=EW acc gg:=⟨_,rfl⟩
      have hfl:f<=gg.length:=by rw[hf];exact RV acc gg
      have D0:=Tt.start acc rej p0 gg L0;rw[<-hf]at D0 ⊢;have hSTg:∀j,j<=gg.length->∃hj:j<((Mi gg p0).map Pg).length,((Mi gg p0).map Pg)[j]=Pg (KZ p0 (gg.drop j)):=λj hj=>by
       have h1:j<(Mi gg p0).length:=by rw[SB];omega
       refine⟨by rw[qf];exact h1,?_⟩;rw[List.getElem_map];have:=XV gg p0 j hj;rw[qe h1]at this;rw[Option.some.inj this]
      have hSTl:((Mi gg p0).map Pg).length=gg.length+1:=by rw[qf,SB]
      generalize(Mi gg p0).map Pg=SL at hST hSTg hSTl;obtain⟨LE,hLE⟩:∃LE:SV,LE=.i 4 (gg.map AM.e) false:=⟨_,rfl⟩
      rw[<-hLE];refine B8 0 (α:=Nat) (λc=>[(7,T7),(9,.ptr p 0),(12,AA key),(13,LE),(14,ST),(17,AA f),(20,.ptr c 0)]) (λc=>h_ (V o L0) c (some (.cells [AA (KZ p0 (gg.drop f)).1,.bool (KZ p0 (gg.drop f)).2]))) (λc m'=>mm<=c/\c<m') ?_ (λc m8 hm8=>?_);obtain⟨hj0,hg0⟩:=hSTg f hfl;rw[hST];simp[go_sem,hj0,hg0,IO,AD,Ah];exact⟨m7,by omega,IO,AC⟩;obtain⟨hc1,hc2⟩:=hm8;have hcp:c≠p:=by omega
      have hc3:c≠m3:=by omega
      obtain⟨U,hU⟩:∃U:Option Nat->List AM->Int×Bool->Hp,∀o' L' s,U o' L' s=AV o' (L'.map AM.e) (h_ (h_ Bq c (some (.cells [AA s.1,.bool s.2]))) p (some (.cells (W ps o' L')))):=⟨_,λ_ _ _=>rfl⟩
      have hUV:∀s:Int×Bool,h_ (V o L0) c (some (.cells [AA s.1,.bool s.2]))=U o L0 s:=λs=>by
       have hb:h_ (h_ Bq p (some (.cells (W ps o L0)))) c (some (.cells [AA s.1,.bool s.2]))=h_ (h_ Bq c (some (.cells [AA s.1,.bool s.2]))) p (some (.cells (W ps o L0))):=by
        funext j;simp only[h_];grind
       rw[hU,hV];cases o with
       | none=>exact hb
       | some i=>
        have:=g3.lt i rfl;simp only[AV];rw[<-hb];funext j;simp only[h_];grind
      rw[hUV];have okO:∀j,o=some j->j≠p/\j≠c/\j≠m3/\Bq j=none/\(o=some j\/mm<=j):=λj e=>by
       have:=g3.lt j e;obtain⟨a1,a2,a3⟩:=hBqo j e;exact⟨a1,by omega,a2,a3,.inl e⟩
      have hUp:∀o' L' s,(∀j,o'=some j->j≠p/\j≠c/\j≠m3/\Bq j=none/\(o=some j\/mm<=j))->U o' L' s p=some (.cells (W ps o' L'))/\U o' L' s c=some (.cells [AA s.1,.bool s.2])/\(∀s',h_ (U o' L' s) c (some (.cells [AA s'.1,.bool s'.2]))=U o' L' s'):=λo' L' s ok=>by
       rw[hU];cases o' with
       | none=>
        refine⟨AD _ _ _,by simp only[AV];rw[AE _ _ hcp,AD],λs'=>?_⟩;rw[hU];simp only[AV];funext j;simp only[h_];grind
       | some i=>
        obtain⟨a1,a2,_⟩:=ok i rfl;refine⟨by simp only[AV];rw[AE _ _ (Ne.symm a1),AD],by simp only[AV];rw[AE _ _ (Ne.symm a2),AE _ _ hcp,AD],λs'=>?_⟩;rw[hU];simp only[AV];funext j;simp only[h_];grind
      refine AX 0 (α:=Option Nat×List AM×Nw) (λq=>[(9,.ptr p 0),(12,AA key),(20,.ptr c 0)]) (λq=>U q.1 q.2.1 q.2.2.p) (λq m'=>m8<=m'/\BR (m3+1) m' 4 q.1 (q.2.1.map AM.e)/\(∀j,q.1=some j->j≠p/\j≠c/\j≠m3/\Bq j=none/\(o=some j\/mm<=j))/\Tt rej p0 gg L0 (Du acc rej p0 gg) gg.length q.2.1 q.2.2.p) ?_ (λq m9 hm9=>?_)
      . refine B5 0 [(7,T7),(9,.ptr p 0),(12,AA key),(13,LE),(14,ST),(20,.ptr c 0),(21,AA f)] (U o L0 (KZ p0 (gg.drop f))) m8 ?_ (λm' hm'=>?_);simp[go_sem,IO];subst hm';refine AY (BT 0 (α:=Nat×Option Nat×List AM×Nw) (λq=>[(7,T7),(9,.ptr p 0),(12,AA key),(13,LE),(14,ST),(20,.ptr c 0),(21,AA q.1)]) (λq=>U q.2.1 q.2.2.1 q.2.2.2.p) (λq m'=>q.1<=gg.length/\q.2.2.1.length<=L0.length+q.1/\m8<=m'/\BR (m3+1) m' 4 q.2.1 (q.2.2.1.map AM.e)/\(∀j,q.2.1=some j->j≠p/\j≠c/\j≠m3/\Bq j=none/\(o=some j\/mm<=j))/\Tt rej p0 gg L0 (Du acc rej p0 gg) q.1 q.2.2.1 q.2.2.2.p) (λq=>gg.length-q.1) (f,o,L0,⟨KZ p0 (gg.drop f)⟩) ⟨hfl,Nat.le_add_right _ _,qa _,g3.mono (by omega),okO,D0⟩ ?_ AC ?_);simp[go_sem,Ao,IO];rintro⟨k,o',L',⟨s⟩⟩ m9 ⟨hk,hLn,hm9,hA,hok',hD'⟩;dsimp only at hk hLn hA hok' hD' ⊢;obtain⟨hUp1,hUc,hUs⟩:=hUp o' L' s hok';by_cases hlt:k<gg.length
        . obtain⟨y,hy⟩:∃y,gg[k]=y:=⟨_,rfl⟩
          have hlt':(k:Int)<gg.length:=by omega
          have w1:=wS k (by omega);refine CG 0 [(7,T7),(9,.ptr p 0),(12,AA key),(13,LE),(14,ST),(20,.ptr c 0),(21,AA k)] (U o' L' s) m9 (AJ ?_) (λm' hm'=>?_);rw[hLE];simp[go_sem,IO,hlt'];subst hm';refine AX 0 (α:=Option Nat×List AM×Nw) (λq=>[(7,T7),(9,.ptr p 0),(12,AA key),(13,LE),(14,ST),(20,.ptr c 0),(21,AA k)]) (λq=>U q.1 q.2.1 q.2.2.p) (λq m'=>q.2.1.length<=L0.length+(k+1)/\m8<=m'/\BR (m3+1) m' 4 q.1 (q.2.1.map AM.e)/\(∀j,q.1=some j->j≠p/\j≠c/\j≠m3/\Bq j=none/\(o=some j\/mm<=j))/\Tt rej p0 gg L0 (Du acc rej p0 gg) (k+1) q.2.1 q.2.2.p) (AY ?_) (λq m10 hm10=>?_)
          . refine Bg 0 [(7,T7),(9,.ptr p 0),(12,AA key),(13,LE),(14,ST),(20,.ptr c 0),(21,AA k)] (U o' L' s) (λm'=>m9=m'/\rej y.rev=false) (AJ ?_) (λm' hm'=>?_)
            . rw[hLE,hT7];have k6:=k226 y.rev;cases hr:rej y.rev with
              | true=>
               rw[hr]at k6;simp[go_sem,hlt,hy,AM.e]
               repeat first|refine nq ?_|refine sq ?_
               refine Yg _ _ _ _ _ _ k6 ?_;simp[go_sem,IO];refine nd (by kernel_rfl) ?_;exact⟨o',L',⟨s⟩,⟨by omega,hm9,hA,hok',hD'.skip hlt (by rw[hy];exact hr)⟩,AC⟩
              | false=>
               rw[hr]at k6;simp[go_sem,hlt,hy,AM.e]
               repeat first|refine nq ?_|refine sq ?_
               refine Yg _ _ _ _ _ _ k6 ?_;simp[go_sem,IO];exact(nd (by kernel_rfl) trivial).1
            obtain⟨hm',hr⟩:=hm';subst hm';obtain⟨yn,hyn⟩:∃yn:AM,yn=⟨y.rev,y.key,s.1,s.2⟩:=⟨_,rfl⟩
            refine B8 0 (α:=Option Nat) (λo2=>[(9,.ptr p 0),(7,T7),(12,AA key),(13,LE),(14,ST),(20,.ptr c 0),(21,AA k)]) (λo2=>U o2 (L'++[yn]) s) (λo2 m'=>m9<=m'/\BR (m3+1) m' 4 o2 ((L'++[yn]).map AM.e)/\(∀j,o2=some j->j≠p/\j≠c/\j≠m3/\Bq j=none/\(o=some j\/mm<=j))) ?_ (λo2 m10 hm10=>?_)
            . rw[hLE];rw[hW]at hUp1;simp[go_sem,hlt,hy,AM.e,hUp1,hUc];have hpm9:p<m9:=by omega
              have hcm9:c<m9:=by omega
              repeat first|refine aq ?_|refine nd (by simp[Bo,DZ,CU,Aq,Region.binds]<;>omega) ?_|refine sq ?_
              refine Yg _ _ _ _ _ _ (by simpa[AM.e]using fx y s.1 s.2) ?_;simp[go_sem]
              repeat first|refine aq ?_|refine nd (by simp[Bo,DZ,CU,Aq,Region.binds]<;>omega) ?_|refine sq ?_
              have hLL:(L'.map AM.e).length+1<=1073741824:=by rw[qf];omega
              rw[Fa (es:=L'.map AM.e) (e:=yn.e) (o:=o') (t:=25) (t2:=25) (el:=164) (z:=4) (by simp[go_sem]) (by simp[go_sem]) (by simp[go_sem]) (by simp) (by simp[go_sem]) (by simp[go_sem]) (by simp[go_sem]) hLL hA (AM.E.len _) ?a1 ?a2]
              case a1=>rw[AD,hyn];simp[AM.e,SV.cells]
              case a2=>
               intro j e;have:=(hA.lt j e).2;rw[AE _ _ (by omega),hU,e];exact AD _ _ _
              have Me:∀j z,h_ (h_ Bq c (some (.cells [AA s.1,.bool s.2]))) p (some (.cells (W ps o' L'))) j=some z->j<m9/\U o' L' s j=some z:=λj z e=>by
               have hj:j<m9:=by
                simp only[h_]at e;split at e;omega;split at e;omega;have:=hBqb j z e;omega
               refine⟨hj,?_⟩;rw[hU];cases o' with
               | none=>exact e
               | some i=>
                obtain⟨a1,a2,_,a4,_⟩:=hok' i rfl;have:j≠i:=λc0=>by subst c0;rw[AE _ _ a1,AE _ _ a2,a4]at e;cases e
                simp only[AV];rw[AE _ _ this];exact e
              have hlv:=Uq (h:=h_ (h_ Bq c (some (.cells [AA s.1,.bool s.2]))) p (some (.cells (W ps o' L')))) (H:=h_ (U o' L' s) m9 (some (.cells [AA y.rev,AA y.key,AA s.1,.bool s.2]))) (p:=m9+1) (es:=L'.map AM.e) (e:=yn.e) (o:=o') (v:=.sl (m9+1) 0 4 ((L'.map AM.e).length+1) false)
               (λj e=>by obtain⟨a1,a2,_,a4,_⟩:=hok' j e;rw[AE _ _ a1,AE _ _ a2];exact a4) (λj z e=>by have:=Me j z e;rw[AE _ _ (by omega)];exact this.2)
              have hl2:∀j z,U (some (m9+1)) (L'++[yn]) s j=some z->h_ (C5.app (h_ (U o' L' s) m9 (some (.cells [AA y.rev,AA y.key,AA s.1,.bool s.2]))) (m9+1) { val:=.sl (m9+1) 0 4 ((L'.map AM.e).length+1) false,upd:=o'.map λj=>(j,none),new:=some (.cells ((L'.map AM.e).flatMap SV.cells++yn.e.cells)) }) p (some (.cells [AU ps,AA i0,AA v0,AW 2 oD D,.sl (m9+1) 0 4 ((L'.map AM.e).length+1) false])) j=some z:=by
               have e1:W ps (some (m9+1)) (L'++[yn])=[AU ps,AA i0,AA v0,AW 2 oD D,.sl (m9+1) 0 4 ((L'.map AM.e).length+1) false]:=by rw[hW];simp[AW]
               rw[hU,qc,e1];exact Qt (by omega) hlv
              have hpush:=hA.push (j:=m9+1) (m':=m9+1+1) (e:=yn.e) (AM.E.st _) (AM.E.len _) (by omega) (by omega);have hpush2:BR (m3+1) (m9+1+1) 4 (some (m9+1)) ((L'++[yn]).map AM.e):=by rw[qc];exact hpush
              have n1:p≠m9:=by omega
              have n2:p≠m9+1:=by omega
              have hBn:Bq (m9+1)=none:=AS hBqb (by omega);clear hlv Me hpush;cases o' with
              | none=>
               simp[go_sem,AW,AE,n1,n2,hUp1]
               repeat first|refine aq ?_|refine nd (by simp[Bo,DZ,CU,Aq,Region.binds]<;>omega) ?_|refine sq ?_
               exact⟨some (m9+1),⟨by omega,by simpa[AM.e]using hpush2,λj e=>by cases e;exact⟨by omega,by omega,by omega,hBn,.inr (by omega)⟩⟩,by simpa[C5.app,AW,Ah,SV.cells]using hl2⟩
              | some i=>
               have n3:p≠i:=λe=>(hok' i rfl).1 e.symm;obtain⟨i1,i2,i3,i4,i5⟩:=hok' i rfl;have hi9:=(hA.lt i rfl).2;simp[go_sem,AW,AE,n1,n2,n3,hUp1]
               repeat first|refine aq ?_|refine And.intro (by intro k e;omega) ?_|refine nd (by simp[Bo,DZ,CU,Aq,Region.binds]<;>omega) ?_|refine sq ?_
               exact⟨some (m9+1),⟨by omega,by simpa[AM.e]using hpush2,λj e=>by cases e;exact⟨by omega,by omega,by omega,hBn,.inr (by omega)⟩⟩,by simpa[C5.app,AW,Ah,SV.cells]using hl2⟩
            obtain⟨q1,q2,q3⟩:=hm10;obtain⟨_,hUc2,hUs2⟩:=hUp o2 (L'++[yn]) s q3;obtain⟨hj1,hg1⟩:=hSTg (k+1) (by omega);have hDt:=hD'.take hlt (by rw[hy];exact hr);rw[hy,<-hyn]at hDt;refine AJ ?_;rw[hST];simp[go_sem,w1,hj1,hg1,hUc2,hUs2,IO,-Int.natCast_add];exact⟨o2,L'++[yn],⟨KZ p0 (gg.drop (k+1))⟩,⟨by rw[qq];simp;omega,by omega,q2,q3,hDt⟩,AC⟩
          obtain⟨b1,b2,b3,b4,b5⟩:=hm10;refine AJ ?_;simp[go_sem,w1,IO,-Int.natCast_add];exact⟨k+1,by omega,q.1,q.2.1,q.2.2,⟨by omega,b1,b2,b3,b4,b5⟩,rfl,AC⟩
        have:k=gg.length:=by omega
        subst this;refine Bg 0 [] h (λ_=>False) (AJ ?_) (λ_ hm=>hm.elim);rw[hLE];simp[go_sem,IO];exact⟨o',L',⟨s⟩,⟨hm9,hA,hok',hD'⟩,AC⟩
      obtain⟨o',L',⟨s⟩⟩:=q;obtain⟨hm9,hA,hok',hD'⟩:=hm9;dsimp only at hA hok' hD' ⊢;obtain⟨hUp1,hUc,hUs⟩:=hUp o' L' s hok';obtain⟨eL,eS⟩:=hD'.done;refine AJ ?_;rw[hW]at hUp1;simp[go_sem,hUp1,hUc];refine qP (iV ps hn1 (AA i0) (AA v0) (AW 2 oD D) (AW 4 o' (L'.map AM.e)) key s.1 s.2) ?_;rintro w H' n' ⟨q1,q2,q3,rfl⟩;have hHp:=q2 p _ hUp1;simp[go_sem,hHp];have hUo:∀j,j<mm->j≠p->o≠some j->U o' L' s j=Bq j:=λj c1 c2 c4=>by
       have hb:h_ (h_ Bq c (some (.cells [AA s.1,.bool s.2]))) p (some (.cells (W ps o' L'))) j=Bq j:=by rw[AE _ _ c2,AE _ _ (by omega)]
       rw[hU];cases o' with
       | none=>exact hb
       | some i =>
        have:j≠i:=λe=>by
         rcases(hok' i rfl).2.2.2.2 with g|g;exact c4 (by rw[e];exact g);omega
        simp only[AV];rw[AE _ _ this];exact hb
      refine done _ _ _ o' L' (by omega) (λj c1 c2 c3 c4=>?_) ?_ ?_ (by rw[<-eL];exact hA.mono (by omega)) (λj e=>?_) λj e=>(hok' j e).2.2.2.2;rw[AE _ _ c2,q3 j (by omega),hUo j c1 c2 c4];exact hBqk j c1 c2 c3 c4;rw[AE _ _ (by omega),q3 m3 (by omega),hUo m3 hmz (by omega) (λe=>(hBqo m3 e).2.1 rfl)];exact hBq3;rw[AD,hW,<-eL,<-eS];obtain⟨a1,a2,a3,a4,a5⟩:=hok' j e;have:=hA.lt j e;rw[AE _ _ a1,q3 j this.2,hU,e,<-eL];exact AD _ _ _
    rintro k Dm hh mm h' m' ⟨o,rfl,g0,g1,g2,g3,g4⟩ hmm hD;exact⟨o,rfl,by omega,by rw[hD _ (.inl rfl)];exact g1,by rw[hD _ (.inr (.inl rfl))];exact g2,g3.mono hmm,λj e=>by rw[hD _ (.inr (.inr e))];exact g4 j e⟩;rintro k Dm hh mm ⟨o,rfl,g0,g1,g2,g3,g4⟩ j (rfl|rfl|e);omega;omega;exact(g3.lt j e).2
   have hp3:p≠m3:=by omega
   rw[hGs]at Y;rw[hT2];refine we (gY hd (by omega) Y (λj=>j=p\/j=m3\/none=some j) _ _ ⟨none,rfl,qY _,by rw[AE _ _ hp3,hO0];exact hHqp,AD _ _ _,by rw[hO0];exact vA _ _ _,by rintro j ⟨⟩⟩) ?_;rw[<-hGs];rintro v h' n' ⟨hle,D',hDD,BV,⟨_,o,rfl,g0,g1,g2,g3,g4⟩|⟨_,hx⟩⟩;refine⟨_,_,g2,by simp,?_⟩;simp[go_sem,IO];refine⟨o,⟨by omega,⟨g3.none,λj e=>by have:=g3.lt j e;omega,g3.size⟩⟩,λj y e=>?_⟩;have hb:∀j y,h_ Hq p (some (.cells (W (O Gs.length).1 o (O Gs.length).2))) j=some y->h_ h' m3 none j=some y:=λj y e=>by
    by_cases c:j=p;subst c;rw[AD]at e;rw[AE _ _ hp3,g1];exact e;rw[AE _ _ c]at e;have:=hHqb j y e;rw[AE _ _ (by omega),BV j (by rintro(g|g|g)<;>first|omega|cases g) (by omega),AE _ _ (by omega)];exact e
   rw[hZ]at e;cases o with
   | none=>exact hb j y e
   | some k=>
    have:=g3.lt k rfl;simp only[AV,h_]at e;split at e;rename_i c;subst c;rw[AE _ _ (by omega),g4 _ rfl];exact e;exact hb j y e
   exact hx.elim
 obtain⟨hm3,hA4⟩:=hm3;have hop:∀j,o=some j->m2<=j:=λj e=>(hA4.lt j e).1;have hZp:Z o (O Gs.length).1 (O Gs.length).2 p=some (.cells (W (O Gs.length).1 o (O Gs.length).2)):=by
  rw[hZ];cases o with
  | none=>exact AD _ _ _
  | some k=>have:=hop k rfl;simp only[AV];rw[AE _ _ (by omega),AD]
 have hZr:Z o (O Gs.length).1 (O Gs.length).2 r=some (.cells zc):=by
  rw[hZ];cases o with
  | none=>simp only[AV];rw[AE _ _ hrp'];exact hHqr
  | some k=>have:=hop k rfl;simp only[AV];rw[AE _ _ (by omega),AE _ _ hrp'];exact hHqr
 have hZk:∀j y,AV o ((O Gs.length).2.map AM.e) (AV oD D h) j=some y->Z o (O Gs.length).1 (O Gs.length).2 j=some y:=λj y e=>by
  have hb:∀j y,AV oD D h j=some y->h_ Hq p (some (.cells (W (O Gs.length).1 o (O Gs.length).2))) j=some y:=λj y e=>by
   have hj:j≠p:=λc=>by
    subst c;cases oD with
    | none=>have:=hHb _ _ e;omega
    | some k=>have:=hDp k rfl;simp only[AV]at e;rw[AE _ _ (by omega)]at e;have:=hHb _ _ e;omega
   rw[AE _ _ hj];exact hHqk j y e
  rw[hZ];cases o with
  | none=>exact hb j y e
  | some k=>
   simp only[AV,h_]at e ⊢;split at e;rename_i c;rw[if_pos c];exact e;rename_i c;rw[if_neg c];have:=hb j y (by simpa[AV,h_]using e);simpa[h_]using this
 generalize Z o (O Gs.length).1 (O Gs.length).2=ZZ at hZp hZr hZk ⊢;generalize(O Gs.length).1=ps at hZp ⊢;generalize(O Gs.length).2=L at hZp hA4 hZk ⊢;rw[hW]at hZp;refine AJ ?_;simp[go_sem,hZp,hZr,hzc,AD];have hoD:∀j y,AV oD D h j=some y->j<m2/\j≠r:=λj y e=>by
  cases oD with
  | none=>have:=hHb j y e;omega
  | some i=>
   have:=hDp i rfl;simp only[AV,h_]at e;split at e;omega;have:=hHb j y e;omega
 have hZ1:∀j y,AV oD D h j=some y->h_ ZZ r (some (.cells [AU ps,AA i0,AA v0,AW 2 oD D,AW 4 o (L.map AM.e)])) j=some y:=λj y e=>by
  have:=hoD j y e;rw[AE _ _ this.2];refine hZk j y ?_;cases o with
  | none=>exact e
  | some i=>have:=hop i rfl;simp only[AV];rw[AE _ _ (by omega)];simpa[AV]using e
 have hZ2:∀j y,h j=some y->AV oD D h j=some y:=λj y e=>by
  cases oD with
  | none=>exact e
  | some i=>have:=hDp i rfl;have:=hHb j y e;simp only[AV];rw[AE _ _ (by omega)];exact e
 have hZ3:∀j y,AV o (L.map AM.e) h j=some y->h_ ZZ r (some (.cells [AU ps,AA i0,AA v0,AW 2 oD D,AW 4 o (L.map AM.e)])) j=some y:=λj y e=>by
  cases o with
  | none=>exact hZ1 j y (hZ2 j y e)
  | some i=>
   have:=hop i rfl;by_cases c:j=i;rw[AE _ _ (by omega)];refine hZk j y ?_;simp only[AV,h_]at e ⊢;rw[if_pos c]at e ⊢;exact e;refine hZ1 j y (hZ2 j y ?_);simp only[AV]at e
   rwa [AE _ _ c]at e
 have eh:AF.e ⟨ps,i0,v0,hd.Y.filter λx=>!rej x.rev,L⟩=.agg [AU ps,AA i0,AA v0,.i 2 D false,.i 4 (L.map AM.e) false]:=by rw[hDl];rfl
 have hcl:=Q0 n ⟨ps,i0,v0,hd.Y.filter λx=>!rej x.rev,L⟩ true;rw[eh]at hcl ⊢;exact Dj 3 ho (λj y e=>hZ1 j y (hZ2 j y e)) (.inr ⟨.inr ⟨IO,IO,IO,AW.fz' (λj hj=>AS hHb (by omega)) hAD hZ1,AW.fz' (λj hj=>AS hHb (by omega)) hA4 hZ3,trivial⟩,IO,trivial⟩) hcl
theorem ID(n:Nat)(h:AF)(b:Bool):cc n (.tup [h.e,.bool b])=true:=by simp[cc,ca,AF.e,AF.g,Bi.E.ca,Bs.E.ca,AM.E.ca]
theorem Nb(n:Nat)(X:AG):cc n X.e=true:=by
 have:=Fy n X 0;simp only[cc,ca,qo]at this;exact this.1
theorem fb{f g:SV}{A R:List Int}(i:IL f A)(l:IL g R)(h:AF)(q:Jp h):PC 206 [h.e,.agg [f,g]] (.tup [((CE (Dw A) (Dw R) h).getD DN).e,.bool (CE (Dw A) (Dw R) h).isSome]):=by
 have k:=Zp (de i l) h q;obtain⟨d,c⟩:∃d,CE (Dw A) (Dw R) h=d:=⟨_,rfl⟩
 rw[c]at k ⊢;generalize d.getD DN=x at k ⊢;generalize d.isSome=b at k ⊢;intro hp n;refine DO func206 rfl λo=>?_;have a:∀j y,hp j=some y->j<n:=λj y e=>(o j y e).1;refine B8 1 (α:=Nat) (λp=>[(2,.q h.g),(3,.q [f,g]),(4,.ptr p 0)]) (λp=>h_ hp p (some (.cells [.i 0 [] true,AA 0,AA 0,.i 0 [] true,.i 0 [] true]))) (λp m=>n<=p/\p<m) ?_ (λp m hm=>?_)
 . cases i<;>cases l<;>simp[go_sem,AF.e,AF.g,qu]
   all_goals
    refine⟨n+2,by omega,⟨AZ (by simp only[h_];rw[if_neg (by omega)];exact AS a (qa _)) (by simp[h_]),AZ (by simp only[h_];rw[if_neg (by omega)];exact AS a (by omega)) (by simp[h_]),IO⟩,λj y=>?_⟩;have:=a j y;simp only[h_];grind
 refine AJ ?_;simp[go_sem,AF.g];refine qz (by simpa[AF.e,AF.g]using k) ?_;simp[go_sem,AF.e,AF.g,AD,Ah];exact A3 o (AL (λj z e=>by have:=a j z e;omega) AC) (by simp[]) (ID n x b)
theorem c89(h:AF)(g:Jp h):PC 89 [h.e] (.tup [((CE (λ_=>false) (λ_=>true) h).getD DN).e,.bool (CE (λ_=>false) (λ_=>true) h).isSome]):=by
 have k:=Zp js h g;obtain⟨d,c⟩:∃d,CE (λ_=>false) (λ_=>true) h=d:=⟨_,rfl⟩
 rw[c]at k ⊢;generalize d.getD DN=x at k ⊢;generalize d.isSome=b at k ⊢;intro hp n;refine DO func89 rfl λf=>?_;have a:∀j y,hp j=some y->j<n:=λj y e=>(f j y e).1;refine B8 1 (α:=Nat) (λp=>[(1,.q h.g),(2,.ptr p 0)]) (λp=>h_ hp p (some (.cells [.i 0 [] true,AA 0,AA 0,.i 0 [] true,.i 0 [] true]))) (λp m=>n<=p/\p<m) ?_ (λp m hm=>?_);simp[go_sem,AF.e,AF.g,qu];refine⟨n+1,by omega,⟨AZ (by simp only[h_];rw[if_neg (by omega)];exact AS a (qa _)) (by simp[h_]),IO⟩,λj y=>?_⟩;have:=a j y;simp only[h_];grind;refine AJ ?_;simp[go_sem,AF.g];refine qz (by simpa[AF.e,AF.g]using k) ?_;simp[go_sem,AF.e,AF.g,AD,Ah];exact A3 f (AL (λj z e=>by have:=a j z e;omega) AC) (by simp[]) (ID n x b)
theorem c91(h:AF)(g:Jp h):PC 91 [h.e] (.tup [((CE (λ_=>true) (λ_=>false) h).getD DN).e,.bool (CE (λ_=>true) (λ_=>false) h).isSome]):=by
 have k:=Zp jt h g;obtain⟨d,c⟩:∃d,CE (λ_=>true) (λ_=>false) h=d:=⟨_,rfl⟩
 rw[c]at k ⊢;generalize d.getD DN=x at k ⊢;generalize d.isSome=b at k ⊢;intro hp n;refine DO func91 rfl λf=>?_;have a:∀j y,hp j=some y->j<n:=λj y e=>(f j y e).1;refine B8 1 (α:=Nat) (λp=>[(1,.q h.g),(2,.ptr p 0)]) (λp=>h_ hp p (some (.cells [.i 0 [] true,AA 0,AA 0,.i 0 [] true,.i 0 [] true]))) (λp m=>n<=p/\p<m) ?_ (λp m hm=>?_);simp[go_sem,AF.e,AF.g,qu];refine⟨n+1,by omega,⟨AZ (by simp only[h_];rw[if_neg (by omega)];exact AS a (qa _)) (by simp[h_]),IO⟩,λj y=>?_⟩;have:=a j y;simp only[h_];grind;refine AJ ?_;simp[go_sem,AF.g];refine qz (by simpa[AF.e,AF.g]using k) ?_;simp[go_sem,AF.e,AF.g,AD,Ah];exact A3 f (AL (λj z e=>by have:=a j z e;omega) AC) (by simp[]) (ID n x b)
theorem bg{f g:SV}{A R:List Int}(l:IL f A)(o:IL g R)(h:AF)(q:Jp h):PC 205 [h.e,.q [f,g]] (.tup [((CE (Dw A) (Dw R) h).getD DN).e,.bool (CE (Dw A) (Dw R) h).isSome]):=by
 have k:=fb l o h q;obtain⟨d,c⟩:∃d,CE (Dw A) (Dw R) h=d:=⟨_,rfl⟩
 rw[c]at k ⊢;generalize d.getD DN=x at k ⊢;generalize d.isSome=b at k ⊢;intro hp n;refine DO func205 rfl λi=>?_;have a:∀j y,hp j=some y->j<n:=λj y e=>(i j y e).1;refine B8 1 (α:=Nat) (λp=>[(2,.q h.g),(1,.q [f,g]),(3,.ptr p 0)]) (λp=>h_ hp p (some (.cells [.i 0 [] true,AA 0,AA 0,.i 0 [] true,.i 0 [] true]))) (λp m=>n<=p/\p<m) ?_ (λp m hm=>?_);simp[go_sem,IO,AF.e,AF.g,qu];refine⟨n+1,by omega,⟨AZ (by simp only[h_];rw[if_neg (by omega)];exact AS a (qa _)) (by simp[h_]),IO⟩,λj y=>?_⟩;have:=a j y;simp only[h_];grind;refine AJ ?_;simp[go_sem,AF.g];refine qz (by simpa[AF.e,AF.g]using k) ?_;simp[go_sem,AF.e,AF.g,AD,Ah];exact A3 i (AL (λj z e=>by have:=a j z e;omega) AC) (by simp[]) (ID n x b)
theorem c90{g:FuncId}{a b:List SV}{δ:AF->Option AF}{ok:AF->Prop}(F:Xu g a b δ ok)(d:AG)(H:ok d.T0)(c:PC 164 [.fn (.func g) a b,AK d.W] (AK (AB.rlL δ d.W)))(f:PC 21 [(C2 δ d).e] (C2 δ d).normal.e):
 PC 90 [.fn (.func g) a b,d.e] (C2 δ d).normal.e:=by
 have r:=F _ H;obtain⟨Y,B⟩:∃Y,Y=(C2 δ d).normal:=⟨_,rfl⟩
 rw[<-B]at f ⊢;have y:(C2 δ d).W=AB.rlL δ d.W:=rfl;have A:(C2 δ d).T0 = (δ d.T0).getD DN:=rfl;have t:(C2 δ d).V=d.V/\(C2 δ d).S=d.S:=⟨rfl,rfl⟩
 simp only[AG.e,y,A,t.1,t.2]at f;generalize(δ d.T0).getD DN=en at r f;generalize(δ d.T0).isSome=bb at r;generalize AB.rlL δ d.W=q at c f;clear y A t B;intro h n;refine DO func90 rfl λC=>?_;have p:=C.lt;obtain⟨G,k⟩:∃G:List AB->AF->Hp,∀l x,G l x=h_ (h_ h n (some (.cells ([AK l]++x.g++[BE d.V]++d.S.g)))) (n+1) (some (.cells Cq)):=⟨_,λ_ _=>rfl⟩
 have i:∀l x,G l x n=some (.cells ([AK l]++x.g++[BE d.V]++d.S.g)):=λl x=>by rw[k,AE _ _ (by omega),AD]
 have D:∀l x,G l x (n+1)=some (.cells Cq):=λl x=>by rw[k,AD]
 have u:∀l x v w,h_ (G l x) n (some (.cells ([AK v]++w.g++[BE d.V]++d.S.g)))=G v w:=λl x v w=>by
  rw[k,k];funext j;simp only[h_];grind
 have E:∀l x j z,h j=some z->G l x j=some z:=λl x j z e=>by have:=p j z e;rw[k];simp only[h_];grind
 obtain⟨FN,o⟩:∃FN:SV,FN=.fn (.func g) a b:=⟨_,rfl⟩
 rw[<-o]at c ⊢;refine By 0 [(0,FN),(3,.ptr n 0),(4,.ptr (n+1) 0)] (G d.W d.T0) (λm=>n+1<m) ?_ (λm s=>?_);rw[k];simp[go_sem,IO,AG.e,AF.g,AI.g,Cq];simp only[AF.g,AI.g,qx,qE]at i u;refine By 0 [(0,FN),(3,.ptr n 0),(4,.ptr (n+1) 0)] (G q d.T0) (λm=>n+1<m) ?_ (λm s=>?_);simp[go_sem,i];refine qz c ?_;simp[go_sem,i,u,IO,s];refine By 0 [(3,.ptr n 0),(4,.ptr (n+1) 0)] (G q en) (λm=>n+1<m) ?_ (λm s=>?_);rw[o];simp only[AF.e,AF.g,qx,qE,qj]at r;simp[go_sem,i];refine qz r ?_;simp[go_sem,i,u,IO,s];refine AJ ?_;simp[go_sem,i];refine qz (by simpa[AF.g,AI.g]using f) ?_;simp[go_sem,D,Cq,AG.e,AF.g,AI.g,AD];exact A3 C (AL (λj z e=>by have:=p j z e;omega) (E _ _)) (by simp[]) (Nb n Y)
theorem c25(d X:AG)(k:PC 90 [.fn (.func 89) [] [],d.e] X.e):PC 25 [d.e] X.e:=by
 intro h n;refine DO func25 rfl λb=>?_;have a:=b.lt;refine B8 1 (α:=Nat) (λp=>[(1,.q ([AK d.W]++d.T0.g++[BE d.V]++d.S.g)),(2,.ptr p 0)]) (λp=>h_ h p (some (.cells Cq))) (λp m=>n<=p/\p<m) ?_ (λp m hm=>?_);simp[go_sem,AG.e,AF.g,AI.g,Cq,qu];refine⟨n+1,by omega,⟨AZ (by simp only[h_];rw[if_neg (by omega)];exact AS a (qa _)) (by simp[h_]),IO⟩,λj y=>?_⟩;have:=a j y;simp only[h_];grind;refine AJ ?_;simp[go_sem,AF.g,AI.g];refine qz (by simpa[AG.e,AF.g,AI.g]using k) ?_;simp[go_sem,Cq,AG.e,AF.g,AI.g,AD,Ah];exact A3 b (AL (λj z e=>by have:=a j z e;omega) AC) (by simp[]) (Nb n X)
theorem c26(d X:AG)(k:PC 90 [.fn (.func 91) [] [],d.e] X.e):PC 26 [d.e] X.e:=by
 intro h n;refine DO func26 rfl λb=>?_;have a:=b.lt;refine B8 1 (α:=Nat) (λp=>[(1,.q ([AK d.W]++d.T0.g++[BE d.V]++d.S.g)),(2,.ptr p 0)]) (λp=>h_ h p (some (.cells Cq))) (λp m=>n<=p/\p<m) ?_ (λp m hm=>?_);simp[go_sem,AG.e,AF.g,AI.g,Cq,qu];refine⟨n+1,by omega,⟨AZ (by simp only[h_];rw[if_neg (by omega)];exact AS a (qa _)) (by simp[h_]),IO⟩,λj y=>?_⟩;have:=a j y;simp only[h_];grind;refine AJ ?_;simp[go_sem,AF.g,AI.g];refine qz (by simpa[AG.e,AF.g,AI.g]using k) ?_;simp[go_sem,Cq,AG.e,AF.g,AI.g,AD,Ah];exact A3 b (AL (λj z e=>by have:=a j z e;omega) AC) (by simp[]) (Nb n X)
theorem bV{c f:SV}{A R:List Int}(g:IL c A)(l:IL f R)(r:Xq A)(gR:Xq R)(s:A=[]\/R=[])(d X:AG)(k:PC 90 [.fn (.func 205) [] [.q [c,f]],d.e] X.e):PC 145 [d.e,.agg [c,f]] (.tup [X.e,AA 0]):=by
 have b:=fa g l r gR s;intro h n;refine DO func145 rfl λq=>?_;have a:=q.lt;obtain⟨D,i⟩:∃D:SV,D=.q ([AK d.W]++d.T0.g++[BE d.V]++d.S.g):=⟨_,rfl⟩
 refine B8 1 (α:=Nat) (λp=>[(2,D),(3,.q [c,f]),(4,.ptr p 0)]) (λp=>h_ h p (some (.cells Cq))) (λp m=>n<=p/\p<m) ?_ (λp m o=>?_)
 . rw[i];cases g<;>cases l<;>simp[go_sem,AG.e,AF.g,AI.g,Cq,qu]
   all_goals
    refine⟨n+2,by omega,⟨AZ (by simp only[h_];rw[if_neg (by omega)];exact AS a (qa _)) (by simp[h_]),AZ (by simp only[h_];rw[if_neg (by omega)];exact AS a (by omega)) (by simp[h_]),IO⟩,λj y=>?_⟩;have:=a j y;simp only[h_];grind
 refine Bg 0 [(2,D),(3,.q [c,f]),(4,.ptr p 0)] (h_ h p (some (.cells Cq))) (λm=>p<m) (AJ ?_) (λm o=>?_);simp[go_sem];refine qz b ?_;simp[go_sem,IO,o];refine AJ ?_;rw[i];simp[go_sem,AF.g,AI.g];refine qz (by simpa[AG.e,AF.g,AI.g]using k) ?_;simp[go_sem,Cq,AG.e,AF.g,AI.g,AD,Ah];exact A3 q (AL (λj z e=>by have:=a j z e;omega) AC) (by simp[]) (Fy n X 0)
theorem c80(d X:AG)(v:SV)(l:List Int)(c:v=.i 1 (l.map AA) false)(k:PC 145 [d.e,.agg [v,.i 0 [] true]] (.tup [X.e,AA 0])):PC 80 [d.e,v] (.tup [X.e,AA 0]):=by
 subst c;intro h n;refine DO func80 rfl λb=>?_;have a:=b.lt;refine B8 1 (α:=Nat) (λp=>[(1,.i 1 (l.map AA) false),(2,.q ([AK d.W]++d.T0.g++[BE d.V]++d.S.g)),(4,.ptr p 0)]) (λp=>h_ h p (some (.cells Cq))) (λp m=>n<=p/\p<m) ?_ (λp m hm=>?_);simp[go_sem,IO,AG.e,AF.g,AI.g,Cq,qu];refine⟨n+1,by omega,⟨AZ (by simp only[h_];rw[if_neg (by omega)];exact AS a (qa _)) (by simp[h_]),IO⟩,λj y=>?_⟩;have:=a j y;simp only[h_];grind;refine AJ ?_;simp[go_sem,AF.g,AI.g];refine qz (by simpa[AG.e,AF.g,AI.g]using k) ?_;simp[go_sem,Cq,AG.e,AF.g,AI.g,AD,Ah];exact A3 b (AL (λj z e=>by have:=a j z e;omega) AC) (by simp[]) (Fy n X 0)
theorem c81(d X:AG)(v:SV)(l:List Int)(c:v=.i 1 (l.map AA) false)(k:PC 145 [d.e,.agg [.i 0 [] true,v]] (.tup [X.e,AA 0])):PC 81 [d.e,v] (.tup [X.e,AA 0]):=by
 subst c;intro h n;refine DO func81 rfl λb=>?_;have a:=b.lt;refine B8 1 (α:=Nat) (λp=>[(1,.i 1 (l.map AA) false),(2,.q ([AK d.W]++d.T0.g++[BE d.V]++d.S.g)),(4,.ptr p 0)]) (λp=>h_ h p (some (.cells Cq))) (λp m=>n<=p/\p<m) ?_ (λp m hm=>?_);simp[go_sem,IO,AG.e,AF.g,AI.g,Cq,qu];refine⟨n+1,by omega,⟨AZ (by simp only[h_];rw[if_neg (by omega)];exact AS a (qa _)) (by simp[h_]),IO⟩,λj y=>?_⟩;have:=a j y;simp only[h_];grind;refine AJ ?_;simp[go_sem,AF.g,AI.g];refine qz (by simpa[AG.e,AF.g,AI.g]using k) ?_;simp[go_sem,Cq,AG.e,AF.g,AI.g,AD,Ah];exact A3 b (AL (λj z e=>by have:=a j z e;omega) AC) (by simp[]) (Fy n X 0)
theorem c22(D A R:AG)(l:List Int)(f:PC 80 [D.e,.i 1 (l.map AA) false] (.tup [A.e,AA 0]))(g:PC 81 [D.e,.i 1 (l.map AA) false] (.tup [R.e,AA 0])):PC 22 [D.e,.i 1 (l.map AA) false] (.tup [A.e,R.e,.bool true]):=by
 intro h n;refine DO func22 rfl λp=>?_;have a:=p.lt;obtain⟨X,d⟩:∃X:SV,X=.q D.g:=⟨_,rfl⟩
 obtain⟨G,c⟩:∃G:Hp,G=h_ (h_ h (n+1) (some (.cells Cq))) (n+2) (some (.cells Cq)):=⟨_,rfl⟩
 have i:G (n+1)=some (.cells Cq):=by rw[c,AE _ _ (by omega),AD]
 have q:G (n+2)=some (.cells Cq):=by rw[c,AD]
 have k:∀j y,G j=some y->j<n+3:=λj y e=>by
  rw[c]at e;simp only[h_]at e;split at e;omega;split at e;omega;have:=a j y e;omega
 have s:∀j y,h j=some y->G j=some y:=λj y e=>by have:=a j y e;rw[c,AE _ _ (by omega),AE _ _ (by omega)];exact e
 refine By 1 [(1,.i 1 (l.map AA) false),(2,X),(4,.ptr (n+1) 0),(5,.ptr (n+2) 0)] G (λm=>n+2<m) ?_ (λm o=>?_);rw[d,c];simp[go_sem,IO,AG.e,AG.g,AF.g,AI.g,Cq,qu];refine⟨AZ (by simp only[h_];rw[if_neg (by omega),if_neg (by omega)];exact AS a (qa _)) (by simp[h_]),λj y=>?_⟩;have:=a j y;simp only[h_];grind;refine By 1 [(1,.i 1 (l.map AA) false),(2,X),(4,.ptr (n+1) 0),(5,.ptr (n+2) 0),(7,.q A.g),(8,AA 0)] G (λm=>n+2<m) ?_ (λm o=>?_);have b:∀j y,G j=some y->j<m:=λj y e=>by have:=k j y e;omega
 rw[d];simp[go_sem,AG.g,AF.g,AI.g];refine qz (by simpa[AG.e,AF.g,AI.g]using f) ?_;simp[go_sem,IO,AD,Ah];exact⟨by omega,AZ (AS b (qa _)) (AD _ _ _),AL b AC⟩;refine By 1 [(4,.ptr (n+1) 0),(5,.ptr (n+2) 0),(7,.q A.g),(8,AA 0),(9,.q R.g),(10,AA 0)] G (λm=>n+2<m) ?_ (λm o=>?_);have b:∀j y,G j=some y->j<m:=λj y e=>by have:=k j y e;omega
 rw[d];simp[go_sem,AG.g,AF.g,AI.g];refine qz (by simpa[AG.e,AF.g,AI.g]using g) ?_;simp[go_sem,IO,AD,Ah];exact⟨by omega,AZ (AS b (qa _)) (AD _ _ _),AL b AC⟩;have g3:∀y,h_ G (n+1) y (n+2)=some (.cells Cq):=λy=>by rw[AE _ _ (by omega)];exact q
 have r:∀y z,h_ (h_ G (n+1) y) (n+2) z (n+1)=y:=λy z=>by rw[AE _ _ (by omega),AD]
 refine AJ ?_;rw[Cq]at i g3;simp[go_sem,AG.g,AF.g,AI.g,i,g3,r,AD]
 repeat first|refine aq ?_|refine nd (by simp[Bo,DZ,CU,Aq,Region.binds]<;>omega) ?_|refine sq ?_
 refine A3 p (λj z e=>?_) (by simp[AG.e,AF.g,AI.g]) ?_;have:=a j z e;rw[AE _ _ (by omega),AE _ _ (by omega)];exact s j z e;have h1:=Nb n A;have h2:=Nb n R;simp only[cc,ca,qo];exact⟨h1,h2,trivial,trivial⟩
theorem TJ:(Bk.all λk=>decide (1<=k.number)&&decide (k.number<=1000))=true:=by kernel_rfl
theorem N7{t:Int}{k:Jt}(h:Dz t=some k):1<=t/\t<=1000:=by
 unfold Dz at h;split at h;rename_i h2;have a:=Fw _ _ h2;obtain⟨i,hi⟩:∃i,i=(Az (GV t) Bk.length).1:=⟨_,rfl⟩
 rw[<-hi]at h a;have b:GV t i=0:=by
  simp only[Az,decide_eq_true_eq]at h2 hi;rw[<-hi]at h2;exact h2.2
 unfold GV GD at b;rw[qe a]at b;dsimp only at b;have e:Bk[i].number=t:=by
  split at b;omega;split at b<;>omega
 have:=YO.1 TJ _ (qi a);simp only[qo,decide_eq_true_eq]at this;rw[e]at this;exact this;cases h
theorem VA{el:Int}{l:List Bi}(h:CY el l=0):∀i (hi:i<l.length),(i:Int)+1<=l[i].key/\l[i].key<=1000:=by
 unfold CY at h;split at h;cases h;have st:=G1.1 h;have one:∀i (hi:i<l.length),(1<=l[i].key/\l[i].key<=1000)/\∀j (b:j<l.length),i=j+1->l[j].key<l[i].key:=λi hi=>by
  have:=st i hi;unfold Di at this;rw[qe hi]at this;dsimp only at this;cases a:Oh el l[i].key with
  | false=>rw[a]at this;simp at this
  | true=>
   rw[a]at this;simp only[Bool.not_true,qn,if_false]at this;refine⟨?_,λj b e=>?_⟩;unfold Oh at a;split at a;rename_i k d;exact N7 d;cases a;subst e;rw[Nat.add_sub_cancel,qe b]at this;by_cases c1:l[j].key=l[j+1].key;simp[c1]at this;by_cases c:l[j+1].key<l[j].key;simp[c1,c]at this;omega
 intro i
 induction i with
 | zero=>intro hi;have:=(one 0 hi).1;omega
 | succ i ih=>
  intro hi;have h1:=ih (by omega);have h2:=(one (i+1) hi).2 i (by omega) rfl;have h3:=(one (i+1) hi).1;omega
theorem XC{el:Int}{l:List Bi}(h:CY el l=0):l.length<=1000:=by
 by_cases c:l.length=0;omega;have:=VA h (l.length-1) (by omega);omega
theorem In.dc{K:Ck}{el:Int}{h:AF}(g:In K el h):Jp h:=⟨by have:=XC g.Q;have:=g.llen;omega,by have:=g.dlen;omega⟩
theorem My{m2:List Int}{acc rej:Int->Bool}{h h':AF}(H:HK m2 h)(D:Jp h)(e:CE acc rej h=some h'):HK m2 h':=by
 unfold CE at e;split at e;cases e;cases e;obtain⟨f1,f2⟩:=Ih (acc:=acc) (rej:=rej) (ps:=h.Q) (C8 h.Z.length h.Z) (h.Q,[]);have c1:=KJ h.Z.length h.Z;have c2:=Lg h.Z.length h.Z;have d1:=D.Q;have l1:=H.2.llen;simp only[vI]at f2;dsimp only at f1;have fl:=JM (λx:Bs=>!rej x.rev) h.Y;have dl:=H.2.dlen;refine⟨⟨?_,?_,?_⟩,⟨?_,?_,λx a=>?_,?_,λx a=>?_⟩⟩;show((C8 h.Z.length h.Z).foldl (CM acc rej h.Q) (h.Q,[])).1.length<=_;omega;show(h.Y.filter _).length<=_;omega;show((C8 h.Z.length h.Z).foldl (CM acc rej h.Q) (h.Q,[])).2.length<=_;omega;show(if _ then 0 else h.I)=0\/(if _ then 0 else h.I)∈m2;split;exact .inl rfl;exact H.2.I;show(h.Y.filter _).length<=_;omega;exact H.2.Y x (Kq.1 (show x∈h.Y.filter _ from a)).1;show((C8 h.Z.length h.Z).foldl (CM acc rej h.Q) (h.Q,[])).2.length<=_;omega;rcases Ii (show x∈((C8 h.Z.length h.Z).foldl (CM acc rej h.Q) (h.Q,[])).2 from a)with q|⟨k,b,y,c,q⟩
 cases q;rw[<-q];exact H.2.Z y (K0 b c)
theorem Pi{f:AB->Option AB}(a:∀x y,f x=some y->y.x=x.x):∀l:List AB,Ak (l.filterMap f)<=Ak l
 | []=>qa _
 | x :: l => by
  have b:=Pi a l;have e:Ak (x::l)=x.x.size+Ak l:=by simp[Ak]
  rw[CN,Bn,e];cases h:f x with
  | none=>simp[Ak]at b ⊢;omega
  | some y=>
   have:Ak [y]=y.x.size:=by simp[Ak]
   have h2:=a x y h;simp only[VN,this,h2];omega
theorem Ys{δ:AF->Option AF}{x y:AB}(e:AB.rl δ x=some y):y.x=x.x:=by
 rw[S5,Yc]at e;obtain⟨h',_,e⟩:=e;split at e;cases e;rfl;split at e;split at e<;>cases e;rfl;cases e;rfl
theorem QC{hp hp' n:AF->Prop}{T:Int->Prop}{δ:AF->Option AF}(i:∀h h',hp h->δ h=some h'->hp' h'){K:Nat}:∀{N:Nat} {l:List AB},wf n T N l->Dq hp K N l->Dq hp' K N (AB.rlL δ l)
 | 0,_,_,h=>h.elim
 | N+1,l,W,H=>by
  obtain⟨a,b,c⟩:=Ci.1 H;rw[wu];refine Ci.2 ⟨qI (KC _ _) a,qI (Pi (λx y e=>Ys e) l) b,λy C=>?_⟩;obtain⟨x,t,e⟩:=Yp.1 C;obtain⟨_,I,u,_,_,w,q⟩:=DR.1 W x t;obtain⟨J,L,o,M⟩:=c x t;rw[S5,Yc]at e;obtain⟨h',A,e⟩:=e;have f:=i _ _ J A;have k:=QC i w L;by_cases k6:x.k=6;rw[if_pos k6]at e;cases e;refine⟨f,k,o,λr d=>?_⟩;have d:r∈x.R:=d;rw[u (by rw[k6];decide)]at d;cases d;rw[if_neg k6]at e;have v:Dq hp' K N x.W:=by rw[I k6];exact Yb k
  by_cases k7:x.k=7;rw[if_pos k7]at e;split at e;cases e;cases e;refine⟨f,v,qI (KC _ _) o,λr d=>?_⟩;obtain⟨r0,h0,g⟩:=Yp.1 (show r∈x.R.filterMap (AP.rl δ)from d);obtain⟨D,E,F⟩:=M r0 h0;rw[AP.rl_eq,Yc]at g;obtain⟨h2,m,g⟩:=g;split at g;cases g;cases g;refine⟨i _ _ D m,qI (KC _ _) E,λs B=>?_⟩;obtain⟨s0,j,p⟩:=Yp.1 (show s∈r0.cells.filterMap (cr.rl δ)from B);obtain⟨G,v3⟩:=F s0 j;rw[TN,qN]at p;obtain⟨h4,z,rfl⟩:=p;exact⟨i _ _ G z,QC i ((q r0 h0).2.2 s0 j).2.2 v3⟩;rw[if_neg k7]at e;cases e;refine⟨f,v,o,λr d=>?_⟩;have d:r∈x.R:=d;rw[u k7]at d;cases d
theorem TL{hp j:AF->Prop}{T:Int->Prop}{K:Nat}:∀{N:Nat} {n:BN} {l:List AB},wf j T N l->gH (λ_ h=>Jp h) N n l->Dq hp K N l->Dq (λh=>hp h/\Jp h) K N l
 | 0,_,_,_,_,h=>h.elim
 | N+1,n,l,W,G,H=>by
  obtain⟨a,b,c⟩:=Ci.1 H;refine Ci.2 ⟨a,b,λx g=>?_⟩;obtain⟨_,v,y,_,_,w,q⟩:=DR.1 W x g;obtain⟨z,m,A,B⟩:=c x g;have i:=G x g;refine⟨⟨z,i.H⟩,?_,A,λr d=>?_⟩;by_cases k:x.k=6;exact TL w (i.W k) m;have e:=v k;rw[e]at m ⊢;cases N with
  | zero=>exact m.elim
  | succ N=>exact Ci.2 ⟨by simp,by simp[Ak],λx g=>by cases g⟩
  by_cases k:x.k=7;obtain⟨p,t,o⟩:=B r d;obtain⟨u,v2,v3,v4⟩:=(i.R k).2.2 r d;exact⟨⟨p,u⟩,t,λs f=>⟨⟨(o s f).1,(v4 s f).1⟩,TL ((q r d).2.2 s f).2.2 (v4 s f).2 (o s f).2⟩⟩;rw[y k]at d;cases d
theorem RM{N K:Nat}{D:AG}(G:DU N D){hp:AF->Prop}(l:Dq hp K N D.W):Dq (λh=>hp h/\Jp h) K N D.W/\wf (λ_=>True) (λ_=>True) N D.W/\Jp D.T0:=by
 have w:=Um (T:=λ_=>True) G.ok.W l λ_ _=>trivial;exact⟨TL w (M7 (λel h e=>(D8.1 e).dc) (UK.1 G.W)) l,Qa (λ_ _=>trivial) (λ_ g=>g) w,(D8.1 G.endH).dc⟩
theorem UG{g:FuncId}{a b:List SV}{acc rej:Int->Bool}(k:Xu g a b (CE acc rej) Jp){m2:List Int}{K N:Nat}{D:AG}(r:m2.length<=1000)(d:K<=1048576)(G:DU N D)(l:Dq (HK m2) K N D.W)(q:HK m2 D.T0)(n:D.S.D):
 PC 90 [.fn (.func g) a b,D.e] (C2 (CE acc rej) D).normal.e/\PC 17 [(C2 (CE acc rej) D).normal.e,(C2 (CE acc rej) D).normal.e] (.bool true):=by
 obtain⟨o,w,i⟩:=RM G l;have m:D.V.length<=1048576:=by have:=GK G.V;omega
 have p:Dq (HK m2) K N (C2 (CE acc rej) D).W:=QC (λh h' g e=>My g.1 g.2 e) w o;have j:HK m2 (C2 (CE acc rej) D).T0:=by
  show HK m2 ((CE acc rej D.T0).getD DN);cases e:CE acc rej D.T0 with
  | none=>exact ZL m2
  | some h'=>exact My q i e
 have f:=Kn (W:=C2 (CE acc rej) D) r d p j m n;have c:=bZ k d N D.W (o.mono (λ_ g=>g.2) (qa _));exact⟨c90 k D i c (c21 _ f.1 f.2.1 f.2.2),q17 (hp:=HK m2) (λx g=>g.1) d N _ (FD p) j.1 (qI (JM _ _) m) n⟩
theorem PK:Dw []=λ_=>false:=by funext x;exact RN x
theorem ZI{m2:List Int}{K N:Nat}{D:AG}(e:m2.length<=1000)(c:K<=1048576)(G:DU N D)(l:Dq (HK m2) K N D.W)(d:HK m2 D.T0)(f:D.S.D)(L:List Int)(hl:L.length<=1048576)(ok:Xq L):
 PC 22 [D.e,.i 1 (L.map AA) false] (.tup [(C2 (CE (Dw L) λ_=>false) D).normal.e,(C2 (CE (λ_=>false) (Dw L)) D).normal.e,.bool true]):=by
 have a:IL (.i 1 (L.map AA) false) L:=.some L hl;have g:Xu 205 [] [.q [.i 1 (L.map AA) false,.i 0 [] true]] (CE (Dw L) λ_=>false) Jp:=λh b=>by
  have:=bg a .nil h b;rw[PK]at this;exact this
 have i:Xu 205 [] [.q [.i 0 [] true,.i 1 (L.map AA) false]] (CE (λ_=>false) (Dw L)) Jp:=λh b=>by
  have:=bg .nil a h b;rw[PK]at this;exact this
 exact c22 D _ _ L (c80 D _ _ L rfl (bV a .nil ok UV (.inr rfl) D _ (UG g e c G l d f).1)) (c81 D _ _ L rfl (bV .nil a UV ok (.inl rfl) D _ (UG i e c G l d f).1))
theorem WJ{m2:List Int}{K N:Nat}{D:AG}(d:m2.length<=1000)(b:K<=1048576)(G:DU N D)(l:Dq (HK m2) K N D.W)(c:HK m2 D.T0)(e:D.S.D):
 PC 25 [D.e] (C2 (CE (λ_=>false) λ_=>true) D).normal.e/\PC 26 [D.e] (C2 (CE (λ_=>true) λ_=>false) D).normal.e:=by
 have f:Xu 89 [] [] (CE (λ_=>false) λ_=>true) Jp:=λh a=>c89 h a;have g:Xu 91 [] [] (CE (λ_=>true) λ_=>false) Jp:=λh a=>c91 h a;exact⟨c25 D _ (UG f d b G l c e).1,c26 D _ (UG g d b G l c e).1⟩
theorem aa{m2:List Int}{K N:Nat}{D:AG}(acc rej:Int->Bool)(_hm:m2.length<=1000)(c:K<=1048576)(G:DU N D)(l:Dq (HK m2) K N D.W)(d:HK m2 D.T0)(i:D.S.D):
 PC 17 [(C2 (CE acc rej) D).normal.e,(C2 (CE acc rej) D).normal.e] (.bool true):=by
 obtain⟨j,w,a⟩:=RM G l;have f:D.V.length<=1048576:=by have:=GK G.V;omega
 have k:Dq (HK m2) K N (C2 (CE acc rej) D).W:=QC (λh h' g e=>My g.1 g.2 e) w j;have b:HK m2 (C2 (CE acc rej) D).T0:=by
  show HK m2 ((CE acc rej D.T0).getD DN);cases e:CE acc rej D.T0 with
  | none=>exact ZL m2
  | some h'=>exact My d a e
 exact q17 (hp:=HK m2) (λx g=>g.1) c N _ (FD k) b.1 (qI (JM _ _) f) i
section
variable{hp:AF->Prop}{T:Int->Prop}{g:Bool->AF->AF}{w:Bool}{y rev:Int}
end
theorem OE{r:BC}(h:Cn r=0):(1<=r.id/\r.id<=1073741824)/\r.O.size<=40:=by
 unfold Cn at h;split at h;cases h;split at h;cases h;split at h;cases h;omega
theorem Yf{a:Int}(h:1<=a/\a<=1073741824):Xq [a]:=λi hi=>by
 have:i=0:=by simpa using hi
 subst this;exact⟨h,by simp⟩
theorem nP{B N:Nat}(_hB:B<=1048576){d:AG}(hl:Dq AF.D B N d.W)(he:d.T0.D)(Y:d.S.D)(r:Re N d)(hf:Og N d.W)(ht:Tm N d.W<=150)(l:List Int)(hln:l.length<=40)(to:BC):
 ∃(S:AG)(e:Int),PC 27 [d.e,.i 1 (l.map AA) false,to.e] (.tup [S.e,AA e])/\(e=0->kH d l to=0/\∃L:List (Int×Int),L.length<=1073741824/\S=(mN d l L to).normal/\Dq (HK (to.id::BU [] (d.V.map (·.id)))) 450000 N S.W/\HK (to.id::BU [] (d.V.map (·.id))) S.T0):=by
 obtain⟨m2,f⟩:∃m2,m2=BU [] (d.V.map (·.id)):=⟨_,rfl⟩
 rw[<-f];have hrl:=GK r.V;have hm:m2.length<=998:=by
  have:=NL (d.V.map (·.id)) [];rw[f];simp at this;omega
 have h1:Dq (HK m2) 150000 N d.W:=M6 hl hf (f▸r.W);have h2:HK m2 d.T0:=⟨he,f▸r.T0.toUN⟩
 have C:=Jb r;have A:d.V.length<=1048576:=by omega
 have W:=Rf f r h1;have hw:=oF W;obtain⟨Z,hn⟩:=nv (λi h=>h) W ⟨h2,f▸r.T0⟩;obtain⟨D,G⟩:∃D,D=la N d:=⟨_,rfl⟩
 have b:=mi (l:=l) h1 r;rw[<-G]at Z hn b;obtain⟨M,w⟩:∃M,M=D.flatMap AF.moves:=⟨_,rfl⟩
 have hMl:M.length<=17*301:=by
  rw[w];refine qI (nB λh hh=>nS (Z h hh).1) ?_;exact Nat.mul_le_mul_left _ (by omega)
 obtain⟨t,z⟩:∃t,t=D.any (lY l):=⟨_,rfl⟩
 rw[<-z,<-w]at b;obtain⟨L,V⟩:∃L,L=pP l M:=⟨_,rfl⟩
 have I:L.length<=1073741824:=by
  rw[V];unfold pP jw;refine qI (mB _ _) ?_;rw[XI];exact qI (JM _ _) (by omega)
 have w2:=Kn (W:=(BM (C1 (me l)) Sd N d d.V (false,[])).1) (m2:=m2) (K:=450000) (by omega) (by omega) (IH (λs p g=>g) N 0 d.W false (false,[]) h1).1 h2 A Y;obtain⟨m,a⟩:∃m,m=(BM (oh l L to.id) Sd N d (mc d l to) ()).1:=⟨_,rfl⟩
 have X:to.id∈to.id::m2:=qV ..;have E:Dq (HK (to.id::m2)) 150000 N d.W:=h1.mono (λx g=>K3 g) (qa _);have lW:Dq (HK (to.id::m2)) 450000 N m.W:=by
  rw[a];exact(IH (λs p g=>ol X g) N 0 d.W false () E).1
 have U:HK (to.id::m2) m.T0:=by rw[a];exact ol X (K3 h2)
 have sW:m.S.D:=by rw[a];exact Y
 have R:=c27 d l (by omega) to t M (by omega) m.normal A C (λ_ p q n0 J hp O H n u F k=>?_) (λQ _ q n0 O H n u k=>?_);refine⟨_,_,R,λv=>?_⟩;have Q:kH d l to=0:=by
  unfold o7 at v;split at v;rename_i c;exact absurd v c;rename_i c;simpa using c
 refine⟨Q,L,I,?_,?_⟩;rw[o8,if_pos v,a];exact mO f r h1;rw[o8,if_pos v];exact⟨FD lW,U⟩;have:=ip (sc:=Sd) (v93 J hp O l (by omega) false) (HK m2) 150000 (by omega) (λh g=>⟨g.1,g.1⟩) N d (false,[]) h1 h2 (by rw[b];show M.length<=_;omega) w2.1 w2.2.1 w2.2.2 (H:=H) (n:=n) u (λo y g=>by
  simp only[lJ,Yo]at g;split at g;subst_vars;cases g;exact F;split at g;subst_vars;cases g;exact k;cases g)
 rw[b]at this;exact this;rw[<-V]at k;obtain⟨_,_,_,tT,_⟩:=l8 C Q;have rW:m.V.length<=256:=by rw[a];exact tT.1
 have T:=Kn (W:=m) (m2:=to.id::m2) (K:=450000) (by simp;omega) (by omega) lW U (by omega) sW;have:=d49 (sc:=Sd) (qC O l (by omega) false L to) (HK m2) 150000 (by omega) (λh g=>⟨⟨g.1,by have:=g.2.dlen;omega⟩,g.1⟩) N d (mc d l to) () h1 h2 (by rw[<-a];exact T.1) (by rw[<-a];exact T.2.1) (by rw[<-a];exact T.2.2) (H:=H) (n:=n) u (λo y g=>by
  simp only[mH]at g;split at g;subst_vars;cases g;exact k;cases g)
 have P:BD (mH q L) (BM (oh l L to.id) Sd N d (mc d l to) ()).2 H=H:=by
  funext j;simp only[BD,mH];by_cases c:j=q;rw[if_pos c,c,k];rw[if_neg c]
 rw[P,<-a]at this;exact this
def ph(d:AG)(l:List Int)(to:BC):Prop:=∃(S:AG)(e:Int),PC 27 [d.e,.i 1 (l.map AA) false,to.e] (.tup [S.e,AA e])/\(e=0->
 ∃A R G F:AG,PC 22 [S.e,.i 1 ([to.id].map AA) false] (.tup [A.e,R.e,.bool true])/\PC 22 [d.e,.i 1 (l.map AA) false] (.tup [A.e,R.e,.bool true])/\PC 24 [S.e] (AA 0)/\
  PC 17 [A.e,A.e] (.bool true)/\PC 17 [R.e,R.e] (.bool true)/\PC 25 [S.e] G.e/\PC 25 [d.e] G.e/\PC 17 [G.e,G.e] (.bool true)/\PC 26 [S.e] F.e/\PC 26 [d.e] F.e/\PC 17 [F.e,F.e] (.bool true))
theorem nV{B N:Nat}(Z:B<=1048576){d:AG}(o:d.sizedT B N)(g:DU N d)(M:Og N d.W)(F:Tm N d.W<=150)(l:List Int)(O:l.length<=40)(to:BC):ph d l to:=by
 have D:d.S.D:=o.S.toD;obtain⟨S,e,R,H⟩:=nP Z o.W o.T0 D g.ok M F l O to;refine⟨S,e,R,λY=>?_⟩;obtain⟨P,L,J,rfl,G,t⟩:=H Y;obtain⟨m2,a⟩:∃m2,m2=BU [] (d.V.map (·.id)):=⟨_,rfl⟩
 rw[<-a]at G t;have ok:=g.ok;have hrl:=GK g.V;have hm:m2.length<=998:=by
  have:=NL (d.V.map (·.id)) [];rw[a];simp at this;omega
 have h1:Dq (HK m2) 150000 N d.W:=M6 o.W M (a▸ok.W);have h2:HK m2 d.T0:=⟨o.T0,a▸ok.T0.toUN⟩
 have E:=Jb ok;have f:=lN P;have u:=nQ a g h1 M F P J;have j:=λacc rej acc' rej' V A=>nc (acc:=acc) (rej:=rej) (acc':=acc') (rej':=rej') (L:=L) a g h1 h2 P V A;have U:(mN d l L to).normal.S=d.S:=rfl;obtain⟨S,H⟩:∃S,S=(mN d l L to).normal:=⟨_,rfl⟩
 rw[<-H]at u G t U ⊢;simp only[<-H]at j;have w:S.S.D:=by rw[U];exact D
 have X:=Jb u.ok;have K:S.sizedT 450000 N:=⟨G.mono (λ_ g=>g.1) (qa _),t.1,by have:=X.1;omega,λr C=>by have:=(OE (X.2.1 r C)).2;omega,by rw[U];exact o.S⟩
 have kS:PC 24 [S.e] (AA 0):=λh n=>(ZY S (by omega) K h n).mono λv h' n' ⟨⟨e,W,q2⟩,q3⟩=>by
  have:e=0:=q2.2 u;rw[this]at W;exact⟨W,q3⟩
 have z:(to.id::m2).length<=1000:=by simp;omega
 have n0:=(OE f.err).1;have Q:∀x∈m2,x≠0:=λx b=>by
  obtain⟨r,C,e⟩:=(Wz a).1 b;rw[<-e];exact Tl E C
 have T:Xq l:=λi hi=>by
  obtain⟨r,C,e⟩:=VJ (f.find _ (qi hi));refine⟨by rw[<-e];exact(OE (E.2.1 r C)).1,λi0=>J9.1 f.inc (i-1) i (by omega) hi (by omega)⟩
 have p:=ZI z (by omega) u G t w [to.id] (by simp) (Yf n0);have I:=ZI (by omega) (by omega) g h1 h2 D l (by omega) T;have m:=WJ z (by omega) u G t w;have s:=WJ (by omega) (by omega) g h1 h2 D;have y:l.Pairwise (· ≤ ·):=f.inc.imp λh=>by omega
 have hT:∀x∈m2,to.id=x->x∈l:=λx b e=>by rw[<-e];exact f.to (OD ((Wz a).1 (e▸b)))
 have Me:∀x,jF l x=true->Dw l x=true:=λx h=>(K1 y).2 (by unfold jF at h;simp at h;exact h.2);have F8:∀x∈m2,Dw [to.id] (ED (jF l) to.id x)=Dw l x:=λx b=>by
  rw[Bool.eq_iff_iff,K1 (by simp),K1 y,qy];unfold ED;by_cases c:x∈l;have:jF l x=true:=by simp[jF,Q x b,c]
  rw[if_pos this];simp[c];have:jF l x=false:=by simp[jF,c]
  rw[this,if_neg (by simp)];exact⟨λe=>hT x b e.symm,λg=>absurd g c⟩
 have KL:∀x∈m2,Dw l x=false->ED (jF l) to.id x=x:=λx b e=>by
  unfold ED;rw[if_neg];intro q;rw[Me x q]at e;cases e
 have l1:=j (Dw l) (λ_=>false) (Dw [to.id]) (λ_=>false) ⟨.inl Me⟩ λx b=>⟨F8 x b,rfl,λe _=>KL x b e⟩
 have l2:=j (λ_=>false) (Dw l) (λ_=>false) (Dw [to.id]) ⟨.inr ⟨Me,λ_=>rfl⟩⟩ λx b=>⟨rfl,F8 x b,λ_ e=>KL x b e⟩
 have l3:=j (λ_=>false) (λ_=>true) (λ_=>false) (λ_=>true) ⟨.inr ⟨λ_ _=>rfl,λ_=>rfl⟩⟩ λx b=>⟨rfl,rfl,λ_ h=>by cases h⟩
 have l4:=j (λ_=>true) (λ_=>false) (λ_=>true) (λ_=>false) ⟨.inl λ_ _=>rfl⟩ λx b=>⟨rfl,rfl,λh=>by cases h⟩
 rw[l1,l2]at p;rw[l3,l4]at m;have k:=λacc rej=>aa acc rej (by omega) (by omega) g h1 h2 D;exact⟨_,_,_,_,p,I,kS,k _ _,k _ _,m.1,s.1,k _ _,m.2,s.2,k _ _⟩
theorem SQ{h:Hp}{m:Nat}(c:∀j y,h j=some y->j<m)(d f:Option Bb)(a b:List SV):
 (Fz (h_ (h_ (h_ (h_ h m d) (m+1) f) m (some (.cells a))) (m+1) (some (.cells b))) h 1 (.ptr m 0) (.q a)/\Fz (h_ (h_ (h_ (h_ h m d) (m+1) f) m (some (.cells a))) (m+1) (some (.cells b))) h 1 (.ptr (m+1) 0) (.q b))/\
   ∀o y,h o=some y->h_ (h_ (h_ (h_ h m d) (m+1) f) m (some (.cells a))) (m+1) (some (.cells b)) o=some y:=by
 refine⟨⟨AZ (AS c (qa _)) (by rw[AE _ _ (by omega),AD]),AZ (AS c (by omega)) (AD _ _ _)⟩,λo y e=>?_⟩;have:=c o y e;rw[AE _ _ (by omega),AE _ _ (by omega),AE _ _ (by omega),AE _ _ (by omega)];exact e
theorem splitTogether(d:AG)(l:List Int)(to:BC){B N:Nat}(H:B<=1048576)(I:d.sizedT B N):PC 10 [d.e,.i 1 (l.map AA) false,to.e] (.bool true):=by
 intro h n;refine DO func10 rfl λk=>?_;have i:=k.lt;obtain⟨X,q⟩:∃X:SV,X=.q ([AK d.W]++d.T0.g++[BE d.V]++d.S.g):=⟨_,rfl⟩
 obtain⟨V,t⟩:∃V:SV,V=.q [AA to.id,.str to.O,AA to.time]:=⟨_,rfl⟩
 obtain⟨J,s⟩:∃J:SV,J=.i 1 (l.map AA) false:=⟨_,rfl⟩
 refine Aa 1 [(1,J),(3,X),(5,V)] h n ?_ (λm a=>?_);rw[q,t,s];simp[go_sem,AG.e,BC.e,AF.g,AI.g,IO];exact⟨by omega,⟨AZ (k.none (by omega)) (by simp[h_]),AZ (k.none (by omega)) (by simp[h_])⟩,λj y e=>by have:=i j y e;simp only[h_];grind⟩;refine AX 0 (α:=Unit) (λ_=>[(1,J),(3,X),(5,V)]) (λ_=>h) (λb m=>n<=m/\(DU N d/\Og N d.W/\Tm N d.W<=150)/\l.length<=40) ?_ (λ_ m a=>?_);refine B8 0 (α:=Bx) (λb=>[(1,J),(3,X),(5,V),(32,.bool b.b)]) (λ_=>h) (λb m=>n<=m/\(b.b=false->(DU N d/\Og N d.W/\Tm N d.W<=150)/\l.length<=40)) ?_ (λb m a=>?_);rw[q,t,s];simp[go_sem,AF.g,AI.g];refine qz k11 ?_;simp[go_sem];refine TC.use (by simpa[AG.e,AF.g,AI.g]using dL d H I) ?_;rintro v ⟨b,rfl,hb⟩;cases b with
 | false=>simp[go_sem,IO,a];exact⟨⟨true⟩,by simp,rfl⟩
 | true=>
  by_cases c:(40:Int)<(l.length:Int);simp[go_sem,c,IO,a];exact⟨⟨true⟩,by simp,rfl⟩;by_cases E:(200:Int)<(to.O.size:Int);simp[go_sem,c,E,IO,a];exact⟨⟨true⟩,by simp,rfl⟩;simp[go_sem,c,E,IO,a];exact⟨⟨false⟩,λ_=>⟨hb rfl,by omega⟩,rfl⟩
 obtain⟨b⟩:=b;obtain⟨a,hb⟩:=a;dsimp only at hb ⊢;cases b with
 | true=>
  refine AJ ?_;simp[go_sem];refine qz k11 ?_;simp[go_sem];exact As k rfl rfl
 | false=>
  have hb:=hb rfl;refine AJ ?_;simp[go_sem,IO,a];exact hb
 obtain⟨a,⟨h1,h2,Q⟩,w⟩:=a;obtain⟨S,e,r,T⟩:=nV H I h1 h2 Q l w to;rw[<-s]at r;refine Aa 1 [(1,J),(3,X),(5,V),(7,.q S.g),(8,AA e)] h n ?_ (λm a=>?_);have f:∀j y,h j=some y->j<m:=λj y e=>by have:=i j y e;omega
 rw[q,t];simp[go_sem,AF.g,AI.g];refine qz (by simpa[AG.e,BC.e,AF.g,AI.g]using r) ?_;simp[go_sem,AG.g,AF.g,AI.g,IO,AD,Ah];exact⟨by omega,AZ (AS f (qa _)) (AD _ _ _),AL f AC⟩;refine Bg 0 [(1,J),(3,X),(5,V),(7,.q S.g)] h (λm=>n<=m/\e=0) (AJ ?_) (λm a=>?_);by_cases p:e=0;simp[go_sem,p,IO,a];have P:(e !=0)=true:=by simpa using p
 simp[go_sem,p,P];exact As k rfl rfl;obtain⟨a,p⟩:=a;obtain⟨A,R,G,F,u,o,x,U,Z,L,O,Y,K,M,W⟩:=T p;rw[<-s]at o;refine CW 1 [(1,J),(3,X),(7,.q S.g),(9,.q A.g),(10,.q R.g),(11,.bool true)] h n (AJ ?_) (λm a=>?_);have f:∀j y,h j=some y->j<m:=λj y e=>by have:=i j y e;omega
 have C:∀y z,h_ (h_ h (m+1) y) (m+1+1) z (m+1)=y:=λy z=>by rw[AE _ _ (by omega),AD]
 have D:∀(g:Hp) y z,h_ (h_ g (m+1+1) y) (m+1) z (m+1+1)=y:=λg y z=>by rw[AE _ _ (by omega),AD]
 rw[t];simp[go_sem,AG.g,AF.g,AI.g];refine wn (bs:=[S.e,.i 1 ([to.id].map AA) false]) (h2:=h) 1 (AL f AC) ⟨by simp[AG.e,AF.g,AI.g,IO],aK (AS f (qa _)) (by simp) (AD _ _ _),trivial⟩ (u.use ?_);simp[go_sem,AG.e,AF.g,AI.g,IO,C,D];exact⟨by omega,SQ (λj y e=>by have:=f j y e;omega) _ _ _ _⟩;refine CW 1 [(3,X),(7,.q S.g),(9,.q A.g),(10,.q R.g),(11,.bool true),(12,.q A.g),(13,.q R.g),(14,.bool true)] h n (AJ ?_) (λm a=>?_);have f:∀j y,h j=some y->j<m:=λj y e=>by have:=i j y e;omega
 have C:∀y z,h_ (h_ h m y) (m+1) z m=y:=λy z=>by rw[AE _ _ (by omega),AD]
 have D:∀(g:Hp) y z,h_ (h_ g (m+1) y) m z (m+1)=y:=λg y z=>by rw[AE _ _ (by omega),AD]
 rw[q];simp[go_sem,AG.g,AF.g,AI.g];refine qz (by simpa[AG.e,AF.g,AI.g]using o) ?_;simp[go_sem,IO,C,D];exact⟨by omega,SQ f _ _ _ _⟩;refine CW 0 [(6,.bool true)] h n (AJ ?_) (λm a=>?_)
 . rw[q];simp[go_sem,AG.g,AF.g,AI.g]
   repeat first|refine nq ?_|refine sq ?_
   refine Yg _ _ _ _ _ _ (by simpa[AG.e,AF.g,AI.g]using x) ?_;simp[go_sem]
   repeat first|refine nq ?_|refine sq ?_
   refine Yg _ _ _ _ _ _ (by simpa[AG.e,AF.g,AI.g]using U) ?_;simp[go_sem]
   repeat first|refine nq ?_|refine sq ?_
   refine Yg _ _ _ _ _ _ (by simpa[AG.e,AF.g,AI.g]using Z) ?_;simp[go_sem]
   repeat first|refine nq ?_|refine sq ?_
   refine Yg _ _ _ _ _ _ (by simpa[AG.e,AF.g,AI.g]using L) ?_;simp[go_sem]
   repeat first|refine nq ?_|refine sq ?_
   refine Yg _ _ _ _ _ _ (by simpa[AG.e,AF.g,AI.g]using O) ?_;simp[go_sem]
   repeat first|refine nq ?_|refine sq ?_
   refine Yg _ _ _ _ _ _ (by simpa[AG.e,AF.g,AI.g]using Y) ?_;simp[go_sem]
   repeat first|refine nq ?_|refine sq ?_
   refine Yg _ _ _ _ _ _ (by simpa[AG.e,AF.g,AI.g]using K) ?_;simp[go_sem]
   repeat first|refine nq ?_|refine sq ?_
   refine Yg _ _ _ _ _ _ (by simpa[AG.e,AF.g,AI.g]using M) ?_;simp[go_sem]
   repeat first|refine nq ?_|refine sq ?_
   refine Yg _ _ _ _ _ _ (by simpa[AG.e,AF.g,AI.g]using W) ?_;simp[go_sem]
   repeat first|refine nq ?_|refine sq ?_
   exact a
 refine AJ ?_;simp[go_sem];exact As k rfl rfl
end Go.Proofs.YtgakninlhfkkmaaGreat.Sh
namespace Go.Proofs.YtgakninlhfkkmaaGreat.splitTogether
set_option maxRecDepth 100000
theorem and2{a b : Bool}(ha : a = true)(hb : b = true) : (a && b) = true := by rw [ha, hb]; rfl
noncomputable abbrev A(q : Program → FuncId → Func → ChangeSpec → OpenClaim → Bool) : Bool := q Tryz.prog 10 Tryz.f10 (Rows.OpenSpec.upto Rows.splitTogetherSpec).bare Rows.splitTogetherUptoRow
theorem f0 : A (fun _ _ _ s c => c.wf (OpenSpec.ofChange s)) = true := by kernel_rfl
theorem f1 : A (fun P _ _ _ _ => laidOutB P) = true := by kernel_rfl
theorem f2 : A (fun P _ _ _ _ => mapsRowed P) = true := by kernel_rfl
theorem f3 : A (fun P _ fn _ _ => fn.params.all (P.readableRec ·)) = true := by kernel_rfl
theorem f4 : A (fun P _ _ s c => namedTie P c.named s.vars) = true := by kernel_rfl
theorem f5 : A (fun _ _ _ _ c => (c.stops == [])) = true := by kernel_rfl
theorem f6 : A (fun P _ _ _ _ => (P.stops == [])) = true := by kernel_rfl
theorem f7 : A (fun _ _ _ _ c => (c.knobs == [])) = true := by kernel_rfl
theorem f8 : A (fun P _ _ _ _ => (P.stopKnobs == [])) = true := by kernel_rfl
theorem f9 : A (fun P f _ _ c => (c.inPlace == P.inPlace f)) = true := by kernel_rfl
theorem f10 : A (fun P f _ _ c => (c.unfollowed == P.unfollowed f)) = true := by kernel_rfl
theorem f11 : A (fun P f _ _ c => (c.recurses == P.recurses f)) = true := by kernel_rfl
theorem f12 : A (fun P f _ _ c => (c.named == P.varsNamed f)) = true := by kernel_rfl
theorem f13 : A (fun P _ fn s c => (c.maps == (fn.params.toList ++ s.plain.varTypes P).any (P.mapsRec ·))) = true := by kernel_rfl
theorem f14 : A (fun P _ fn s c => (c.ifaces == (fn.params.toList ++ s.plain.varTypes P).any (P.ifacesRec ·))) = true := by kernel_rfl
theorem f15 : A (fun P _ fn _ c => (c.mapsOut == P.mapsAmong fn.resultTypes.toList)) = true := by kernel_rfl
theorem f16 : A (fun P _ fn s c => (c.loops == (fn.params.toList ++ s.plain.varTypes P).any (P.loopsFrom ·))) = true := by kernel_rfl
theorem f17 : A (fun P _ fn s c => (c.wideKeys == (fn.params.toList ++ s.plain.varTypes P ++ fn.resultTypes.toList).any (P.wideKeysFrom ·))) = true := by kernel_rfl
theorem f18 : A (fun P _ _ s _ => s.vars.all (P.varReadable ·)) = true := by kernel_rfl
theorem f19 : A (fun P _ fn _ _ => fn.resultTypes.all (fun t => P.readableRec t && decide (t < P.types.size))) = true := by kernel_rfl
theorem f20 : A (fun P _ fn _ c => (c.ifacesOut == fn.resultTypes.toList.any (P.ifacesRec ·))) = true := by kernel_rfl
theorem f21 : A (fun P _ fn _ c => (c.loopsOut == fn.resultTypes.toList.any (P.loopsFrom ·))) = true := by kernel_rfl
theorem f22 : A (fun P _ _ _ c => (c.plainKeys == P.plainKeys)) = true := by kernel_rfl
theorem f23 : A (fun _ _ _ _ c => c.shortTexts.isNone) = true := by kernel_rfl
theorem f24 : A (fun P _ _ _ _ => P.stopsHeard) = true := by kernel_rfl
theorem f25 : A (fun P _ _ _ _ => P.mayEnter) = true := by kernel_rfl
theorem f26 : A (fun P _ _ _ c => (c.lifted == P.liftsFinal)) = true := by kernel_rfl
theorem f27 : A (fun P _ _ _ c => (P.make == some c.make)) = true := by kernel_rfl
theorem f28 : A (fun P _ fn _ c => (c.kinds == (if c.domain.isEmpty then [] else fn.params.toList.map fun t => match P.underlying t with | some (.int k) => some k | _ => none))) = true := by kernel_rfl
theorem f29 : A (fun _ _ _ _ c => (c.pinned == c.pinnedBy)) = true := by kernel_rfl
theorem f30 : A (fun P _ fn s c => (c.veiled == (fn.params.toList ++ s.plain.varTypes P ++ fn.resultTypes.toList).any (P.veiledRec ·))) = true := by kernel_rfl
theorem f31 : A (fun P _ fn s c => c.veiledFits P fn.params.toList (fn.params.toList ++ s.plain.varTypes P ++ fn.resultTypes.toList)) = true := by kernel_rfl
theorem facts : joinedFacts Tryz.checked.prog 10 Tryz.f10 (Rows.OpenSpec.upto Rows.splitTogetherSpec).bare Rows.splitTogetherUptoRow = true := (and2 (and2 (and2 (and2 (and2 (and2 (and2 (and2 (and2 (and2 (and2 (and2 (and2 (and2 (and2 (and2 (and2 (and2 (and2 (and2 (and2 (and2 (and2 (and2 (and2 (and2 (and2 (and2 (and2 (and2 (and2 f0 f1) f2) f3) f4) f5) f6) f7) f8) f9) f10) f11) f12) f13) f14) f15) f16) f17) f18) f19) f20) f21) f22) f23) f24) f25) f26) f27) f28) f29) f30) f31)
end Go.Proofs.YtgakninlhfkkmaaGreat.splitTogether
namespace Go.Proofs.YtgakninlhfkkmaaGreat.splitTogether
open Go.ChangeShapes Go.WideShapes Go.ChangeAt Go.RowKit
open Go.Proofs.YtgakninlhfkkmaaGreat.Sh
set_option maxRecDepth 10000
set_option maxHeartbeats 4000000
theorem own : ownKnob Tryz.prog.godebug = none := by kernel_rfl
theorem contract(H : Type)(enc : TypeId × Value → H)(W : World)(base : Nat)(args : Array Value)(ds gs : List (DataW H))(before : List MemPlace)
 (hval : ∀ (j : Nat) t v, Tryz.f10.params[j]? = some t → args[j]? = some v → Value.okWide Tryz.prog W .any base t v)
 (hW : DataW.Whole enc Tryz.prog Tryz.f10.params.toList Rows.splitTogetherSpec.vars false W args.toList ds gs before) (hk : Rows.uptoSmall H (ds ++ gs) = true) :
 Calls Tryz.prog 10 args W fun e W' => ∃ v, e = .returned v ∧ Rows.splitTogetherSpec.post enc Tryz.prog Tryz.f10 false true false false W args v W' := by
 have hW' := hW;obtain ⟨p, q, hA, hV, rfl, hfz, hnd⟩ := hW;rw [Tryz.params10] at hA hval;obtain ⟨v0, vs0, d0, ds0, p0, q0, hargs, rfl, rfl, ⟨n0, h0⟩, r0⟩ := trodAll_cons hA;obtain ⟨v1, vs1, d1, ds1, p1, q1, rfl, rfl, rfl, ⟨n1, h1⟩, r1⟩ := trodAll_cons r0;obtain ⟨v2, vs2, d2, ds2, p2, q2, rfl, rfl, rfl, ⟨n2, h2⟩, r2⟩ := trodAll_cons r1;obtain ⟨rfl, rfl, rfl⟩ := trodAll_nil r2;obtain rfl : args = #[v0, v1, v2] := by cases args; simp_all
 obtain ⟨rfl, rfl⟩ := trodVars_none hV;rw [JP] at hk;have hb : Rows.uptoBulkAll [d0, d1, d2] ≤ 1048576 := of_decide_eq_true hk;simp only [Rows.uptoBulkAll] at hb;obtain ⟨d, a1, a2⟩ := (VF n0).arg Tryz.underlying38 (hval 0 38 v0 rfl rfl) h0 (by unfold BB; dsimp only; omega);obtain ⟨r, b1⟩ : ∃ r : List Int, V (Xm W) (.i 1 (r.map AA) false) v1 := by
  have hv := hval 1 61 v1 rfl rfl;obtain ⟨r, r1, _⟩ := pR n1 _ _ h1 (by unfold BB; dsimp only; omega);refine ⟨r, ?_⟩;obtain ⟨u, rest, hc, hu, hr⟩ := r1;rw [VL] at hr;subst hr;cases v1 <;> simp [Value.okWide, Go.Cell.okWide, Go.Cell.ok, Tryz.underlying61] at hv <;> (simp [Value.cells] at hc; rw [hc]; exact hu)
 obtain ⟨c, c1, c2⟩ := (dI n2).arg Tryz.underlying42 (hval 2 42 v2 rfl rfl) h2 (by unfold BB; dsimp only; omega);have hBB : BB ≤ 1048576 := by unfold BB; exact qa _
 have hc := PC.calls (Sh.splitTogether d r c hBB a2) (W := W) (vs := [v0, v1, v2]) ⟨a1, b1, c1, trivial⟩;refine Calls.mono hc ?_;rintro e W' ⟨u, c', rfl, rfl, hV, hE⟩;have hu : u = .bool true := by rw [V] at hV; exact hV
 subst hu;refine ⟨_, rfl, TQ (x := .lit (.bool true)) hW' rfl (by rw [Tryz.params10]; exact of_decide_eq_true (by kernel_rfl)) hE.os hE.out (fun b hb => U0 hE hb) rfl (fun _ _ _ => trodAll_cons_mk (shut_bool Tryz.underlying4 _) trodAll_mk0) (ok_one (by kernel_rfl) rfl (okWide_bool_mk Tryz.underlying4 _))⟩
def zi : Value := .int .i64 0
def zl : Value := .slice none 0 0
def witD : Value := .agg #[zl, zl, zi, zi, zl, zl, zl, zl, zl, zl, zl]
def witC : Value := .agg #[zi, .string .empty, zi]
def li{H : Type} : DataW H := .lit (.int .i64 0)
set_option maxRecDepth 100000 in
theorem lifted(os : Os)(started : os.Started)(H : Type)(enc : TypeId × Value → H)(F : Stop.Interp) :
 ReturnsInHanded {} Tryz.checked os 10 .any ((Rows.OpenSpec.upto Rows.splitTogetherSpec).pre6 enc Tryz.prog Tryz.f10 Rows.splitTogetherUptoRow.domain false) (((Rows.OpenSpec.upto Rows.splitTogetherSpec).at F).post enc Tryz.prog Tryz.f10 false true false false) := by
 refine returnsInHanded_of_cond (C := Tryz.checked) (s := Rows.OpenSpec.upto Rows.splitTogetherSpec) (k := Rows.uptoSmall) rfl own started (by kernel_rfl) Tryz.func10
  (OpenSpec.witness (enc := enc) (C := Tryz.checked) (s := Rows.OpenSpec.upto Rows.splitTogetherSpec) (k := Rows.uptoSmall) rfl false ⟨#[], #[witD, zl, witC], []⟩ 12 (by kernel_rfl) (by kernel_rfl) (by kernel_rfl)
    (x := ([.agg [.nil, .agg [.nil, .agg [li, li, .nil, .nil]], .nil, .agg [.nil, .nil, .nil, .nil]], .nil, .agg [li, .lit (.string []), li]], [], [])) (by kernel_rfl) rfl (by kernel_rfl)) ?_
 intro W base args ds gs before hval hW _ hk _;exact contract H enc W base args ds gs before hval hW hk
theorem named : Tryz.checked.prog.funcNamed Rows.splitTogetherUptoRow.func = some 10 := by kernel_rfl
theorem inst : Tryz.f10.isInstance Tryz.checked.prog Rows.splitTogetherUptoRow.origin Rows.splitTogetherUptoRow.targs := of_decide_eq_true (by kernel_rfl)
theorem wrap : Tryz.f10.isWrapper Tryz.checked.prog Rows.splitTogetherUptoRow.wrapper Rows.splitTogetherUptoRow.mainSum := by unfold Func.isWrapper; first | (rw [if_pos (by decide +kernel)]; kernel_rfl) | (rw [if_neg (by decide +kernel)]; exact ⟨rfl, rfl⟩)
theorem proved : Rows.SplitTogetherUptoSaid :=
 OpenClaim.holds_of_cond 10 Tryz.f10 rfl rfl rfl rfl rfl rfl rfl ⟨rfl, rfl, rfl, rfl, rfl⟩ rfl rfl rfl rfl rfl named Tryz.func10 facts inst wrap
  (fun os started H enc _ F => lifted os started H enc F)
#print axioms proved
end Go.Proofs.YtgakninlhfkkmaaGreat.splitTogether
