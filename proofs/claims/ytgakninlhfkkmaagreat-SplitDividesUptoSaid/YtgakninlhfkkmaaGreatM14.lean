/- A part of the proof (part 14 of 15). -/
import Derived.Test.YtgakninlhfkkmaaGreatM13
namespace Go.Proofs.YtgakninlhfkkmaaGreat.Sh
abbrev Xh:=@CU.rd
abbrev Yv:=@CU.cons
abbrev ZE:=@Rd.zero
abbrev ZS:=@CU.nil
open Proofs
set_option maxRecDepth 10000
def Fs (p:Int×Int):SV:=.agg [AA p.1,AA p.2]
def AF.mv0 (h:AF):List (Int×Int):=if h.move=0 then[]else[(h.ins,h.move)]
def Hh (l:List BO):List (Int×Int):=(l.filter λx=>decide (x.move≠0)).map λx=>(x.rev,x.move)
def AF.moves (h:AF):List (Int×Int):=h.mv0++Hh h.dels
theorem IB (l:List BO):(Hh l).length<=l.length:=by
 unfold Hh;rw[Y5];exact Ze _ _
theorem RW {H:Hp} {n m k p:Nat} {es:List SV} {x:Int×Int} {o:Option Nat} (hA:A7 n m 2 o es) (hl:es.length<=1073741823) (h1:H k=some (.cells [AA x.1,AA x.2])) (h2:∀j,o=some j->H j=some (.cells (es.flatMap SV.cells))):
 AS Tryz.prog H p .append [86,86] [AN 2 o es,.sl k 0 2 1 true]=some { val:=.sl p 0 2 (es.length+1) false,upd:=o.map λj=>(j,none),new:=some (.cells (es.flatMap SV.cells++[AA x.1,AA x.2])) }:=by
 have:=FU (P:=Tryz.prog) (H:=H) (t:=86) (t2:=86) (el:=89) (z:=2) (by simp[go_sem]) (by simp[go_sem]) (by simp[go_sem]) (by simp) (by simp[go_sem]) (by simp[go_sem]) (by simp[go_sem]) (by omega) hA (e:=Fs x) rfl h1 h2 p
 exact this
theorem K0 (l:List BO) (i:Nat) (hi:i<l.length):Hh (l.take (i+1))=Hh (l.take i)++if l[i].move=0 then[]else[(l[i].rev,l[i].move)]:=by
 unfold Hh
 rw[Y2 hi,YV,Y3]
 congr 1
 by_cases e:l[i].move=0<;>simp[e]
set_option maxHeartbeats 2000000 in
theorem c44g (x:AF) (hs:x.sized):PC 44 [x.enc] (.imm 2 (x.moves.map Fs) false):=by
 intro h n
 refine Dg Tryz.func44 rfl λho=>?_
 have hHb:=ho.lt
 refine Ab 1 [(1,.iptr x.flat)] h n ?_ (λm hm=>?_)
 . simp[go_sem,AF.enc,AF.flat]
   exact⟨AT (Ac hHb (Y1 _)) (AC _ _ _),AK hHb AB⟩
 refine Ab 0 [(1,.iptr x.flat),(3,.imm 0 [] true)] h n ?_ (λm hm=>?_)
 . simp[go_sem,Y0,hm]
 refine AV 0 (α:=Option Nat) (λo=>[(1,.iptr x.flat),(3,AN 2 o (x.mv0.map Fs))]) (λo=>AO o (x.mv0.map Fs) h) (λo m=>n<=m/\A7 n m 2 o (x.mv0.map Fs)) ?_ (λo m hm=>?_)
 . refine Ab 1 [(1,.iptr x.flat),(3,.imm 0 [] true),(4,.iptr [AA x.ins,AA x.move,Aa x.dels,AQ x.layers])] h n ?_ (λm hm=>?_)
   . have hHm:∀j y,h j=some y->j<m:=λj y e=>by have:=hHb j y e;omega
     simp[go_sem,AF.flat,Y0,AC,AY]
     exact⟨by omega,AT (Ac hHm (Y1 _)) (AC _ _ _),AK hHm AB⟩
   refine AI ?_
   by_cases m0:x.move=0
   . simp[go_sem,m0,AF.mv0,Y0,AN,AO]
     exact⟨none,⟨hm,Zs _ _ _⟩,rfl,AB⟩
   . have hm0:(x.move !=0)=true:=by simpa using m0
     have hap:=λ(H:Hp) (k p:Nat) (h1:H k=some (.cells [AA x.ins,AA x.move]))=>RW (H:=H) (k:=k) (p:=p) (es:=[]) (x:=(x.ins,x.move)) (Zs 0 0 2) (by simp) h1 (by simp)
     simp only[Zh,Zy,Zo,Yt,AN]at hap
     simp[go_sem,m0,hm0,AF.mv0]
     rw[hap _ _ _ (by simp[AC])]
     simp[go_sem]
     have hpush:=(Zs n (m+1) 2).push (j:=m+1) (m':=m+1+1) (e:=Fs (x.ins,x.move)) rfl rfl (by omega) (by omega)
     have hvv:AN 2 (some (m+1)) [Fs (x.ins,x.move)]=.sl (m+1) 0 2 1 false:=by simp[AN]
     refine⟨some (m+1),⟨by omega,by simpa using hpush⟩,hvv.symm,λj y=>?_⟩
     have:=hHb j y
     simp only[AO,hset,Fs,SV.cells,YC,Zo,Zi];grind
 obtain⟨hm,hA⟩:=hm
 obtain⟨M,hM⟩:∃M:Nat->List SV,∀i,M i=(x.mv0++Hh (x.dels.take i)).map Fs:=⟨_,λ_=>rfl⟩
 have hM0:x.mv0.map Fs=M 0:=by rw[hM];simp[Hh]
 have hMs:∀i x',(hi:i<x.dels.length)->x.dels[i]=x'->M (i+1)=M i++if x'.move=0 then[]else[Fs (x'.rev,x'.move)]:=λi x' hi e=>by
  rw[hM,hM,K0 _ _ hi,e]
  by_cases e0:x'.move=0<;>simp[e0]
 have hMl:M x.dels.length=x.moves.map Fs:=by rw[hM,Ya];rfl
 have hMn:∀i,(M i).length<=1+i:=λi=>by
  rw[hM,Y5,Ym]
  have h1:=IB (x.dels.take i)
  have h2:x.mv0.length<=1:=by unfold AF.mv0;split<;>simp
  have h3:=List.length_take_le i x.dels
  omega
 rw[hM0]at hA ⊢
 have hsd:=hs.dels
 refine AV 0 (α:=Option Nat) (λo=>[(3,AN 2 o (M x.dels.length))]) (λo=>AO o (M x.dels.length) h) (λo m=>n<=m/\A7 n m 2 o (M x.dels.length)) ?_ (λo m hm=>?_)
 . refine Ab 0 [(1,.iptr x.flat),(3,AN 2 o (M 0)),(22,Aa x.dels),(23,AA x.dels.length),(24,AA 0)] (AO o (M 0) h) m ?_ (λm2 hm2=>?_)
   . simp[go_sem,Y0,AF.flat]
   refine AR (BP 0 (α:=Nat×Option Nat) (λq=>[(1,.iptr x.flat),(3,AN 2 q.2 (M q.1)),(22,Aa x.dels),(23,AA x.dels.length),(24,AA q.1)]) (λq=>AO q.2 (M q.1) h)
    (λq m=>q.1<=x.dels.length/\n<=m/\A7 n m 2 q.2 (M q.1)) (λq=>x.dels.length-q.1) (0,o) ⟨Y4 _,by omega,hA.mono hm2⟩ ?_ AB ?_)
   . simp[go_sem,Aj,Y0]
   clear hA hm hm2 m2 m o
   rintro⟨i,o⟩ m ⟨hi,hnm,hA⟩
   dsimp only at hi hA ⊢
   have hEn:=hMn i
   by_cases hlt:i<x.dels.length
   . have w1:=wS i (by omega)
     obtain⟨y,hy⟩:∃y,x.dels[i]=y:=⟨_,rfl⟩
     have hst:=hMs i y hlt hy
     generalize hE:M i=E at hA hEn hst
     have hXb:∀j y,AO o E h j=some y->j<m:=G6 hHb hnm hA
     refine By 0 [(1,.iptr x.flat),(3,AN 2 o E),(22,Aa x.dels),(23,AA x.dels.length),(24,AA i),(25,.bool true)] (AO o E h) m ?_ (λm2 hm2=>?_)
     . simp[go_sem,Y0,hlt]
     subst hm2
     refine By 0 [(1,.iptr x.flat),(3,AN 2 o E),(22,Aa x.dels),(23,AA x.dels.length),(24,AA i)] (AO o E h) m ?_ (λm2 hm2=>?_)
     . simp[go_sem,Y0]
     subst hm2
     refine AV 0 (α:=Option Nat) (λo=>[(1,.iptr x.flat),(3,AN 2 o (M (i+1))),(22,Aa x.dels),(23,AA x.dels.length),(24,AA i)]) (λo=>AO o (M (i+1)) h) (λo m=>n<=m/\A7 n m 2 o (M (i+1))) (AR ?_) (λo m hm=>?_)
     . refine Ab 1 [(1,.iptr x.flat),(3,AN 2 o E),(22,Aa x.dels),(23,AA x.dels.length),(24,AA i),(6,.iptr [AA y.rev,AA y.move])] (AO o E h) m ?_ (λm2 hm2=>?_)
       . simp[go_sem,Y0,hlt,hy,BO.enc,AC]
         exact⟨AT (Ac hXb (Y1 _)) (AC _ _ _),AK hXb (AK hXb AB)⟩
       rw[hst]
       refine AI ?_
       by_cases m0:y.move=0
       . simp[go_sem,m0,Y0]
         exact⟨o,⟨by omega,hA.mono hm2⟩,rfl,AB⟩
       . have hm0:(y.move !=0)=true:=by simpa using m0
         simp[go_sem,m0,hm0]
         rw[RW (x:=(y.rev,y.move)) hA (by omega) (by simp[AC]) (by
          intro j e
          have:=(hA.lt j e).2
          rw[AD _ _ (by omega)];exact Dz j e)]
         have hpush:=hA.push (j:=m2+1) (m':=m2+1+1) (e:=Fs (y.rev,y.move)) rfl rfl (by omega) (by omega)
         have hlive:=Du (p:=m2+1) (v:=.sl (m2+1) 0 2 (E.length+1) false) (e:=Fs (y.rev,y.move)) hHb (by omega) hA (H:=hset (AO o E h) m2 (some (.cells [AA y.rev,AA y.move]))) (AK (λj z e=>by have:=hHb j z e;omega) (C8 hHb hA))
         have hvv:AN 2 (some (m2+1)) (E++[Fs (y.rev,y.move)])=.sl (m2+1) 0 2 (E.length+1) false:=by simp[AN]
         simp[go_sem]
         exact⟨some (m2+1),⟨by omega,hpush⟩,hvv.symm,by simpa[Cs.app,SV.cells,Fs]using hlive⟩
     . refine AI ?_
       simp[go_sem,w1,Y0,-Int.natCast_add]
       exact⟨i+1,by omega,o,⟨by omega,hm.1,hm.2⟩,⟨Y0,Y0⟩,AB⟩
   . have:i=x.dels.length:=by omega
     subst this
     refine AI ?_
     simp[go_sem]
     exact⟨o,⟨hnm,hA⟩,rfl,AB⟩
 refine AI ?_
 simp[go_sem]
 rw[hMl]at hm ⊢
 exact Gx ho hm.2 (λe he=>by obtain⟨p,_,rfl⟩:=Yp.1 he;simp[Fs,closed,closedL])
abbrev DF:=List ((Int×Int)×(Bool×Bool))
def KO (b:Bool×Bool):SV:=.agg [.bool b.1,.bool b.2]
def CF (s:DF):List (SV×SV):=s.map λe=>(Fs e.1,KO e.2)
def Es (v:Bool×Bool) (mid:Bool):Bool×Bool:=(v.1||mid,v.2 || !mid)
def E9:DF->Int×Int->Bool->DF
 | [],k,mid=>[(k,Es (false,false) mid)]
 | (k',v)::r,k,mid=>if k'=k then(k,Es v mid)::r else(k',v)::E9 r k mid
def JN (s:DF) (l:List (Int×Int)) (mid:Bool):DF:=l.foldl (λs k=>E9 s k mid) s
def UC (s:DF) (p:BY):DF:=JN s p.head.moves p.mid
theorem fe89 (a b c d:Int):B9 Tryz.prog [.int .i64 a,.int .i64 b] [.int .i64 c,.int .i64 d] (Bd Tryz.prog 89)=some (a==c&&b==d):=by
 rw[CO,fo89]
 have ti:(KU Tryz.prog 3).isSome=true:=by simp[go_sem]
 have ts:Bh Tryz.prog 3=1:=by simp[go_sem]
 have ta:Fx Tryz.prog 3=some false:=by simp[go_sem]
 have one:∀x y:Int,DG Tryz.prog 3 (.int .i64 x) (.int .i64 y)=some (x==y):=λx y=>by simp[DG,ti,ts,ta]
 simp only[Cu,Y7,if_false,Zx,List.getElem?_cons_succ,one]
 cases h1:(a==c)<;>cases h2:(b==d)<;>simp
theorem Qy (s:DF):∀p∈CF s,T6 p:=λp hp=>by
 obtain⟨e,_,rfl⟩:=Yp.1 hp
 exact⟨e.1.1,e.1.2,rfl⟩
theorem La (a b:Int) (mid:Bool):∀(s:DF) (i:Nat),
 (Fh Tryz.prog 89 [.int .i64 a,.int .i64 b] (CF s) i=some none/\CF (E9 s (a,b) mid)=CF s++[(Fs (a,b),KO (Es (false,false) mid))])\/
 ∃j v,Fh Tryz.prog 89 [.int .i64 a,.int .i64 b] (CF s) i=some (some (i+j,KO v))/\CF (E9 s (a,b) mid)=Fj (CF s) j (Fs (a,b)) (KO (Es v mid))
 | [],i=>.inl ⟨rfl,rfl⟩
 | ((c,d),v)::r,i=>by
  have hs:CF (((c,d),v)::r)=(Fs (c,d),KO v)::CF r:=rfl
  rw[hs]
  simp only[Fh,Fs,fe89]
  by_cases e:a=c/\b=d
  . obtain⟨rfl,rfl⟩:=e
    have e1:(a==a&&b==b)=true:=by simp
    rw[e1]
    exact .inr ⟨0,v,rfl,by simp[E9,CF,Fj,Fs]⟩
  . have e1:(a==c&&b==d)=false:=by
     cases h1:(a==c)<;>cases h2:(b==d)<;>simp_all
    have e2:¬((c,d)=(a,b)):=by
     intro h;cases h;exact e ⟨rfl,rfl⟩
    rw[e1]
    have hu:CF (E9 (((c,d),v)::r) (a,b) mid)=(Fs (c,d),KO v)::CF (E9 r (a,b) mid):=by
     rw[E9,if_neg e2];rfl
    rcases La a b mid r (i+1)with⟨h1,h2⟩|⟨j,w,h1,h2⟩
    . exact .inl ⟨h1,by rw[hu,h2];rfl⟩
    . exact .inr ⟨j+1,w,by rw[show i+(j+1)=i+1+j by omega];exact h1,by rw[hu,h2];rfl⟩
def Nv (k:Nat) (s:DF) (o:Nat):Option BT:=if o=k then some (.map (CF s))else if o=k+1 then some (.cells [.map k])else none
theorem Pr (k:Nat) (s:DF) (H:Hp) (h1:H (k+1)=some (.cells [.map k])):Ai (Nv k) s H=hset H k (some (.map (CF s))):=by
 funext j
 simp only[Ai,Nv,hset]
 by_cases e:j=k
 . simp[e]
 . by_cases e2:j=k+1
   . subst e2;simp[h1]
   . simp[e,e2]
theorem Sf (k:Nat) (s:DF):∀o y,Nv k s o=some y->BN (k+2) y=true:=λo y e=>by
 simp only[Nv]at e
 split at e
 . cases e
   simp only[BN,YL,CF,Yb]
   intro p hp
   obtain⟨x,_,rfl⟩:=Yp.1 hp
   exact⟨by simp[Fs,closed,closedL],by simp[KO,closed,closedL]⟩
 . split at e
   . cases e;simp[BN,closed,closedL]
   . cases e
set_option maxHeartbeats 4000000 in
theorem v43g (k:Nat):Vis (Nv k) (k+2) 43 [] [.ptr (k+1) 0] UC (λh=>h.sized) where
 lt s o h:=by simp only[Nv];rw[if_neg (by omega),if_neg (by omega)]
 dom s s' o h:=by
  simp only[Nv]at h ⊢
  by_cases e1:o=k
  . rw[if_pos e1]at h;cases h
  . by_cases e2:o=k+1
    . rw[if_neg e1,if_pos e2]at h;cases h
    . rw[if_neg e1,if_neg e2]
 cl s o y h:=Sf k s o y h
 call s p H n hp hn hs:=by
  refine Dg Tryz.func43 rfl λho=>?_
  have a2:H (k+1)=some (.cells [.map k]):=hs (k+1) _ (by simp[Nv])
  obtain⟨U,hU⟩:∃U:DF->Hp,∀s',U s'=Ai (Nv k) s' H:=⟨_,λ_=>rfl⟩
  have hUk:∀s',U s' k=some (.map (CF s')):=λs'=>by rw[hU];simp[Ai,Nv]
  have hUk1:∀s',U s' (k+1)=some (.cells [.map k]):=λs'=>by rw[hU];simp[Ai,Nv]
  have hUs:∀s' s'',hset (U s') k (some (.map (CF s'')))=U s'':=λs' s''=>by rw[hU,hU,Pr _ _ _ a2,Pr _ _ _ a2];funext j;simp only[hset];grind
  have hU0:U s=H:=by
   rw[hU];funext j
   simp only[Ai]
   split
   . rename_i y e;exact(hs j y e).symm
   . rfl
  have hOld:∀s',E4 (U s') n:=λs' j y e=>by
   rw[hU]at e
   simp only[Ai]at e
   split at e
   . rename_i z e2
     have:=Sf k s' j z e2
     cases e
     simp only[Nv]at e2
     refine⟨?_,G8 (by omega) this⟩
     split at e2
     . omega
     . split at e2
       . omega
       . cases e2
   . exact ho j y e
  have hUb:∀s' j y,U s' j=some y->j<n:=λs' j y e=>(hOld s' j y e).1
  have hUU:∀s'',Ai (Nv k) s'' (U s)=U s'':=λs''=>by rw[hU0,hU]
  rw[<-hU0]
  refine Ab 1 [(1,.ptr (k+1) 0),(2,.iptr (p.head.flat++[.bool p.mid,AA p.units]))] (U s) n ?_ (λm hm=>?_)
  . simp[go_sem,BY.enc,AF.flat,Y0]
    refine⟨AT (Ac (hUb s) (Y1 n)) (by simp[hset]),AK (hUb s) AB⟩
  have hL:p.head.moves.length<=1048577:=by
   have h1:=IB p.head.dels
   have h2:=hp.dels
   have h3:p.head.mv0.length<=1:=by unfold AF.mv0;split<;>simp
   simp only[AF.moves,Ym];omega
  obtain⟨l,hl⟩:∃l,p.head.moves=l:=⟨_,rfl⟩
  have hf:UC s p=JN s (l.take l.length) p.mid:=by rw[Ya,<-hl];rfl
  rw[hl]at hL
  refine Bt 0 [(1,.ptr (k+1) 0),(2,.iptr (p.head.flat++[.bool p.mid,AA p.units])),(8,.imm 2 (l.map Fs) false),(9,AA l.length),(10,AA 0)] (U s) n (AI ?_) (λm hm=>?_)
  . have c:=c44g p.head hp
    rw[hl]at c
    simp[go_sem,AF.flat]
    refine Yj (by simpa[AF.enc,AF.flat]using c) ?_
    simp[go_sem,Y0,hm]
  refine AR (BP 0 (α:=Nat) (λi=>[(1,.ptr (k+1) 0),(2,.iptr (p.head.flat++[.bool p.mid,AA p.units])),(8,.imm 2 (l.map Fs) false),(9,AA l.length),(10,AA i)]) (λi=>U (JN s (l.take i) p.mid))
   (λi m=>i<=l.length/\n<=m) (λi=>l.length-i) 0 ⟨Y4 _,by omega⟩ ?_ ?_ ?_)
  . simp[go_sem,Aj,Y0]
  . simp[JN]
  rintro i m ⟨hi,hm⟩
  by_cases hlt:i<l.length
  . have w1:=wS i (by omega)
    obtain⟨x,hx⟩:∃x,l[i]=x:=⟨_,rfl⟩
    have hnext:JN s (l.take (i+1)) p.mid=E9 (JN s (l.take i) p.mid) x p.mid:=by
     rw[Y2 hlt,hx];simp[JN]
    generalize hS:JN s (l.take i) p.mid=S at hnext
    refine By 0 [(1,.ptr (k+1) 0),(2,.iptr (p.head.flat++[.bool p.mid,AA p.units])),(8,.imm 2 (l.map Fs) false),(9,AA l.length),(10,AA i),(11,.bool true)] (U S) m ?_ (λm2 hm2=>?_)
    . simp[go_sem,Y0,hlt]
    subst hm2
    refine By 0 [(1,.ptr (k+1) 0),(2,.iptr (p.head.flat++[.bool p.mid,AA p.units])),(8,.imm 2 (l.map Fs) false),(9,AA l.length),(10,AA i)] (U S) m ?_ (λm2 hm2=>?_)
    . simp[go_sem,Y0]
    subst hm2
    refine AV 0 (α:=Unit) (λ_=>[(1,.ptr (k+1) 0),(2,.iptr (p.head.flat++[.bool p.mid,AA p.units])),(8,.imm 2 (l.map Fs) false),(9,AA l.length),(10,AA i)]) (λ_=>U (E9 S x p.mid)) (λ_ m2=>m<=m2) (AR ?_) (λ_ m2 hm2=>?_)
    . have hb:∀j y,U S j=some y->j<m:=λj y e=>by have:=hUb S j y e;omega
      refine Ab 1 [(1,.ptr (k+1) 0),(2,.iptr (p.head.flat++[.bool p.mid,AA p.units])),(8,.imm 2 (l.map Fs) false),(9,AA l.length),(10,AA i),(4,.iptr [AA x.1,AA x.2])] (U S) m ?_ (λm2 hm2=>?_)
      . simp[go_sem,Y0,hlt,hx,Fs,AC]
        exact⟨AT (Ac hb (Y1 _)) (AC _ _ _),AK hb (AK hb AB)⟩
      have hmE:Fs x=.agg [.int .i64 x.1,.int .i64 x.2]:=rfl
      obtain⟨v,r,hfind,hval,hput⟩:∃(v:Bool×Bool) (r:Option (Nat×SV)),Fh Tryz.prog 89 [.int .i64 x.1,.int .i64 x.2] (CF S) 0=some r/\(match r with|some pr=>pr.2|none=>BH Tryz.prog 90)=KO v/\
       (match r with|some pr=>Fj (CF S) pr.1 (Fs x) (KO (Es v p.mid))|none=>CF S++[(Fs x,KO (Es v p.mid))])=CF (E9 S x p.mid):=by
       rcases La x.1 x.2 p.mid S 0 with⟨h1,h2⟩|⟨j,w,h1,h2⟩
       . exact⟨(false,false),none,h1,by simp[go_sem,KO],h2.symm⟩
       . exact⟨w,some (0+j,KO w),h1,rfl,by rw[YW];exact h2.symm⟩
      refine AV 0 (α:=Nat) (λq=>[(1,.ptr (k+1) 0),(2,.iptr (p.head.flat++[.bool p.mid,AA p.units])),(8,.imm 2 (l.map Fs) false),(9,AA l.length),(10,AA i),(4,.iptr [AA x.1,AA x.2]),(5,.ptr q 0)]) (λq=>hset (U S) q (some (.cells [.bool v.1,.bool v.2]))) (λq m2=>m<=q/\q<m2) (AI ?_) (λq m3 hm3=>?_)
      . simp[go_sem,hUk1]
        refine Nd (q:=k) (a:=x.1) (b:=x.2) rfl (by simp[go_sem]) (hUk S) (by simp[go_sem]) hval hfind ?_
        simp[go_sem,Y0,KO,AY,AC]
        exact⟨m2,⟨by omega,by omega⟩,Y0,AB⟩
      obtain⟨hq1,hq2⟩:=hm3
      have hUq:U S q=none:=Ac hb hq1
      refine CB 0 [(1,.ptr (k+1) 0),(2,.iptr (p.head.flat++[.bool p.mid,AA p.units])),(8,.imm 2 (l.map Fs) false),(9,AA l.length),(10,AA i),(4,.iptr [AA x.1,AA x.2]),(5,.ptr q 0)] (hset (U S) q (some (.cells [.bool (v.1||p.mid),.bool (v.2 || !p.mid)]))) (λm2=>q<m2) (AI ?_) (λm4 hm4=>?_)
      . obtain⟨v1,v2⟩:=v
        cases v1<;>cases v2<;>cases hmid:p.mid<;>simp[go_sem,AF.flat,AC,AY]
        all_goals (repeat first|refine nq ?_|refine sq ?_|refine aq ?_)
        all_goals exact hq2
      refine AI ?_
      have hkq:k≠q:=by omega
      have hk1:k+1≠q:=by omega
      simp[go_sem,AD _ _ hk1,hUk1,AC]
      refine KS (q:=k) (a:=x.1) (b:=x.2) rfl (by simp[go_sem]) (by rw[AD _ _ hkq];exact hUk S) (by simp[go_sem]) (Qy S) hput hfind ?_
      simp[go_sem,Y0]
      refine⟨by omega,λj y e=>?_⟩
      rw[<-hUs S]at e
      simp only[hset]at e ⊢
      have:=hUb S j y
      grind
    . refine AI ?_
      simp[go_sem,w1,Y0,-Int.natCast_add]
      exact⟨i+1,by omega,⟨by omega,by omega⟩,Y0,by rw[hnext];exact AB⟩
  . have:i=l.length:=by omega
    subst this
    refine AI ?_
    simp[go_sem]
    rw[hUU,hf,Ya]
    exact CT (hOld _) (by simp[closed,closedL]) AB
def zD:AH:=⟨[],z0,[],E7⟩
def EN (rev:Int) (e:(Int×Int)×(Bool×Bool)):Bool:=e.1.1==rev&&(e.2.1&&e.2.2)
def HX (d:AH) (r:BD):Nat:=(BF (HN d.revs r.id) d.revs.length).1
def EW (d:AH) (rev:Int) (r:BD) (c:Int×Int×Int) (S:DF) (R:AH):AH×Int:=
 if c.2.2≠0 then(zD,c.2.2)else if CY r≠0 then(zD,CY r)else if(Bv d.revs r.id).2=true then(zD,7)else if 256<=d.revs.length then(zD,9)
 else if c.1=0\/c.2.1=0 then(zD,11)else if S.any (EN rev)=true then(zD,24)else(R,0)
theorem HF (n:Nat) (E:AH) (e:Int):closed n (.tup [E.enc,AA e])=true:=by
 simp[AH.enc,AF.flat,AJ.flat,closed,closedL,AE.E.closedL,E8.E.closedL,BO.E.closedL,Ax.E.closedL,BD.E.closedL,Az.E.closedL,FQ.E.closedL,As.E.closedL,Fa.E.closedL]
theorem TV {a b:Int×Int} (h:Fs a=Fs b):a=b:=by
 simp only[Fs,SV.agg.injEq,List.cons.injEq,SV.int.injEq,true_and,and_true]at h
 exact Prod.ext h.1 h.2
theorem S4 {a b:Bool×Bool} (h:KO a=KO b):a=b:=by
 simp only[KO,SV.agg.injEq,List.cons.injEq,SV.bool.injEq,and_true]at h
 exact Prod.ext h.1 h.2
theorem KQ {α:Type} {l:List α} {i:Nat} {x:α} (hi:i<l.length) (h:x∈l) (hne:x≠l[i]):x∈l.eraseIdx i:=by
 rw[List.eraseIdx_eq_take_drop_succ]
 have h1:l=l.take i++l[i]::l.drop (i+1):=by rw[List.getElem_cons_drop,Z4]
 rw[h1]at h
 simp only[Y8,Yg]at h ⊢
 rcases h with h|h|h
 . exact .inl h
 . exact absurd h hne
 . exact .inr h
def LW (S:DF) (rev:Int) (left:List (SV×SV)):Prop:=(∀p∈left,∃e∈S,p=(Fs e.1,KO e.2))/\∀e∈S,EN rev e=true->(Fs e.1,KO e.2)∈left
theorem LW.start (S:DF) (rev:Int):LW S rev (CF S):=⟨λp hp=>by obtain⟨e,he,rfl⟩:=Yp.1 hp;exact⟨e,he,rfl⟩,λe he _=>Yp.2 ⟨e,he,rfl⟩⟩
theorem LW.erase {S:DF} {rev:Int} {left:List (SV×SV)} (H:LW S rev left) {i:Nat} {e:(Int×Int)×(Bool×Bool)} (hw:left[i]? = some (Fs e.1,KO e.2)) (hb:EN rev e=false):LW S rev (left.eraseIdx i):=by
 obtain⟨hil,hie⟩:=Y9.1 hw
 refine⟨λp hp=>H.1 p (List.mem_of_mem_eraseIdx hp),λe' he' hb'=>KQ hil (H.2 e' he' hb') λh=>?_⟩
 rw[hie]at h
 have h1:=TV (congrArg Prod.fst h)
 have h2:=S4 (congrArg Prod.snd h)
 have:e'=e:=Prod.ext h1 h2
 rw[this,hb]at hb';cases hb'
theorem Qx {G:Hp} {n:Nat} (q:Nat) {y:Option BT} (hb:∀j z,G j=some z->j<n) (hq:n<=q):∀j z,G j=some z->hset G q y j=some z:=λj z e=>by
 have:=hb j z e
 rw[AD _ _ (by omega)];exact e
set_option maxHeartbeats 8000000 in
theorem c15g (d:AH) (rev:Int) (sc:Ah) (r:BD) (c:Int×Int×Int) (S:DF) (R:AH) (k13:PC 13 [d.enc,AA rev,sc.enc] (.tup [AA c.1,AA c.2.1,AA c.2.2])) (hr:d.revs.length<=1048576)
 (k36:∀(k:Nat) (H:Hp) (n:Nat),k+2<=n->(∀o y,Nv k [] o=some y->H o=some y)->BM Tryz.prog 36 [d.enc,sc.enc,.fn (.func 43) [] [.ptr (k+1) 0]] H n (λv h' n'=>v=.tup []/\h'=Ai (Nv k) S H/\n'=n))
 (hv:DX d.revs=0) (hne:c.2.2=0->d.revs≠[])
 (k49:∀(H:Hp) (n:Nat),BM Tryz.prog 49 [.fn (.func 46) [] [.iptr [AA r.id,.str r.author,AA r.time],.iptr [AA rev]],d.enc,sc.enc,Aw (FJ d.revs (HX d r) r)] H n (λv h' n'=>v=R.enc/\h'=H/\n'=n)):
 PC 15 [d.enc,AA rev,sc.enc,r.enc] (.tup [(EW d rev r c S R).1.enc,AA (EW d rev r c S R).2]):=by
 intro h n
 refine Dg Tryz.func15 rfl λho=>?_
 have hHb:=ho.lt
 obtain⟨X,hX⟩:∃X:SV,X=.iptr ([AG d.flow]++d.«end».flat++[Aw d.revs]++d.settings.flat):=⟨_,rfl⟩
 obtain⟨C,hC⟩:∃C:SV,C=.iptr [AA sc.id,AA sc.a,AA sc.b]:=⟨_,rfl⟩
 obtain⟨V,hV⟩:∃V:SV,V=.iptr [AA r.id,.str r.author,AA r.time]:=⟨_,rfl⟩
 obtain⟨G,hG⟩:∃G:Hp,G=hset h (n+4) (some (.cells C2)):=⟨_,rfl⟩
 have hGa:G (n+4)=some (.cells C2):=by rw[hG,AC]
 have hGb:∀j y,G j=some y->j<n+5:=λj y e=>by
  rw[hG]at e;simp only[hset]at e;split at e
  . omega
  . have:=hHb j y e;omega
 have hGk:∀j y,h j=some y->G j=some y:=λj y e=>by have:=hHb j y e;rw[hG,AD _ _ (by omega)];exact e
 have fin:∀(h':Hp) (n':Nat) (e:Int),(∀j y,h j=some y->h' j=some y)->EW d rev r c S R=(zD,e)->Bz n h' n' (.tup [.agg C2,AA e]) (Is (.tup [(EW d rev r c S R).1.enc,AA (EW d rev r c S R).2]) h n):=λh' n' e hh he=>by
  rw[he]
  refine Dh 3 ho hh (.inr ⟨.inr ?_,Y0,trivial⟩) (HF n zD e)
  exact⟨A9 (by simp),A9 (by simp),Y0,Y0,A9 (by simp),A9 (by simp),A9 (by simp),A9 (by simp),A9 (by simp),A9 (by simp),A9 (by simp),trivial⟩
 have hz:hset G (n+4) (some (.cells C2))=G:=by funext j;simp only[hset];split;subst_vars;exact hGa.symm;rfl
 refine BV 1 [(4,X),(5,.iptr [AA rev]),(6,C),(7,V),(8,.ptr (n+4) 0)] G (λm=>n+5<=m) ?_ (λm hm=>?_)
 . rw[hX,hC,hV,hG]
   simp[go_sem,Ah.enc,AH.enc,BD.enc,AF.flat,AJ.flat,Y0,Yn,C2]
   refine⟨⟨AT (by simp[hset];exact ho.none (by omega)) (by simp[hset]),AT (by simp[hset];exact ho.none (by omega)) (by simp[hset]),AT (by simp[hset];exact ho.none (by omega)) (by simp[hset]),AT (by simp[hset];exact ho.none (by omega)) (by simp[hset])⟩,λj y=>?_⟩
   have:=hHb j y;simp only[hset];grind
 refine BV 0 [(4,X),(5,.iptr [AA rev]),(6,C),(7,V),(8,.ptr (n+4) 0),(10,AA c.1),(11,AA c.2.1),(12,AA c.2.2)] G (λm=>n+5<=m) ?_ (λm hm=>?_)
 . rw[hX,hC]
   simp[go_sem,AF.flat,AJ.flat]
   refine Yj (by simpa[Ah.enc,AH.enc,AF.flat,AJ.flat]using k13) ?_
   simp[go_sem,Y0,hm]
 have keep:=AK (m:=n+4) (y:=some (.cells C2)) (h:=h) (h':=G) (λj z e=>by have:=hHb j z e;omega) hGk
 refine Ei ?_
 refine BV 0 [(4,X),(5,.iptr [AA rev]),(6,C),(7,V),(8,.ptr (n+4) 0),(10,AA c.1),(11,AA c.2.1),(12,AA c.2.2),(30,.bool (c.2.2 !=0))] G (λm=>n+5<=m) ?_ (λm hm=>?_)
 . simp[go_sem,Y0,hm]
 by_cases a1:c.2.2=0
 rotate_left
 . refine Ag (b:=true) (by simp[go_sem,a1]) (AI ?_)
   simp[go_sem,hGa,C2,AC]
   exact fin _ _ _ keep (by simp[EW,a1])
 refine Ag (b:=false) (by simp[go_sem,a1]) ?_
 simp only[Y7,if_false]
 refine FS ?_
 rw[DZ]
 refine Ei ?_
 refine BV 0 [(4,X),(5,.iptr [AA rev]),(6,C),(7,V),(8,.ptr (n+4) 0),(10,AA c.1),(11,AA c.2.1),(13,AA (CY r))] G (λm=>n+5<=m) ?_ (λm hm=>?_)
 . rw[hV]
   simp[go_sem]
   refine Yj (by simpa[BD.enc]using c42 r) ?_
   simp[go_sem,Y0,hm]
 refine BV 0 [(4,X),(5,.iptr [AA rev]),(6,C),(7,V),(8,.ptr (n+4) 0),(10,AA c.1),(11,AA c.2.1),(13,AA (CY r)),(36,.bool (CY r !=0))] G (λm=>n+5<=m) ?_ (λm hm=>?_)
 . simp[go_sem,Y0,hm]
 by_cases a2:CY r=0
 rotate_left
 . refine Ag (b:=true) (by simp[go_sem,a2]) (AI ?_)
   simp[go_sem,hGa,C2,AC]
   exact fin _ _ _ keep (by simp[EW,a1,a2])
 refine Ag (b:=false) (by simp[go_sem,a2]) ?_
 simp only[Y7,if_false]
 refine FS ?_
 rw[DZ]
 refine Ei ?_
 refine BV 0 [(4,X),(5,.iptr [AA rev]),(6,C),(7,V),(8,.ptr (n+4) 0),(10,AA c.1),(11,AA c.2.1),(15,.bool (Bv d.revs r.id).2)] G (λm=>n+5<=m) ?_ (λm hm=>?_)
 . rw[hX,hV]
   simp[go_sem,AF.flat,AJ.flat]
   refine Yj (c20 d.revs hr r.id) ?_
   simp[go_sem,Y0,BD.enc,AC,AY]
   exact⟨by omega,AK (λj z e=>by have:=hGb j z e;omega) AB⟩
 refine BV 0 [(4,X),(5,.iptr [AA rev]),(6,C),(7,V),(8,.ptr (n+4) 0),(10,AA c.1),(11,AA c.2.1),(47,.bool (Bv d.revs r.id).2)] G (λm=>n+5<=m) ?_ (λm hm=>?_)
 . simp[go_sem,Y0,hm]
 cases a3:(Bv d.revs r.id).2 with
 | true=>
  refine Ag (b:=true) (by simp[go_sem]) (AI ?_)
  simp[go_sem,hGa,C2,AC]
  exact fin _ _ _ keep (by simp[EW,a1,a2,a3])
 | false=>
 refine Ag (b:=false) (by simp[go_sem]) ?_
 simp only[Y7,if_false]
 refine FS ?_
 rw[DZ]
 refine Ei (AR ?_)
 refine BV 0 [(4,X),(5,.iptr [AA rev]),(6,C),(7,V),(8,.ptr (n+4) 0),(10,AA c.1),(11,AA c.2.1),(49,.bool (decide ((256:Int)<=d.revs.length)))] G (λm=>n+5<=m) ?_ (λm hm=>?_)
 . rw[hX]
   simp[go_sem,AF.flat,AJ.flat,Y0,hm]
 by_cases a4:256<=d.revs.length
 . have a4':(256:Int)<=d.revs.length:=by omega
   refine Ag (b:=true) (by simp[go_sem,a4']) (AI ?_)
   simp[go_sem,hGa,C2,AC]
   exact fin _ _ _ keep (by simp[EW,a1,a2,a3,a4])
 have a4':¬(256:Int)<=d.revs.length:=by omega
 refine Ag (b:=false) (by simp[go_sem,a4']) ?_
 simp only[Y7,if_false]
 refine BV 0 [(4,X),(5,.iptr [AA rev]),(6,C),(7,V),(8,.ptr (n+4) 0),(55,.bool (decide (c.1=0\/c.2.1=0)))] G (λm=>n+5<=m) ?_ (λm hm=>?_)
 . by_cases b1:c.1=0
   . simp[go_sem,b1,Y0,hm]
   . by_cases b2:c.2.1=0
     . simp[go_sem,b1,b2,Y0,hm]
     . have e2:(c.2.1==0)=false:=by simpa using b2
       simp[go_sem,b1,b2,e2,Y0,hm]
 by_cases a5:c.1=0\/c.2.1=0
 . refine Ag (b:=true) (by simp[go_sem,a5]) (AI ?_)
   simp[go_sem,hGa,C2,AC]
   exact fin _ _ _ keep (by simp[EW,a1,a2,a3,a4,a5])
 refine Ag (b:=false) (by simp[go_sem,a5]) ?_
 simp only[Y7,if_false]
 refine FS ?_
 rw[Lx,DZ]
 refine BG 0 (α:=Nat) (λk=>[(4,X),(5,.iptr [AA rev]),(6,C),(7,V),(8,.ptr (n+4) 0),(16,.ptr (k+1) 0)]) (λk=>hset (hset G k (some (.map []))) (k+1) (some (.cells [.map k]))) (λk m=>n+5<=k/\k+1<m) ?_ (λk m hm=>?_)
 . simp[go_sem,Y0,AY,AC]
   exact⟨m,⟨by omega,by omega⟩,rfl,AB⟩
 obtain⟨hk1,hk2⟩:=hm
 have hst0:∀o y,Nv k [] o=some y->hset (hset G k (some (.map []))) (k+1) (some (.cells [.map k])) o=some y:=λo y e=>by
  simp only[Nv,CF,YF]at e
  simp only[hset];grind
 have hup:Ai (Nv k) S (hset (hset G k (some (.map []))) (k+1) (some (.cells [.map k])))=hset (hset G k (some (.map (CF S)))) (k+1) (some (.cells [.map k])):=by
  rw[Pr _ _ _ (AC _ _ _)];funext j;simp only[hset];grind
 refine BV 0 [(4,X),(5,.iptr [AA rev]),(6,C),(7,V),(8,.ptr (n+4) 0),(16,.ptr (k+1) 0)] (hset (hset G k (some (.map (CF S)))) (k+1) (some (.cells [.map k]))) (λm=>k+1<m) ?_ (λm hm=>?_)
 . rw[hX,hC]
   have c36:=k36 k _ m (by omega) hst0
   rw[hup]at c36
   simp[go_sem,AF.flat,AJ.flat]
   refine Ys (by simpa[Ah.enc,AH.enc,AF.flat,AJ.flat]using c36) ?_
   rintro v H' n' ⟨rfl,rfl,rfl⟩
   simp[go_sem,Y0,hk2]
 refine CB 0 [(4,X),(5,.iptr [AA rev]),(6,C),(7,V),(8,.ptr (n+4) 0)] G (λm=>S.any (EN rev)=false/\n+5<=m) ?_ (λm hm=>?_)
 . refine BG 0 (α:=Nat) (λq=>[(69,.ptr q 0),(4,X),(5,.iptr [AA rev]),(6,C),(7,V),(8,.ptr (n+4) 0)]) (λq=>hset G q (some (.iter (CF S) none))) (λq m=>n+5<=q/\q<m) ?_ (λq m hm=>?_)
   . simp[go_sem,AC]
     refine Jw (m:=k) (es:=CF S) rfl (by simp[go_sem]) (by simp[go_sem]) (by simp[hset]) ?_
     simp[go_sem,Y0]
     refine⟨m,⟨by omega,by omega⟩,Y0,λj y e=>?_⟩
     have:=hGb j y
     simp only[hset]at e ⊢;grind
   obtain⟨hq1,hq2⟩:=hm
   refine AR (BP 0 (α:=List (SV×SV)×Option (SV×SV)) (λw=>[(69,.ptr q 0),(4,X),(5,.iptr [AA rev]),(6,C),(7,V),(8,.ptr (n+4) 0)]) (λw=>hset G q (some (.iter w.1 w.2)))
    (λw m=>q<m/\LW S rev w.1) (λw=>w.1.length) (CF S,none) ⟨hq2,LW.start S rev⟩ ?_ AB ?_)
   . simp[Aj,Y0]
   rintro⟨left,last⟩ m2 ⟨hm2,hinv⟩
   dsimp only at hinv ⊢
   have hGq:∀y,hset G q y (n+4)=some (.cells C2):=λy=>by rw[AD _ _ (by omega)];exact hGa
   refine AV 0 (α:=Option (Nat×(SV×SV))) (λw=>[(69,.ptr q 0),(4,X),(5,.iptr [AA rev]),(6,C),(7,V),(8,.ptr (n+4) 0),(71,.bool w.isSome)]) (λw=>hset G q (some (match w with|none=>.iter left last|some w=>.iter (left.eraseIdx w.1) (some w.2))))
    (λw m=>q<m/\match w with|none=>left=[]|some w=>left[w.1]? = some w.2) (AI ?_) (λw m3 hm3=>?_)
   . simp[go_sem]
     refine LX (q:=q) (left:=left) (last:=last) rfl (by simp[go_sem]) (AC _ _ _) (λi hi=>?_) λh0=>?_
     . simp[go_sem,AY]
       exact⟨some (i,left[i]),⟨hm2,by simp[hi]⟩,Y0,AB⟩
     . simp[go_sem]
       exact⟨none,⟨hm2,h0⟩,Y0,AB⟩
   obtain⟨hm3,hw⟩:=hm3
   cases w with
   | none =>
    dsimp only at hw
    have hS:S.any (EN rev)=false:=by
     rw[List.any_eq_false]
     intro e he hb
     have:=hinv.2 _ he hb
     rw[hw]at this;cases this
    refine AI ?_
    simp only[Option.isSome_none]
    rw[hS]
    simp[go_sem,Y0]
    exact⟨by omega,Qx q hGb hq1⟩
   | some w =>
    obtain⟨i,p⟩:=w
    dsimp only at hw ⊢
    obtain⟨e,he,rfl⟩:=hinv.1 p (YQ hw)
    have hb:∀j y,hset G q (some (.iter (left.eraseIdx i) (some (Fs e.1,KO e.2)))) j=some y->j<m3:=λj y e=>by
     simp only[hset]at e;split at e
     . omega
     . have:=hGb j y e;omega
    obtain⟨B,hB⟩:∃B,B=hset G q (some (.iter (left.eraseIdx i) (some (Fs e.1,KO e.2)))):=⟨_,rfl⟩
    rw[<-hB]at hb ⊢
    have hBq:B q=some (.iter (left.eraseIdx i) (some (Fs e.1,KO e.2))):=by rw[hB,AC]
    have hBz:B (n+4)=some (.cells C2):=by rw[hB];exact hGq _
    have hBk:∀j y,h j=some y->B j=some y:=λj y e=>by rw[hB];have:=hHb j y e;rw[AD _ _ (by omega)];exact hGk j y e
    have q4:m3≠m3+1:=by omega
    have q5:m3+1≠m3:=by omega
    refine By 0 [(69,.ptr q 0),(4,X),(5,.iptr [AA rev]),(6,C),(7,V),(8,.ptr (n+4) 0)] B m3 ?_ (λm4 hm4=>?_)
    . simp[go_sem,Y0]
    subst hm4
    refine AR ?_
    refine CB 1 [(69,.ptr q 0),(4,X),(5,.iptr [AA rev]),(6,C),(7,V),(8,.ptr (n+4) 0),(17,.iptr [AA e.1.1,AA e.1.2]),(18,.iptr [.bool e.2.1,.bool e.2.2])] B (λm=>q<m) (AI ?_) (λm5 hm5=>?_)
    . simp[go_sem]
      refine Mw (q:=q) (left:=left.eraseIdx i) (p:=(Fs e.1,KO e.2)) rfl (by simp[go_sem]) hBq ?_
      simp[go_sem,Fs,KO,AC,AD _ _ q4,AD _ _ q5,Y0]
      refine⟨by omega,⟨AT (Ac hb (by omega)) (by simp only[hset];grind),AT (Ac hb (by omega)) (by simp only[hset];grind)⟩,λj y e=>?_⟩
      have:=hb j y e;simp only[hset];grind
    refine BV 0 [(69,.ptr q 0),(4,X),(5,.iptr [AA rev]),(6,C),(7,V),(8,.ptr (n+4) 0),(86,.bool (EN rev e))] B (λm=>q<m) ?_ (λm6 hm6=>?_)
    . obtain⟨⟨e1,e2⟩,e3,e4⟩:=e
      cases hE:(e1==rev)<;>cases e3<;>cases e4<;>simp[go_sem,hE,EN,Y0,hm5]
    cases hbd:EN rev e with
    | true=>
     have hS:S.any (EN rev)=true:=List.any_eq_true.2 ⟨e,he,hbd⟩
     refine Ag (b:=true) (by simp[go_sem]) (AI ?_)
     simp[go_sem,hBz,C2,AC]
     exact fin _ _ _ (AK (λj z e=>by have:=hHb j z e;omega) hBk) (by simp only[EW,a2,a3];simp[a1,a4,a5,hS])
    | false=>
     refine Ag (b:=false) (by simp[go_sem]) (AI ?_)
     simp[go_sem,Y0]
     have hil:=(Y9.1 hw).1
     refine⟨left.eraseIdx i,?_,⟨hm6,hinv.erase hw hbd⟩,some (Fs e.1,KO e.2),by rw[hB];exact AB⟩
     rw[List.length_eraseIdx_of_lt hil];omega
 obtain⟨a6,hm⟩:=hm
 have HZ:(BF (HN d.revs r.id) d.revs.length).2=false:=by
  cases e:(BF (HN d.revs r.id) d.revs.length).2 with
  | false=>rfl
  | true=>simp[Bv,hv,e]at a3
 have k45:=UT d.revs (hne a1) (by omega) r hv a2 (HX d r) (by have:=Kg (HN d.revs r.id) 0 d.revs.length (Y4 _);exact this.2) (Prod.ext rfl HZ)
 have hres:EW d rev r c S R=(R,0):=by simp only[EW,a2,a3];simp only[a6];simp[a1,a4,a5]
 rw[hres]
 refine BV 0 [(4,X),(5,.iptr [AA rev]),(6,C),(7,V),(8,.ptr (n+4) 0),(19,Aw (FJ d.revs (HX d r) r)),(12,AA 0)] G (λm=>n+5<=m) ?_ (λm hm=>?_)
 . rw[hX,hV]
   simp[go_sem,AF.flat,AJ.flat]
   refine Yj (by simpa[BD.enc]using k45) ?_
   simp[go_sem,Y0,hm]
 refine CB 0 [(4,X),(5,.iptr [AA rev]),(6,C),(7,V),(8,.ptr (n+4) 0),(19,Aw (FJ d.revs (HX d r) r))] G (λm=>n+5<=m) (AI ?_) (λm hm=>?_)
 . simp[go_sem,Y0,hm]
 refine BV 0 [(4,X),(6,C),(8,.ptr (n+4) 0),(19,Aw (FJ d.revs (HX d r) r)),(20,.fn (.func 46) [] [V,.iptr [AA rev]])] G (λm=>n+5<=m) ?_ (λm hm=>?_)
 . simp[go_sem,Y0,hm]
 refine AI ?_
 rw[hX,hC,hV]
 simp[go_sem,AF.flat,AJ.flat]
 refine Ys (by simpa[Ah.enc,AH.enc,AF.flat,AJ.flat]using k49 G m) ?_
 rintro v H' n' ⟨rfl,rfl,rfl⟩
 simp[go_sem,hGa,C2,AH.enc,AF.flat,AJ.flat,AC]
 exact Au ho (AK (λj z e=>by have:=hHb j z e;omega) hGk) rfl (HF n R 0)
section
variable (u : AF → Bool) (w : Bool) (sc : Ah)
end
def gR (rev nx:Int) (mid:Bool) (h:AF):AF:=if mid then Ht (λy=>y==rev) nx h else h
theorem Ot (rev nx:Int):JK rev nx=gF (gR rev nx):=by funext s p;rfl
def Gg (N:Nat) (d:AH) (rev:Int) (sc:Ah) (nx:BD):AH:=(Bi (JK rev nx.id) sc N d (FJ d.revs (HX d nx) nx) ()).1
theorem SY {r:BD} (h:CY r=0):1<=r.id:=by
 unfold CY at h
 split at h
 . cases h
 . omega
mutual
def AE.mh (g:AF->AF):AE->AE
 | .mk k c i t h f r=>.mk k c i t (g h) (AE.mhL g f) (AW.mhL g r)
def AE.mhL (g:AF->AF):List AE->List AE
 | []=>[]
 | x::l=>AE.mh g x::AE.mhL g l
def AW.mh (g:AF->AF):AW->AW
 | .mk h c=>.mk (g h) (AL.mhL g c)
def AW.mhL (g:AF->AF):List AW->List AW
 | []=>[]
 | x::l=>AW.mh g x::AW.mhL g l
def AL.mh (g:AF->AF):AL->AL
 | .mk i h f=>.mk i (g h) (AE.mhL g f)
def AL.mhL (g:AF->AF):List AL->List AL
 | []=>[]
 | x::l=>AL.mh g x::AL.mhL g l
end
section
variable (g : AF → AF)
theorem AE.mhL_eq:∀l:List AE,AE.mhL g l=l.map (AE.mh g)
 | []=>by rw[AE.mhL];rfl
 | x::l=>by rw[AE.mhL,AE.mhL_eq l];rfl
theorem AW.mhL_eq:∀l:List AW,AW.mhL g l=l.map (AW.mh g)
 | []=>by rw[AW.mhL];rfl
 | x::l=>by rw[AW.mhL,AW.mhL_eq l];rfl
theorem AL.mhL_eq:∀l:List AL,AL.mhL g l=l.map (AL.mh g)
 | []=>by rw[AL.mhL];rfl
 | x::l=>by rw[AL.mhL,AL.mhL_eq l];rfl
theorem AE.mh_eq (x:AE):AE.mh g x=.mk x.kind x.code x.id x.text (g x.head) (AE.mhL g x.flow) (x.rows.map (AW.mh g)):=by cases x;rw[AE.mh,AW.mhL_eq];rfl
theorem AW.mh_eq (x:AW):AW.mh g x=.mk (g x.head) (x.cells.map (AL.mh g)):=by cases x;rw[AW.mh,AL.mhL_eq];rfl
theorem AL.mh_eq (x:AL):AL.mh g x=.mk x.id (g x.head) (AE.mhL g x.flow):=by cases x;rw[AL.mh];rfl
end
theorem AE.nrm_eq (x:AE):AE.nrm x=.mk x.kind x.code x.id x.text x.head (An x.flow) ((x.rows.map AW.nrm).filter λr=>!decide (r.cells.length=0)):=by cases x;rw[AE.nrm,AW.nrmL_eq];rfl
theorem AW.nrm_eq (x:AW):AW.nrm x=.mk x.head (x.cells.map AL.nrm):=by cases x;rw[AW.nrm,Xj];rfl
theorem AL.nrm_eq (x:AL):AL.nrm x=.mk x.id x.head (An x.flow):=by cases x;rw[AL.nrm];rfl
def wf (hp:AF->Prop) (T:Int->Prop):Nat->List AE->Prop
 | 0,_=>False
 | N+1,l=>∀x∈l,hp x.head/\(x.kind≠6->x.flow=[])/\(x.kind≠7->x.rows=[])/\(x.kind=7->x.rows≠[])/\(x.kind=6->T x.id)/\wf hp T N x.flow/\∀r∈x.rows,hp r.head/\r.cells≠[]/\∀c∈r.cells,T c.id/\hp c.head/\wf hp T N c.flow
structure wfI (hp:AF->Prop) (T:Int->Prop) (N:Nat) (x:AE):Prop where
 head:hp x.head
 k6:x.kind≠6->x.flow=[]
 k7:x.kind≠7->x.rows=[]
 ne:x.kind=7->x.rows≠[]
 id:x.kind=6->T x.id
 flow:wf hp T N x.flow
 rows:∀r∈x.rows,hp r.head/\r.cells≠[]/\∀c∈r.cells,T c.id/\hp c.head/\wf hp T N c.flow
section
variable {hp hp' : AF → Prop} {T T' : Int → Prop}
theorem EY {N:Nat} {l:List AE}:wf hp T (N+1) l↔∀x∈l,wfI hp T N x:=
 ⟨λH x hx=>let⟨a,b,c,d,e,f,g⟩:=H x hx;⟨a,b,c,d,e,f,g⟩,λH x hx=>let⟨a,b,c,d,e,f,g⟩:=H x hx;⟨a,b,c,d,e,f,g⟩⟩
theorem PA {N:Nat} (x:AE) (t:ByteArray) (H:wfI hp T N x):wfI hp T N (.mk x.kind x.code x.id t x.head x.flow x.rows):=by
 obtain⟨a,b,c,d,e,f,g⟩:=H;exact⟨a,b,c,d,e,f,g⟩
theorem J3:∀{N:Nat} {l:List AE},wf hp T N l->wf hp T N (An l)
 | 0,_,h=>h.elim
 | N+1,l,H=>by
  rw[EY]at H ⊢
  unfold An Dy
  rw[ZT]
  refine Jf (p:=wfI hp T N) PA _ _ (λy hy=>by cases hy) λy hy=>?_
  obtain⟨x,hx,rfl⟩:=Yp.1 hy
  obtain⟨a,b,c,d,e,f,q⟩:=H x hx
  have hr:=OK λr hr=>(q r hr).2.1
  rw[AE.nrm_eq,hr]
  refine⟨a,λk=>?_,λk=>?_,λk=>?_,e,J3 f,λr hr=>?_⟩
  . show An x.flow=[]
    rw[b k];rfl
  . show x.rows.map _=[]
    rw[c k];rfl
  . show x.rows.map _≠[]
    simpa using d k
  . obtain⟨r0,h0,rfl⟩:=Yp.1 hr
    obtain⟨u,v,w⟩:=q r0 h0
    rw[AW.nrm_eq]
    refine⟨u,by show r0.cells.map _≠[];simpa using v,λc hc=>?_⟩
    obtain⟨c0,h1,rfl⟩:=Yp.1 hc
    obtain⟨u1,u2,u3⟩:=w c0 h1
    rw[AL.nrm_eq]
    exact⟨u1,u2,J3 u3⟩
theorem Sp (N:Nat):wf hp T (N+1) []:=λx hx=>by cases hx
theorem NB {N:Nat} {l:List AE} (cu:Int) (H:wf hp T (N+1) l):wf hp T (N+1) (BS l cu).1/\wf hp T (N+1) (BS l cu).2:=by
 rw[EY]at H;rw[EY,EY]
 exact I4 (p:=wfI hp T N) PA l cu H _ (Y1 _)
theorem JQ {N:Nat} {l:List AE} (a b:Int) (H:wf hp T (N+1) l):wf hp T (N+1) (AU l a b).1:=by
 unfold AU
 split
 . exact J3 (NB a (NB b H).1).2
 . exact Sp _
theorem PB {m2:List Int} {K:Nat}:∀{N:Nat} {l:List AE},Pd m2 N l->DM hp K N l->(∀i∈ES N l,T i)->wf (λh=>hp h/\Ce m2 h) T N l
 | 0,_,_,h,_=>h.elim
 | N + 1, l, hk, hl, hT => EY.2 fun x hx => by
  obtain⟨⟨f6,f7,_⟩,k1,hf,hr7,hr⟩:=hk x hx
  obtain⟨l1,l2,_,l4⟩:=hl.2.2 x hx
  have hI:∀i∈EQ N x,T i:=λi hi=>hT i (by rw[F8];exact Z0.2 ⟨x,hx,hi⟩)
  have nil:wf (λh=>hp h/\Ce m2 h) T N []:=by
   cases N with
   | zero=>exact l2.elim
   | succ N=>exact Sp N
  refine⟨⟨l1,k1⟩,f6,f7,hr7,λk=>hI _ (by simp[EQ,k]),?_,λr hr1=>?_⟩
  . by_cases k6:x.kind=6
    . exact PB hf l2 λi hi=>hI i (by simp[EQ,k6,hi])
    . rw[f6 k6];exact nil
  . by_cases k7:x.kind=7
    . refine⟨⟨(l4 r hr1).1,(hr r hr1).1.1⟩,(hr r hr1).1.2,λc hc=>?_⟩
      have hc2:∀i,i=c.id\/i∈ES N c.flow->T i:=λi hi=>hI i (by
       simp only[EQ,k7,show ¬(7:Int)=6 by decide,if_false,if_true]
       refine Yx _ (Z0.2 ⟨r,hr1,Z0.2 ⟨c,hc,Yg.2 hi⟩⟩))
      exact⟨hc2 _ (.inl rfl),⟨((l4 r hr1).2.2 c hc).1,((hr r hr1).2 c hc).1⟩,PB ((hr r hr1).2 c hc).2 ((l4 r hr1).2.2 c hc).2 λi hi=>hc2 i (.inr hi)⟩
    . rw[f7 k7]at hr1;cases hr1
theorem LL {g g':AF->AF} (hb:∀x,hp x->g x=g' x):∀{N:Nat} {l:List AE},wf hp T N l->AE.mhL g l=AE.mhL g' l
 | 0,_,h=>h.elim
 | N+1,l,H=>by
  rw[AE.mhL_eq,AE.mhL_eq]
  refine YE λx hx=>?_
  obtain⟨a,b,c,d,e,f,q⟩:=EY.1 H x hx
  rw[AE.mh_eq,AE.mh_eq,hb _ a,LL hb f]
  congr 1
  refine YE λr hr=>?_
  obtain⟨u,v,w⟩:=q r hr
  rw[AW.mh_eq,AW.mh_eq,hb _ u]
  congr 1
  refine YE λc hc=>?_
  obtain⟨_,u2,u3⟩:=w c hc
  rw[AL.mh_eq,AL.mh_eq,hb _ u2,LL hb u3]
end
section
variable {hp : AF → Prop} {T : Int → Prop} (g : Bool → AF → AF)
theorem LP (it:Int->List AE->Bool->Unit->List AE×Unit) (mid:Bool) {N:Nat} {l:List AE} (H:wf hp T (N+1) l) (h6:∀id f,T id->wf hp T N f->(it id f mid ()).1=AE.mhL (g mid) f):l.map (Su g it mid)=AE.mhL (g mid) l:=by
 rw[AE.mhL_eq]
 refine YE λx hx=>?_
 obtain⟨a,b,c,d,e,f,q⟩:=EY.1 H x hx
 have h1:(if x.kind=6 then(it x.id x.flow mid ()).1 else x.flow)=AE.mhL (g mid) x.flow:=by
  split
  . rename_i k;exact h6 _ _ (e k) f
  . rename_i k;rw[b k,AE.mhL]
 have h2:(if x.kind=7 then x.rows.map (RJ g it mid)else x.rows)=x.rows.map (AW.mh (g mid)):=by
  split
  . refine YE λr hr=>?_
    rw[AW.mh_eq];unfold RJ;congr 1
    refine YE λc hc=>?_
    obtain⟨u1,_,u3⟩:=(q r hr).2.2 c hc
    rw[AL.mh_eq];unfold Ur;rw[h6 _ _ u1 u3]
  . rename_i k;rw[c k];rfl
 rw[AE.mh_eq]
 unfold Su AE.put
 rw[h1,h2]
theorem Ob (sc:Ah) (hT:∀i,T i->i≠sc.id):∀(N:Nat) (id:Int) (l:List AE) (mid:Bool),wf hp T N l->(mid=true\/id≠sc.id)->(Al (gF g) sc N id l mid ()).1=AE.mhL (g mid) l
 | 0,_,_,_,h,_=>h.elim
 | N+1,id,l,mid,H,hid=>by
  have n1:¬DB sc id l mid=true:=by rcases hid with rfl|h<;>simp[DB, *]
  rw[Al,if_neg n1,Jp]
  exact LP g _ mid H λid f ht hf=>Ob sc hT N id f mid hf (.inr (hT _ ht))
theorem Qj (it:Int->List AE->Bool->Unit->List AE×Unit) (fl:Int->List AE->Ah->Bool->Unit->List AE×Unit) (sc:Ah) (mid:Bool) (l:List AL) (h:∀c∈l,(fl c.id c.flow sc mid ()).1=(it c.id c.flow mid ()).1):(DK (gF g) fl sc mid l ()).1=l.map (Ur g it mid):=by
 unfold DK
 rw[GH (Ur g it mid) _ l _ λc hc q=>?_];simp
 simp only[CC,gF,if_true]
 rw[h c hc];rfl
theorem SE (it:Int->List AE->Bool->Unit->List AE×Unit) (fl:Int->List AE->Ah->Bool->Unit->List AE×Unit) (sc:Ah) (mid:Bool) (l:List AW) (h:∀r∈l,r.cells≠[]/\∀c∈r.cells,(fl c.id c.flow sc mid ()).1=(it c.id c.flow mid ()).1):(Ed (gF g) fl sc mid l ()).1=l.map (RJ g it mid):=by
 unfold Ed
 rw[GH (RJ g it mid) _ l _ λr hr q=>?_];simp
 obtain⟨h1,h2⟩:=h r hr
 have e:=Qj g it fl sc mid r.cells h2
 have hl:=Yi.2 h1
 have e2:decide (0<(DK (gF g) fl sc mid r.cells ()).1.length)=true:=by rw[e,Y5];simpa using hl
 have e3:Gs (gF g) fl sc mid r q.2=(RJ g it mid r,true,()):=by
  have:Gs (gF g) fl sc mid r q.2=(.mk (g mid r.head) (DK (gF g) fl sc mid r.cells ()).1,true&&decide (0<(DK (gF g) fl sc mid r.cells ()).1.length),()):=rfl
  rw[this,e2,e];rfl
 simp only[Cb,e3,if_true]
theorem Ok (it:Int->List AE->Bool->Unit->List AE×Unit) (fl:Int->List AE->Ah->Bool->Unit->List AE×Unit) (sc:Ah) (mid:Bool) {N:Nat} {l:List AE} (H:wf hp T (N+1) l)
 (h6:∀x∈l,x.kind=6->(fl x.id x.flow sc mid ()).1=(it x.id x.flow mid ()).1) (h7:∀x∈l,x.kind=7->∀r∈x.rows,∀c∈r.cells,(fl c.id c.flow sc mid ()).1=(it c.id c.flow mid ()).1):(BU (gF g) fl sc mid l ()).1=l.map (Su g it mid):=by
 unfold BU
 rw[GH (Su g it mid) _ l _ λx hx q=>?_];simp
 obtain⟨_,_,c,d,_,_,q'⟩:=EY.1 H x hx
 have h1:(LI fl sc mid x ()).1=if x.kind=6 then(it x.id x.flow mid ()).1 else x.flow:=by
  unfold LI
  split
  . rename_i k;exact h6 x hx k
  . rfl
 have h2:(Ed (gF g) fl sc mid x.rows ()).1=if x.kind=7 then x.rows.map (RJ g it mid)else x.rows:=by
  split
  . rename_i k;exact SE g it fl sc mid x.rows λr hr=>⟨(q' r hr).2.1,λc hc=>h7 x hx k r hr c hc⟩
  . rename_i k;rw[c k];rfl
 have h3:(!(decide (x.kind=7)&&decide ((Ed (gF g) fl sc mid x.rows ()).1.length=0)))=true:=by
  rw[h2]
  by_cases k:x.kind=7
  . have:=Yi.2 (d k)
    rw[if_pos k,Y5]
    simp[k];exact d k
  . simp[k]
 have e:Dp (gF g) fl sc mid q x=(if true && !(decide (x.kind=7)&&decide ((Ed (gF g) fl sc mid x.rows ()).1.length=0))then q.1++[x.put (g mid x.head) (LI fl sc mid x ()).1 (Ed (gF g) fl sc mid x.rows ()).1]else q.1,()):=rfl
 rw[e,h3,h1,h2];rfl
theorem Oj (fl:Int->List AE->Ah->Bool->Unit->List AE×Unit) (sc:Ah) (mid:Bool) {N:Nat} {l:List AE} (H:wf hp T (N+1) l) (h6:∀id f,T id->wf hp T N f->(fl id f sc mid ()).1=AE.mhL (g mid) f):(BU (gF g) fl sc mid l ()).1=AE.mhL (g mid) l:=by
 rw[Ok g (λ_ f mid _=>(AE.mhL (g mid) f,())) fl sc mid H (λx hx k=>h6 _ _ ((EY.1 H x hx).id k) (EY.1 H x hx).flow) λx hx k r hr c hc=>h6 _ _ (((EY.1 H x hx).rows r hr).2.2 c hc).1 (((EY.1 H x hx).rows r hr).2.2 c hc).2.2]
 exact LP g _ mid H λ_ _ _ _=>rfl
theorem Og (sc:Ah) (hT:∀i,T i->i≠sc.id):∀(N:Nat) (id:Int) (l:List AE) (mid:Bool),wf hp T N l->(mid=true\/id≠sc.id)->(Aq (gF g) N id l sc mid ()).1=AE.mhL (g mid) l
 | 0,_,_,_,h,_=>h.elim
 | N+1,id,l,mid,H,hid=>by
  have n1:¬(id=sc.id/\mid=false):=by rcases hid with rfl|h<;>simp[*]
  rw[Aq,if_neg n1]
  exact Oj g _ sc mid H λid f ht hf=>Og sc hT N id f mid hf (.inr (hT _ ht))
end
section
variable {hp0 : AF → Prop} {m2 : List Int} {g g' : Bool → AF → AF}
theorem SN {hp:AF->Prop} {T:Int->Prop} {N:Nat} (hgg:∀mid h,hp h->g' mid h=g mid h) (it:Int->List AE->Bool->Unit->List AE×Unit) (mid:Bool) {l:List AE} (H:wf hp T (N+1) l):l.map (Su g' it mid)=l.map (Su g it mid):=by
 refine YE λx hx=>?_
 obtain⟨a,_,_,_,_,_,q⟩:=EY.1 H x hx
 have h2:x.rows.map (RJ g' it mid)=x.rows.map (RJ g it mid):=by
  refine YE λr hr=>?_
  unfold RJ
  rw[hgg mid _ (q r hr).1]
  congr 1
  refine YE λc hc=>?_
  unfold Ur
  rw[hgg mid _ ((q r hr).2.2 c hc).2.1]
 unfold Su
 rw[hgg mid _ a,h2]
theorem LT (hgg:∀mid h,hp0 h/\Ce m2 h->g' mid h=g mid h) (sc:Ah) {K:Nat}:∀(N:Nat) (id:Int) (l:List AE) (p:Bb),Pd m2 N l->DM hp0 K N l->id∉ES N l->(ES N l).Nodup->(∀i∈ES N l,1<=i)->
 (∀f∈DA id l p,f.id=sc.id->¬CS sc f.items)->(Aq (gF g') N id l sc false ()).1=(Al (gF g) sc N id l false ()).1
 | 0,_,_,_,_,h,_,_,_,_=>h.elim
 | N+1,id,l,p,hk,hl,hid,hnd,h1,hb=>by
  have hpos:∀i∈ES (N+1) l,i ≠ -1:=λi hi=>by have:=h1 i hi;omega
  by_cases e:id=sc.id
  . have W:wf (λh=>hp0 h/\Ce m2 h) (λi=>i≠sc.id/\i ≠ -1) (N+1) l:=PB hk hl λi hi=>⟨λh=>hid (by rw[e,<-h];exact hi),hpos i hi⟩
    have hr:=hb ⟨id,l,p⟩ (ZO ..) e
    have i1:DB sc id l false=true:=by
     unfold CS at hr
     unfold DB
     dsimp only at hr
     simp[e];omega
    have A:∀(mid:Bool) (s:List AE),wf (λh=>hp0 h/\Ce m2 h) (λi=>i≠sc.id/\i ≠ -1) (N+1) s->(BU (gF g') (Aq (gF g') N) Ar mid s ()).1=(BK (gF g) (Al (gF g) sc N) mid s ()).1:=λmid s hs=>by
     rw[Oj g' _ Ar mid hs λid f ht hf=>Og g' Ar (λi h=>h.2) N id f mid hf (.inr ht.2),Jp,
      LP g _ mid hs λid f ht hf=>Ob g sc (λi h=>h.1) N id f mid hf (.inr ht.1)]
     exact LL (hgg mid) hs
    rw[Aq,if_pos ⟨e,rfl⟩,Al,if_pos i1]
    show(BU (gF g') (Aq (gF g') N) Ar false (AU l 0 sc.a).1 ()).1++(BU (gF g') (Aq (gF g') N) Ar true (AU l sc.a sc.b).1 ()).1++(BU (gF g') (Aq (gF g') N) Ar false (AU l sc.b (A5 l).1).1 ()).1=_
    rw[A _ _ (JQ _ _ W),A _ _ (JQ _ _ W),A _ _ (JQ _ _ W)]
  . have W:wf (λh=>hp0 h/\Ce m2 h) (λi=>i ≠ -1) (N+1) l:=PB hk hl hpos
    have n1:¬DB sc id l false=true:=by simp[DB,e]
    have n2:¬(id=sc.id/\false=false):=λh=>e h.1
    have hlx:=(Cf.1 hl).2.2
    have nx:∀x∈l,(EQ N x).Nodup/\∀i∈EQ N x,1<=i:=λx hx=>⟨Gu (f:=EQ N) hnd hx,λi hi=>h1 i (by rw[F8];exact Z0.2 ⟨x,hx,hi⟩)⟩
    rw[Aq,if_neg n2,Al,if_neg n1,Jp,Ok g' (Al (gF g) sc N) (Aq (gF g') N) sc false W (λx hx k6=>?_) λx hx k7 r hr c hc=>?_]
    . exact SN (T:=λi=>i ≠ -1) hgg _ false W
    . obtain⟨g1,g2⟩:=nx x hx
      simp only[EQ,k6,if_true]at g1 g2
      rw[YH]at g1
      refine LT hgg sc N _ _ p.inNote (hk x hx).2.2.1 (hlx x hx).2.1 g1.1 g1.2 (λi hi=>g2 i (Yx _ hi)) λf hf=>hb f (Yx _ (NV p hx ?_))
      cases x;simp only[AE.kind]at k6;rw[AE.fl,if_pos k6];exact hf
    . obtain⟨g1,g2⟩:=nx x hx
      simp only[EQ,k7,show ¬(7:Int)=6 by decide,if_false,if_true]at g1 g2
      rw[YH]at g1
      have g3:(c.id::ES N c.flow).Nodup:=Gu (f:=λc:AL=>c.id::ES N c.flow) (Gu (f:=KP N) g1.2 hr) hc
      rw[YH]at g3
      refine LT hgg sc N _ _ p.inTable (((hk x hx).2.2.2.2 r hr).2 c hc).2 (((hlx x hx).2.2.2 r hr).2.2 c hc).2 g3.1 g3.2 (λi hi=>g2 i (Yx _ (Z0.2 ⟨r,hr,Z0.2 ⟨c,hc,Yx _ hi⟩⟩))) λf hf=>hb f (Yx _ (NV p hx ?_))
      cases x;simp only[AE.kind]at k7;rw[AE.fl,if_neg (by rw[k7];decide),if_pos k7]
      refine QL _ hr ?_
      cases r;rw[AW.fl]
      refine QK _ hc ?_
      cases c;exact hf
end
theorem Pz {F:Nat->Int}:∀{n:Nat},(∀i,i<n->F i=0)->E5 F n=0
 | 0,_=>rfl
 | n+1,h=>by rw[E5,if_pos (Pz λi hi=>h i (by omega))];exact h n (by omega)
theorem TO {F:Nat->Int} {i:Nat} (h:GV F i=0):1<=F i/\F i<=1073741824/\(0<i->F (i-1)<F i):=by
 unfold GV at h
 by_cases c1:1<=F i/\F i<=1073741824
 . refine⟨c1.1,c1.2,λhi=>?_⟩
   rw[if_neg (by simpa using c1)]at h
   by_cases c2:F i=F (i-1)
   . rw[if_pos ⟨hi,c2⟩]at h;cases h
   . rw[if_neg λg=>c2 g.2]at h
     by_cases c3:F i<F (i-1)
     . rw[if_pos ⟨hi,c3⟩]at h;cases h
     . omega
 . rw[if_pos c1]at h;cases h
theorem LU {l:List BD} (h:Di l=0):DX l=0:=by
 have hlen:=KF h
 have h2:E5 (HL l) (min l.length 256)=0:=by
  have h9:=h
  unfold Di at h9
  have hl:¬(256:Int)<l.length:=by omega
  simp[Bu,hl]at h9
  exact Classical.byContradiction λg=>g (h9 g)
 rw[DX,if_neg (by omega)]
 refine Pz λi hi=>?_
 have h3:=JZ h2 i (by omega)
 unfold HL at h3
 unfold Fe
 rw[Yr hi]at h3 ⊢
 dsimp only at h3 ⊢
 have e1:=C1 h3
 rw[Bu,if_pos e1]at h3
 have e2:=C1 h3
 rw[Bu,if_pos e2]at h3
 have e3:=C1 h3
 obtain⟨p1,p2,p3⟩:=TO e1
 try dsimp only at p1 p2 p3
 rw[Yr hi]at p1 p2 p3
 try dsimp only at p1 p2 p3
 have ha:EE l[i].author=true:=by
  cases hA:EE l[i].author with
  | true=>rfl
  | false=>rw[hA]at e2;simp at e2
 have ht:0<=l[i].time/\l[i].time<=1099511627776:=by
  by_cases c:0<=l[i].time/\l[i].time<=1099511627776
  . exact c
  . simp[c]at e3
 simp only[EE,Yb,decide_eq_true_eq]at ha
 have hr:CY l[i]=0:=by
  unfold CY
  rw[if_neg (by omega),if_neg (by omega),if_neg (by omega),if_neg (by rw[ha.2];decide),if_neg (by omega)]
 rw[if_pos hr]
 by_cases c:i=0
 . rw[if_pos c]
 . rw[if_neg c]
   have hi1:i-1<l.length:=by omega
   have p3:=p3 (by omega)
   rw[Yr hi1]at p3 ⊢
   try dsimp only at p3 ⊢
   unfold Hd
   rw[if_neg (by omega),if_pos p3];simp;omega
def D6 (rev:Int) (l:List (Int×Int)):List Int:=(l.filter λp=>p.1==rev).map Prod.snd
theorem KA (rev:Int) (a b:List (Int×Int)):D6 rev (a++b)=D6 rev a++D6 rev b:=by unfold D6;rw[YV,Y3]
theorem Om (rev:Int) (l:List (Int×Int)):(D6 rev l).length<=l.length:=by unfold D6;rw[Y5];exact Ze _ _
theorem RV {H:Hp} {n m k p:Nat} {es:List SV} {x:Int} {o:Option Nat} (hA:A7 n m 1 o es) (hl:es.length<=1073741823) (h1:H k=some (.cells [AA x])) (h2:∀j,o=some j->H j=some (.cells (es.flatMap SV.cells))):
 AS Tryz.prog H p .append [61,61] [AN 1 o es,.sl k 0 1 1 true]=some { val:=.sl p 0 1 (es.length+1) false,upd:=o.map λj=>(j,none),new:=some (.cells (es.flatMap SV.cells++[AA x])) }:=by
 have:=FU (P:=Tryz.prog) (H:=H) (t:=61) (t2:=61) (el:=3) (z:=1) (by simp[go_sem]) (by simp[go_sem]) (by simp[go_sem]) (by simp) (by simp[go_sem]) (by simp[go_sem]) (by simp[go_sem]) (by omega) hA (e:=AA x) rfl h1 h2 p
 exact this
set_option maxHeartbeats 2000000 in
theorem c51 (x:AF) (hs:x.sized) (rev:Int):PC 51 [x.enc,AA rev] (.imm 1 ((D6 rev x.moves).map AA) false):=by
 intro h n
 refine Dg Tryz.func51 rfl λho=>?_
 have hHb:=ho.lt
 refine Ab 1 [(1,AA rev),(2,.iptr x.flat)] h n ?_ (λm hm=>?_)
 . simp[go_sem,AF.enc,AF.flat,Y0]
   exact⟨AT (Ac hHb (Y1 _)) (AC _ _ _),AK hHb AB⟩
 obtain⟨M,hM⟩:∃M:Nat->List SV,∀i,M i=(D6 rev (x.mv0++Hh (x.dels.take i))).map AA:=⟨_,λ_=>rfl⟩
 have hM0:(D6 rev x.mv0).map AA=M 0:=by rw[hM];simp[Hh]
 have hMs:∀i x',(hi:i<x.dels.length)->x.dels[i]=x'->M (i+1)=M i++if x'.rev=rev/\x'.move≠0 then[AA x'.move]else[]:=λi x' hi e=>by
  rw[hM,hM,K0 _ _ hi,e,<-Ye,KA,Y3]
  congr 1
  by_cases e0:x'.move=0
  . simp[e0,D6]
  . by_cases e1:x'.rev=rev<;>simp[e0,e1,D6]
 have hMl:M x.dels.length=(D6 rev x.moves).map AA:=by rw[hM,Ya];rfl
 have hMn:∀i,(M i).length<=1+i:=λi=>by
  rw[hM,Y5]
  have h0:=Om rev (x.mv0++Hh (x.dels.take i))
  rw[Ym]at h0
  have h1:=IB (x.dels.take i)
  have h2:x.mv0.length<=1:=by unfold AF.mv0;split<;>simp
  have h3:=List.length_take_le i x.dels
  omega
 have hM0':M 0=if x.ins=rev/\x.move≠0 then[AA x.move]else[]:=by
  rw[<-hM0];unfold AF.mv0 D6
  by_cases e0:x.move=0
  . simp[e0]
  . by_cases e1:x.ins=rev<;>simp[e0,e1]
 refine Ab 0 [(1,AA rev),(2,.iptr x.flat),(5,.imm 0 [] true)] h n ?_ (λm hm=>?_)
 . simp[go_sem,Y0,hm]
 refine AV 0 (α:=Option Nat) (λo=>[(1,AA rev),(2,.iptr x.flat),(5,AN 1 o (M 0))]) (λo=>AO o (M 0) h) (λo m=>n<=m/\A7 n m 1 o (M 0)) (AI ?_) (λo m hm=>?_)
 . rw[hM0']
   by_cases e1:x.ins=rev
   . by_cases e0:x.move=0
     . simp[go_sem,AF.flat,e0,e1,Y0,AN,AO]
       exact⟨none,⟨hm,Zs _ _ _⟩,rfl,AB⟩
     . have hap:=λ(H:Hp) (k p:Nat) (h1:H k=some (.cells [AA x.move]))=>RV (H:=H) (k:=k) (p:=p) (es:=[]) (x:=x.move) (Zs 0 0 1) (by simp) h1 (by simp)
       simp only[Zh,Zy,Zo,Yt,AN]at hap
       have hm0:(x.move !=0)=true:=by simpa using e0
       simp[go_sem,AF.flat,e0,e1,hm0,Y0]
       rw[hap _ _ _ (by simp[AC])]
       simp[go_sem]
       have hpush:=(Zs n (m+1) 1).push (j:=m+1) (m':=m+1+1) (e:=AA x.move) rfl rfl (by omega) (by omega)
       have hvv:AN 1 (some (m+1)) [AA x.move]=.sl (m+1) 0 1 1 false:=by simp[AN]
       refine⟨some (m+1),⟨by omega,by simpa using hpush⟩,hvv.symm,λj y=>?_⟩
       have:=hHb j y
       simp only[AO,hset,SV.cells,YC,Zo,Zi];grind
   . simp[go_sem,AF.flat,e1,Y0,AN,AO]
     exact⟨none,⟨hm,Zs _ _ _⟩,rfl,AB⟩
 obtain⟨hm,hA⟩:=hm
 have hsd:=hs.dels
 refine AV 0 (α:=Option Nat) (λo=>[(5,AN 1 o (M x.dels.length))]) (λo=>AO o (M x.dels.length) h) (λo m=>n<=m/\A7 n m 1 o (M x.dels.length)) ?_ (λo m hm=>?_)
 . refine Ab 0 [(1,AA rev),(2,.iptr x.flat),(5,AN 1 o (M 0)),(6,AA 0)] (AO o (M 0) h) m ?_ (λm2 hm2=>?_)
   . simp[go_sem,Y0]
   refine AR (BP 0 (α:=Nat×Option Nat) (λq=>[(1,AA rev),(2,.iptr x.flat),(5,AN 1 q.2 (M q.1)),(6,AA q.1)]) (λq=>AO q.2 (M q.1) h)
    (λq m=>q.1<=x.dels.length/\n<=m/\A7 n m 1 q.2 (M q.1)) (λq=>x.dels.length-q.1) (0,o) ⟨Y4 _,by omega,hA.mono hm2⟩ ?_ AB ?_)
   . simp[go_sem,Aj,Y0]
   clear hA hm hm2 m2 m o
   rintro⟨i,o⟩ m ⟨hi,hnm,hA⟩
   dsimp only at hi hA ⊢
   have hEn:=hMn i
   by_cases hlt:i<x.dels.length
   . have w1:=wS i (by omega)
     obtain⟨y,hy⟩:∃y,x.dels[i]=y:=⟨_,rfl⟩
     have hst:=hMs i y hlt hy
     generalize hE:M i=E at hA hEn hst
     have hXb:∀j y,AO o E h j=some y->j<m:=G6 hHb hnm hA
     refine By 0 [(1,AA rev),(2,.iptr x.flat),(5,AN 1 o E),(6,AA i)] (AO o E h) m ?_ (λm2 hm2=>?_)
     . simp[go_sem,Y0,hlt,AF.flat]
     subst hm2
     refine AV 0 (α:=Option Nat) (λo=>[(1,AA rev),(2,.iptr x.flat),(5,AN 1 o (M (i+1))),(6,AA i)]) (λo=>AO o (M (i+1)) h) (λo m=>n<=m/\A7 n m 1 o (M (i+1))) (AR ?_) (λo m hm=>?_)
     . refine Ab 1 [(1,AA rev),(2,.iptr x.flat),(5,AN 1 o E),(6,AA i),(7,.iptr [AA y.rev,AA y.move])] (AO o E h) m ?_ (λm2 hm2=>?_)
       . simp[go_sem,Y0,AF.flat,hlt,hy,BO.enc,AC]
         exact⟨AT (Ac hXb (Y1 _)) (AC _ _ _),AK hXb (AK hXb AB)⟩
       rw[hst]
       refine AI ?_
       by_cases e1:y.rev=rev
       . by_cases m0:y.move=0
         . simp[go_sem,e1,m0,Y0]
           exact⟨o,⟨by omega,hA.mono hm2⟩,rfl,AB⟩
         . have hm0:(y.move !=0)=true:=by simpa using m0
           simp[go_sem,e1,m0,hm0]
           rw[RV (x:=y.move) hA (by omega) (by simp[AC]) (by
            intro j e
            have:=(hA.lt j e).2
            rw[AD _ _ (by omega)];exact Dz j e)]
           have hpush:=hA.push (j:=m2+1) (m':=m2+1+1) (e:=AA y.move) rfl rfl (by omega) (by omega)
           have hlive:=Du (p:=m2+1) (v:=.sl (m2+1) 0 1 (E.length+1) false) (e:=AA y.move) hHb (by omega) hA (H:=hset (AO o E h) m2 (some (.cells [AA y.move]))) (AK (λj z e=>by have:=hHb j z e;omega) (C8 hHb hA))
           have hvv:AN 1 (some (m2+1)) (E++[AA y.move])=.sl (m2+1) 0 1 (E.length+1) false:=by simp[AN]
           simp[go_sem]
           exact⟨some (m2+1),⟨by omega,hpush⟩,hvv.symm,by simpa[Cs.app,SV.cells]using hlive⟩
       . simp[go_sem,e1,Y0]
         exact⟨o,⟨by omega,hA.mono hm2⟩,rfl,AB⟩
     . refine AI ?_
       simp[go_sem,w1,Y0,-Int.natCast_add]
       exact⟨i+1,by omega,o,⟨by omega,hm.1,hm.2⟩,⟨Y0,Y0⟩,AB⟩
   . have:i=x.dels.length:=by omega
     subst this
     refine AI ?_
     simp[go_sem,AF.flat]
     exact⟨o,⟨hnm,hA⟩,rfl,AB⟩
 refine AI ?_
 simp[go_sem]
 rw[hMl]at hm ⊢
 exact Gx ho hm.2 (λe he=>by obtain⟨p,_,rfl⟩:=Yp.1 he;simp[closed])
theorem c52 (l:List Int) (hl:l.length<=1073741824) (x:Int):PC 52 [.imm 1 (l.map AA) false,AA x] (.bool (decide (x∈l))):=by
 intro h n
 refine gq Tryz.func52 rfl λho=>?_
 simp[go_sem]
 refine Am 1 (α:=Nat) (λk=>[(0,.imm 1 (l.map AA) false),(1,AA x),(5,AA k)]) (λ_=>h) (λk m=>k<=l.length/\n<=m/\x∉l.take k) (λk=>l.length-k) 0 ?_ ?_ AB ?_
 . simp
 . simp[Aj]
 rintro k m ⟨hk,hnm,hf⟩
 by_cases hlt:k<l.length
 . have w1:=wS k (by omega)
   obtain⟨y,hy⟩:∃y,l[k]=y:=⟨_,rfl⟩
   by_cases e:y=x
   . simp[go_sem,hlt,hy,e]
     exact A3 ho rfl (by rw[decide_eq_true (show x∈l from by rw[<-e,<-hy];exact Yc hlt)])
   . simp[go_sem,hlt,hy,e,w1,-Int.natCast_add]
     refine⟨k+1,by omega,⟨by omega,hnm,?_⟩,Y0⟩
     rw[Y2 hlt,hy]
     simp[hf];exact λh=>e h.symm
 . simp[go_sem,hlt]
   rw[Yl (by omega)]at hf
   exact A3 ho rfl (by simp[hf])
def Fc:List BO->BO->List BO
 | [],x=>[x]
 | y::l,x=>if y.rev<x.rev then y::Fc l x else if y.rev=x.rev then y::l else x::y::l
def B5:List BO->Int->Nat
 | [],_=>0
 | y::l,r=>if y.rev<r then B5 l r+1 else 0
def Fp (l:List BO):List BO:=l.foldl Fc []
theorem Me (r:Int):∀l,B5 l r<=l.length
 | []=>Y1 _
 | y::l=>by
  have:=Me r l
  rw[B5];split<;>simp<;>omega
theorem Mf (r:Int):∀(l:List BO) (j:Nat) (h:j<l.length),j<B5 l r->l[j].rev<r
 | [],_,h,_=>absurd h (by simp)
 | y::l,j,h,g=>by
  rw[B5]at g
  split at g
  . rename_i e
    cases j with
    | zero=>exact e
    | succ j=>exact Mf r l j (by simpa using h) (by omega)
  . omega
theorem Md (r:Int):∀(l:List BO) (h:B5 l r<l.length),¬l[B5 l r].rev<r
 | [],h=>absurd h (by simp)
 | y::l,h=>by
  by_cases e:y.rev<r
  . have h0:B5 (y::l) r=B5 l r+1:=by rw[B5,if_pos e]
    have h1:B5 l r<l.length:=by simp at h;omega
    have:=Md r l h1
    simp only[h0,Zc]
    exact this
  . have h0:B5 (y::l) r=0:=by rw[B5,if_neg e]
    simp only[h0,List.getElem_cons_zero];exact e
theorem Mc:∀(l:List BO) (x:BO) (h:B5 l x.rev<l.length),l[B5 l x.rev].rev=x.rev->Fc l x=l
 | [],_,h,_=>absurd h (by simp)
 | y::l,x,h,g=>by
  by_cases e:y.rev<x.rev
  . have h0:B5 (y::l) x.rev=B5 l x.rev+1:=by rw[B5,if_pos e]
    have h1:B5 l x.rev<l.length:=by simp at h;omega
    simp only[h0,Zc]at g
    rw[Fc,if_pos e,Mc l x h1 g]
  . have h0:B5 (y::l) x.rev=0:=by rw[B5,if_neg e]
    simp only[h0,List.getElem_cons_zero]at g
    rw[Fc,if_neg e,if_pos g]
theorem OZ:∀(l:List BO) (x:BO),(∀h:B5 l x.rev<l.length,l[B5 l x.rev].rev≠x.rev)->Fc l x=l.take (B5 l x.rev)++x::l.drop (B5 l x.rev)
 | [],_,_=>rfl
 | y::l,x,g=>by
  by_cases e:y.rev<x.rev
  . have h0:B5 (y::l) x.rev=B5 l x.rev+1:=by rw[B5,if_pos e]
    rw[Fc,if_pos e,OZ l x (λh1=>by
     have:=g (by simp;omega)
     simpa only[h0,Zc]using this),h0]
    rfl
  . have h0:B5 (y::l) x.rev=0:=by rw[B5,if_neg e]
    have:=g (by rw[h0];simp)
    simp only[h0,List.getElem_cons_zero]at this
    rw[Fc,if_neg e,if_neg this,h0];rfl
theorem OX:∀(l:List BO) (x:BO),(Fc l x).length<=l.length+1
 | [],_=>Y1 _
 | y::l,x=>by
  have:=OX l x
  rw[Fc];split
  . simp;omega
  . split<;>simp
theorem MY:∀(l o:List BO),(l.foldl Fc o).length<=o.length+l.length
 | [],o=>by simp
 | x::l,o=>by
  have h1:=MY l (Fc o x)
  have h2:=OX o x
  simp;omega
section
variable {H : Hp} {p q : Nat} {a b : SV}
theorem dA0:AS Tryz.prog H p .append [24,24] [.sl q 0 2 1 true,.imm 2 [] false]=some { val:=.sl q 0 2 1 true }:=by
 have e1:A6 Tryz.prog 24=some 166:=by simp[go_sem]
 have e2:Bh Tryz.prog 166=2:=by simp[go_sem]
 have e3:(BH Tryz.prog 166).storable=true:=by simp[go_sem]
 have e4:(BH Tryz.prog 166).cells.length=2:=by simp[go_sem]
 simp only[AS,e1,Zb,if_true,Cw,e2,e3,e4]
 simp[Ha,EF,flat,EA]
theorem dA1 {D:List BO} (hD:D≠[]) (hl:D.length<=1048576) (h:H q=some (.cells [a,b])):AS Tryz.prog H p .append [24,24] [.sl q 0 2 1 true,.imm 2 (D.map BO.enc) false]=some { val:=.sl p 0 2 (1+D.length) false,new:=some (.cells ([a,b]++(D.map BO.enc).flatMap SV.cells)) }:=by
 have e1:A6 Tryz.prog 24=some 166:=by simp[go_sem]
 have e2:Bh Tryz.prog 166=2:=by simp[go_sem]
 have e3:(BH Tryz.prog 166).storable=true:=by simp[go_sem]
 have e4:(BH Tryz.prog 166).cells.length=2:=by simp[go_sem]
 have e5:Bg Tryz.prog 166<=65536:=by simp[go_sem]
 have hr:DU (1+D.length) (Bg Tryz.prog 166)=true:=by simp[DU,e5];omega
 have e6:Bk [a,b] 0 (1*2)=some [a,b]:=rfl
 simp only[AS,e1,Zb,if_true,Cw,e2,e3,e4,flat,h,e6,EF,Y5,hr]
 simp[Ha,hD,G2,HM]
theorem dA2 {T:List BO} {len:Nat} {f:Bool} {cs:List SV} (hl:T.length<=1048576) (hn:0<len) (hl2:len<=1048577) (hcs:cs.length=len*2) (h:H q=some (.cells cs)):AS Tryz.prog H p .append [24,24] [.imm 2 (T.map BO.enc) true,.sl q 0 2 len f]=some { val:=.sl p 0 2 (T.length+len) false,new:=some (.cells ((T.map BO.enc).flatMap SV.cells++cs)) }:=by
 have e1:A6 Tryz.prog 24=some 166:=by simp[go_sem]
 have e2:Bh Tryz.prog 166=2:=by simp[go_sem]
 have e3:(BH Tryz.prog 166).storable=true:=by simp[go_sem]
 have e4:(BH Tryz.prog 166).cells.length=2:=by simp[go_sem]
 have e5:Bg Tryz.prog 166<=65536:=by simp[go_sem]
 have hr:DU (T.length+len) (Bg Tryz.prog 166)=true:=by simp[DU,e5];omega
 have e6:Bk cs 0 (len*2)=some cs:=by rw[<-hcs];simp[Bk]
 have h0:len≠0:=by omega
 simp only[AS,e1,Zb,if_true,Cw,e2,e3,e4,flat,h,e6,EF,Y5,hr]
 simp[Ha,h0,HM]
end
def Lm:Tr:=.pure 0<|.pure 1<|.pure 2<|.pure 3<|.pure 4<|.pure 5<|.pure 6<|.pure 7<|.pure 9<|.pure 10<|.pure 11<|.one 8<|.one 12<|.one 13<|.one 14 .nil
set_option maxHeartbeats 2000000 in
theorem c122 (l:List BO) (hl:l.length<=1048576):PC 122 [Aa l] (Aa (Fp l)):=by
 intro h n
 refine Dg Tryz.func122 rfl λho=>?_
 have hHb:=ho.lt
 obtain⟨M,hM⟩:∃M:Nat->List BO,∀i,M i=(l.take i).foldl Fc []:=⟨_,λ_=>rfl⟩
 have hM0:M 0=[]:=by rw[hM];rfl
 have hMs:∀i x,(hi:i<l.length)->l[i]=x->M (i+1)=Fc (M i) x:=λi x hi e=>by
  rw[hM,hM,Y2 hi,Zw,e];rfl
 have hMl:M l.length=Fp l:=by rw[hM,Ya];rfl
 have hMn:∀i,(M i).length<=i:=λi=>by
  have h1:=MY (l.take i) []
  have h2:=List.length_take_le i l
  rw[hM];simp at h1 h2 ⊢;omega
 refine Ab 0 [(0,Aa l)] h n ?_ (λm hm=>?_)
 . simp[go_sem,Y0]
 refine Ab 1 [(0,Aa l),(3,Aa (M 0))] h n ?_ (λm hm=>?_)
 . rw[hM0]
   simp[go_sem,Y0,hm]
   exact A9 (by simp)
 refine Bt 0 [(3,Aa (M l.length))] h n ?_ (λm hm=>?_)
 . refine Ab 0 [(0,Aa l),(3,Aa (M 0)),(4,AA 0)] h n ?_ (λm hm=>?_)
   . simp[go_sem,Y0,hm]
   refine AR (BP 0 (α:=Nat) (λi=>[(0,Aa l),(3,Aa (M i)),(4,AA i)]) (λ_=>h) (λi m=>i<=l.length/\n<=m) (λi=>l.length-i) 0 ⟨Y4 _,by omega⟩ ?_ AB ?_)
   . simp[go_sem,Aj,Y0]
   rintro i m ⟨hi,hnm⟩
   have hEn:=hMn i
   by_cases hlt:i<l.length
   . have w1:=wS i (by omega)
     obtain⟨x,hx⟩:∃x,l[i]=x:=⟨_,rfl⟩
     have hst:=hMs i x hlt hx
     generalize hE:M i=E at hEn hst
     refine Ab 0 [(0,Aa l),(3,Aa E),(4,AA i)] h n ?_ (λm2 hm2=>?_)
     . simp[go_sem,Y0,hlt,hnm]
     refine AV 1 (α:=Unit) (λ_=>[(0,Aa l),(3,Aa (M (i+1))),(4,AA i)]) (λ_=>h) (λ_ m=>n<=m) (AR ?_) (λ_ m hm=>?_)
     . refine Ab 0 [(0,Aa l),(3,Aa E),(4,AA i),(5,AA 0)] h n ?_ (λm hm=>?_)
       . simp[go_sem,Y0,hm2]
       obtain⟨K,hK⟩:∃K,K=B5 E x.rev:=⟨_,rfl⟩
       have hKl:K<=E.length:=by rw[hK];exact Me _ _
       refine Bt 0 [(0,Aa l),(3,Aa E),(4,AA i),(5,AA K)] h n ?_ (λm hm=>?_)
       . refine AR (BP 0 (α:=Nat) (λk=>[(0,Aa l),(3,Aa E),(4,AA i),(5,AA k)]) (λ_=>h) (λk m=>k<=K/\n<=m) (λk=>K-k) 0 ⟨Y4 _,by omega⟩ ?_ AB ?_)
         . simp[go_sem,Aj,Y0]
         rintro k m ⟨hk,hnm⟩
         by_cases hkK:k<K
         . have w2:=wS k (by omega)
           have hkl:k<E.length:=by omega
           have hlo:=Mf x.rev E k hkl (by omega)
           obtain⟨y,hy⟩:∃y,E[k]=y:=⟨_,rfl⟩
           rw[hy]at hlo
           refine Ab 0 [(0,Aa l),(3,Aa E),(4,AA i),(5,AA k),(28,.bool true)] h n ?_ (λm hm=>?_)
           . simp(maxSteps:=1000000) [go_sem,hkl,hlt,hy,hx,hlo,BO.enc,Y0,hnm]
             repeat first|refine nq ?_|refine sq ?_
             show(_:Bool)=true
             kernel_rfl
           refine AI ?_
           simp[go_sem,w2,Y0,-Int.natCast_add]
           exact⟨k+1,by omega,⟨by omega,hm⟩,Y0⟩
         . have:k=K:=by omega
           subst this
           refine Ei ?_
           by_cases hkl:k<E.length
           . have hge:=Md x.rev E (by rw[<-hK];exact hkl)
             simp only[<-hK]at hge
             obtain⟨y,hy⟩:∃y,E[k]=y:=⟨_,rfl⟩
             rw[hy]at hge
             refine AI ?_
             simp(maxSteps:=1000000) [go_sem,hkl,hlt,hy,hx,hge,BO.enc,Y0,hnm]
             repeat first|refine nq ?_|refine sq ?_
             show(_:Bool)=true
             kernel_rfl
           . refine AI ?_
             simp(maxSteps:=1000000) [go_sem,hkl,Y0,hnm]
             repeat first|refine nq ?_|refine sq ?_
             show(_:Bool)=true
             kernel_rfl
       clear hm2
       have hHm:∀j y,h j=some y->j<m:=λj y e=>by have:=hHb j y e;omega
       by_cases hsk:∃h:K<E.length,E[K].rev=x.rev
       . obtain⟨hkl,hre⟩:=hsk
         rw[Mc E x (by omega) (by simp only[<-hK];exact hre)]at hst
         rw[hst]
         obtain⟨y,hy⟩:∃y,E[K]=y:=⟨_,rfl⟩
         rw[hy]at hre
         have hne:((K:Int)==(E.length:Int))=false:=by simp;omega
         refine By 0 [(0,Aa l),(3,Aa E),(4,AA i),(5,AA K),(47,.bool false)] h m ?_ (λm' hm'=>?_)
         . simp(maxSteps:=1000000) [go_sem,hkl,hne,hlt,hy,hx,hre,BO.enc,Y0]
           repeat first|refine nq ?_|refine sq ?_
           show(_:Bool)=true
           kernel_rfl
         subst hm'
         refine Ag (b:=false) (by simp[go_sem]) (AI ?_)
         simp[go_sem,Y0,hm]
       have hput:M (i+1)=E.take K++x::E.drop K:=by
        rw[hst,OZ E x (λg e=>hsk ⟨by omega,by simp only[<-hK]at e;exact e⟩),hK]
       refine By 0 [(0,Aa l),(3,Aa E),(4,AA i),(5,AA K),(47,.bool true)] h m ?_ (λm' hm'=>?_)
       . by_cases hkl:K<E.length
         . obtain⟨y,hy⟩:∃y,E[K]=y:=⟨_,rfl⟩
           have hre:y.rev≠x.rev:=λe=>hsk ⟨hkl,by rw[hy];exact e⟩
           have hre2:(y.rev !=x.rev)=true:=by simpa using hre
           have hne:((K:Int)==(E.length:Int))=false:=by simp;omega
           simp(maxSteps:=1000000) [go_sem,hkl,hne,hlt,hy,hx,hre2,BO.enc,Y0]
           repeat first|refine nq ?_|refine sq ?_
           show(_:Bool)=true
           kernel_rfl
         . have he:K=E.length:=by omega
           simp(maxSteps:=1000000) [go_sem,he,Y0]
           repeat first|refine nq ?_|refine sq ?_
           show(_:Bool)=true
           kernel_rfl
       subst hm'
       refine Ag (b:=true) (by simp[go_sem]) ?_
       simp only[if_true]
       rw[hput]
       have sl1:List.drop K (List.take E.length (List.map BO.enc E))=(E.drop K).map BO.enc:=by rw[Yl (by simp),List.map_drop]
       have sl2:List.take K (List.map BO.enc E)=(E.take K).map BO.enc:=by rw[ZH]
       have hDl:=List.length_drop (i:=K) (l:=E)
       have hTl:=X8 (i:=K) (l:=E)
       have k0:∀q,m<=q->h q=none:=λq hq=>Ac hHm hq
       have fin:∀(h':Hp) (q len:Nat) (cs:List SV) (R:List BO),m<=q->h' q=some (.cells cs)->cs=(R.map BO.enc).flatMap SV.cells->len=R.length->Fz h' h 1 (.sl q 0 2 len false) (Aa R):=λh' q len cs R hq hh hc hn=>by
        subst hc hn
        have:=Dj (es:=R.map BO.enc) (k:=0) (z:=2) (full:=false) (full':=false) (k0 q hq) (by simp) hh (BO.E.size R)
        rwa [Y5]at this
       refine B7 Lm rfl (by kernel_rfl) (by kernel_rfl) ?_
       by_cases hD:E.drop K=[]
       . simp(maxSteps:=1000000) [go_sem,Lm,hlt,hx,BO.enc,hKl]
         rw[sl1,hD]
         rw[YF,dA0]
         simp[go_sem]
         rw[sl2,dA2 (T:=E.take K) (cs:=[AA x.rev,AA x.move]) (by omega) (by omega) (by omega) rfl (AC _ _ _)]
         simp[go_sem]
         refine⟨by omega,fin _ _ _ _ _ (by omega) (AC _ _ _) (by rw[sl2];simp[BO.enc,SV.cells]) (by simp),λj z e=>by have:=hHm j z e;rw[AD _ _ (by omega),AD _ _ (by omega)];exact e⟩
       . simp(maxSteps:=1000000) [go_sem,Lm,hlt,hx,BO.enc,hKl]
         rw[sl1]
         rw[dA1 hD (by omega) (AC _ _ _)]
         simp[go_sem]
         rw[sl2,dA2 (T:=E.take K) (cs:=AA x.rev::AA x.move::((E.drop K).map BO.enc).flatMap SV.cells) (by omega) (by omega) (by omega) (by have:=BE (z:=2) (BO.E.size (E.drop K));rw[Y5]at this;simp only[Yy,this];omega) (by rw[AC];simp)]
         simp[go_sem]
         refine⟨by omega,fin _ _ _ _ _ (by omega) (AC _ _ _) (by simp[BO.enc,SV.cells]) (by simp;omega),λj z e=>?_⟩
         have:=hHm j z e
         rw[AD _ _ (by omega),AD _ _ (by omega),AD _ _ (by omega)];exact e
     . refine AI ?_
       simp[go_sem,w1,Y0,-Int.natCast_add]
       exact⟨i+1,by omega,⟨by omega,hm⟩,Y0,Y0⟩
   . have:i=l.length:=by omega
     subst this
     refine AI ?_
     simp[go_sem,Y0,hnm]
 rw[hMl]
 refine AI ?_
 simp[go_sem]
 exact Au ho AB rfl (by simp[closed,BO.E.closedL])
def GQ (a:Int) (y:Int):Bool:=y==a
def Hn (a id:Int) (h:AF):AF:={ h with ins:=if h.ins=a then id else h.ins,dels:=Fp (h.dels.map (Ba (GQ a) id)),layers:=h.layers.map (BL (GQ a) id) }
def L3 (x:AF) (h:Hp) (n:Nat) (v3 v4:SV) (y:Int):Hp:=hset (hset h (n+1) (some RD)) (n+2) (some (.cells [AA y,AA x.move,v3,v4]))
theorem Fq {x:AF} {h:Hp} {n:Nat} {v3 v4:SV} {y:Int}:L3 x h n v3 v4 y (n+2)=some (.cells [AA y,AA x.move,v3,v4]):=by simp[L3,AC]
theorem QI {x:AF} {h:Hp} {n:Nat} {v3 v4:SV} {y:Int}:L3 x h n v3 v4 y (n+1)=some RD:=by rw[L3,AD _ _ (by omega),AC]
theorem NT {x:AF} {h:Hp} {n:Nat} {v3 v4 w3 w4:SV} {y z:Int}:hset (L3 x h n v3 v4 y) (n+2) (some (.cells [AA z,AA x.move,w3,w4]))=L3 x h n w3 w4 z:=by
 unfold L3;rw[AY]
theorem Un {x:AF} {h:Hp} {n m:Nat} {v3 v4:SV} {y:Int} (hb:∀j y,h j=some y->j<n) (hm:n+3<=m):∀j z,L3 x h n v3 v4 y j=some z->j<m:=λj z e=>by
 unfold L3 at e
 simp only[hset]at e
 split at e
 . omega
 . split at e
   . omega
   . have:=hb j z e;omega
theorem UL {H:Hp} {n m k p:Nat} {es:List SV} {u v:SV} {o:Option Nat} (hA:A7 n m 2 o es) (hl:es.length<=1073741823) (h1:H k=some (.cells [u,v])) (h2:∀j,o=some j->H j=some (.cells (es.flatMap SV.cells))):
 AS Tryz.prog H p .append [24,24] [AN 2 o es,.sl k 0 2 1 true]=some { val:=.sl p 0 2 (es.length+1) false,upd:=o.map λj=>(j,none),new:=some (.cells (es.flatMap SV.cells++[u,v])) }:=by
 have:=FU (P:=Tryz.prog) (H:=H) (t:=24) (t2:=24) (el:=166) (z:=2) (by simp[go_sem]) (by simp[go_sem]) (by simp[go_sem]) (by simp) (by simp[go_sem]) (by simp[go_sem]) (by simp[go_sem]) (by omega) hA (e:=.agg [u,v]) rfl h1 h2 p
 exact this
theorem lay0 {H:Hp} {p:Nat}:AS Tryz.prog H p .append [25,25] [.imm 4 [] true,AQ []]=some { val:=.imm 4 [] true }:=by
 have e1:A6 Tryz.prog 25=some 164:=by simp[go_sem]
 have e2:Bh Tryz.prog 164=4:=by simp[go_sem]
 have e3:(BH Tryz.prog 164).storable=true:=by simp[go_sem]
 have e4:(BH Tryz.prog 164).cells.length=4:=by simp[go_sem]
 simp only[AS,e1,Zb,if_true,Cw,e2,e3,e4]
 simp[Ha,EF,flat,EA]
set_option maxHeartbeats 4000000 in
theorem c54 (x:AF) (hs:x.sized) (a id:Int):PC 54 [x.enc,AA a,AA id] (Hn a id x).enc:=by
 intro h n
 refine Dg Tryz.func54 rfl λho=>?_
 have hHb:=ho.lt
 obtain⟨X,hX⟩:∃X:SV,X=.iptr x.flat:=⟨_,rfl⟩
 refine BV 1 [(1,AA a),(2,AA id),(3,X),(6,.ptr (n+1) 0)] (hset h (n+1) (some RD)) (λm=>n+2=m) ?_ (λm hm=>?_)
 . rw[hX]
   simp[go_sem,AF.enc,AF.flat,Y0]
   refine⟨AT (by rw[AD _ _ (by omega)];exact Ac hHb (Y1 _)) (by simp[hset]),λj y=>?_⟩
   have:=hHb j y;simp only[hset];grind
 subst hm
 have q1:n+1≠n+2:=by omega
 refine BV 0 [(1,AA a),(2,AA id),(3,X),(6,.ptr (n+1) 0),(7,.ptr (n+2) 0)] (L3 x h n (Aa x.dels) (AQ x.layers) x.ins) (λm=>n+3<=m) ?_ (λm hm=>?_)
 . rw[hX]
   simp[go_sem,AF.flat,Y0,AC,AY,L3]
 obtain⟨y,hy⟩:∃y,y=if x.ins=a then id else x.ins:=⟨_,rfl⟩
 refine CB 0 [(1,AA a),(2,AA id),(3,X),(6,.ptr (n+1) 0),(7,.ptr (n+2) 0)] (L3 x h n (Aa x.dels) (AQ x.layers) y) (λm=>n+3<=m) (AI ?_) (λm hm=>?_)
 . by_cases e:x.ins=a
   . rw[hy,if_pos e]
     simp[go_sem,Fq,e,NT,Y0,hm]
   . rw[hy,if_neg e]
     simp[go_sem,Fq,e,Y0,hm]
 refine BV 0 [(1,AA a),(2,AA id),(3,X),(6,.ptr (n+1) 0),(7,.ptr (n+2) 0),(8,.imm 0 [] true)] (L3 x h n (Aa x.dels) (AQ x.layers) y) (λm=>n+3<=m) ?_ (λm hm=>?_)
 . simp[go_sem,Y0,hm]
 obtain⟨G,hGd⟩:∃G:Hp,G=L3 x h n (Aa x.dels) (AQ x.layers) y:=⟨_,rfl⟩
 have hG:G (n+2)=some (.cells [AA y,AA x.move,Aa x.dels,AQ x.layers]):=by rw[hGd];exact Fq
 have hGb:∀j z,G j=some z->j<n+3:=by rw[hGd];exact Un hHb (Y1 _)
 rw[<-hGd]
 obtain⟨M,hM⟩:∃M:Nat->List SV,∀i,M i=((x.dels.take i).map (Ba (GQ a) id)).map BO.enc:=⟨_,λ_=>rfl⟩
 have hM0:M 0=[]:=by rw[hM];rfl
 have hMs:∀i d,(hi:i<x.dels.length)->x.dels[i]=d->M (i+1)=M i++[(Ba (GQ a) id d).enc]:=λi d hi e=>by
  rw[hM,hM,Y2 hi,e];simp
 have hMl:M x.dels.length=(x.dels.map (Ba (GQ a) id)).map BO.enc:=by rw[hM,Ya]
 have hMn:∀i,(M i).length<=i:=λi=>by
  rw[hM,Y5,Y5];exact List.length_take_le i x.dels
 have hsd:=hs.dels
 refine CB 1 [(1,AA a),(2,AA id),(3,X),(6,.ptr (n+1) 0),(7,.ptr (n+2) 0),(8,Aa (x.dels.map (Ba (GQ a) id)))] G (λm=>n+3<=m) ?_ (λm hm=>?_)
 . refine Ab 0 [(1,AA a),(2,AA id),(3,X),(6,.ptr (n+1) 0),(7,.ptr (n+2) 0),(8,AN 2 none (M 0)),(9,AA 0)] G m ?_ (λm2 hm2=>?_)
   . rw[hM0];simp[go_sem,Y0,AN]
   refine AR (BP 0 (α:=Nat×Option Nat) (λq=>[(1,AA a),(2,AA id),(3,X),(6,.ptr (n+1) 0),(7,.ptr (n+2) 0),(8,AN 2 q.2 (M q.1)),(9,AA q.1)]) (λq=>AO q.2 (M q.1) G)
    (λq m=>q.1<=x.dels.length/\n+3<=m/\A7 (n+3) m 2 q.2 (M q.1)) (λq=>x.dels.length-q.1) (0,none) ⟨Y4 _,by omega,by rw[hM0];exact Zs _ _ _⟩ ?_ AB ?_)
   . simp[go_sem,Aj,Y0]
   clear hm hm2 m2 m
   rintro⟨i,o⟩ m ⟨hi,hnm,hA⟩
   dsimp only at hi hA ⊢
   have hEn:=hMn i
   by_cases hlt:i<x.dels.length
   . have w1:=wS i (by omega)
     obtain⟨d,hd⟩:∃d,x.dels[i]=d:=⟨_,rfl⟩
     have hst:=hMs i d hlt hd
     generalize hE:M i=E at hA hEn hst
     have hXb:∀j y,AO o E G j=some y->j<m:=G6 hGb hnm hA
     have g2:AO o E G (n+2)=some (.cells [AA y,AA x.move,Aa x.dels,AQ x.layers]):=C8 hGb hA _ _ hG
     refine By 0 [(1,AA a),(2,AA id),(3,X),(6,.ptr (n+1) 0),(7,.ptr (n+2) 0),(8,AN 2 o E),(9,AA i)] (AO o E G) m ?_ (λm2 hm2=>?_)
     . simp[go_sem,g2,Y0,hlt]
     subst hm2
     refine AV 0 (α:=Option Nat) (λo=>[(1,AA a),(2,AA id),(3,X),(6,.ptr (n+1) 0),(7,.ptr (n+2) 0),(8,AN 2 o (M (i+1))),(9,AA i)]) (λo=>AO o (M (i+1)) G) (λo m=>n+3<=m/\A7 (n+3) m 2 o (M (i+1))) (AR ?_) (λo m hm=>?_)
     . refine BV 0 [(1,AA a),(2,AA id),(3,X),(6,.ptr (n+1) 0),(7,.ptr (n+2) 0),(8,AN 2 o E),(9,AA i),(10,.ptr m 0)] (hset (AO o E G) m (some (.cells [AA d.rev,AA d.move]))) (λm2=>m+1<=m2) ?_ (λm2 hm2=>?_)
       . simp[go_sem,g2,hlt,hd,BO.enc,Y0,AC,AY]
       rw[hst]
       refine CB 1 [(1,AA a),(2,AA id),(3,X),(6,.ptr (n+1) 0),(7,.ptr (n+2) 0),(8,AN 2 o E),(9,AA i),(10,.iptr [AA (HK (GQ a) id d.rev),AA d.move])] (AO o E G) (λm2=>m+1<=m2) (AI ?_) (λm3 hm3=>?_)
       . by_cases e:d.rev=a
         . have hr:HK (GQ a) id d.rev=id:=by simp[HK,GQ,e]
           rw[hr]
           simp[go_sem,AC,e,Y0,hm2,AY]
           exact⟨AT (Ac hXb (Y1 _)) (AC _ _ _),AK hXb AB⟩
         . have hr:HK (GQ a) id d.rev=d.rev:=by simp[HK,GQ,e]
           rw[hr]
           simp[go_sem,AC,e,Y0,hm2]
           exact⟨AT (Ac hXb (Y1 _)) (AC _ _ _),AK hXb AB⟩
       refine AI ?_
       simp[go_sem]
       rw[UL hA (by omega) (AC _ _ _) (by
        intro j e
        have:=(hA.lt j e).2
        rw[AD _ _ (by omega)];exact Dz j e)]
       have hpush:=hA.push (j:=m3+1) (m':=m3+1+1) (e:=(Ba (GQ a) id d).enc) rfl rfl (by omega) (by omega)
       have hlive:=Du (p:=m3+1) (v:=.sl (m3+1) 0 2 (E.length+1) false) (e:=(Ba (GQ a) id d).enc) hGb (by omega) hA (H:=hset (AO o E G) m3 (some (.cells [AA (HK (GQ a) id d.rev),AA d.move]))) (AK (λj z e=>by have:=hGb j z e;omega) (C8 hGb hA))
       have hvv:AN 2 (some (m3+1)) (E++[(Ba (GQ a) id d).enc])=.sl (m3+1) 0 2 (E.length+1) false:=by simp[AN]
       simp[go_sem]
       exact⟨some (m3+1),⟨by omega,hpush⟩,hvv.symm,by simpa[Cs.app,SV.cells,BO.enc,Ba]using hlive⟩
     . refine AI ?_
       simp[go_sem,w1,Y0,-Int.natCast_add]
       exact⟨i+1,by omega,o,⟨by omega,hm.1,hm.2⟩,⟨Y0,Y0⟩,AB⟩
   . have:i=x.dels.length:=by omega
     subst this
     refine AI ?_
     have g2:AO o (M x.dels.length) G (n+2)=some (.cells [AA y,AA x.move,Aa x.dels,AQ x.layers]):=C8 hGb hA _ _ hG
     simp[go_sem,g2,Y0]
     refine⟨hnm,?_,C8 hGb hA⟩
     have f:=AN.fz' (k:=0) (h:=G) (λj hj=>Ac hGb hj) hA AB
     rw[hMl]at f ⊢;exact f
 obtain⟨D,hD⟩:∃D,D=Fp (x.dels.map (Ba (GQ a) id)):=⟨_,rfl⟩
 rw[hGd]
 clear hGb hG hGd G
 refine BV 0 [(1,AA a),(2,AA id),(3,X),(6,.ptr (n+1) 0),(7,.ptr (n+2) 0)] (L3 x h n (Aa D) (AQ x.layers) y) (λm=>n+3<=m) ?_ (λm hm=>?_)
 . simp[go_sem]
   refine Yj (by simpa using c122 (x.dels.map (Ba (GQ a) id)) (by rw[Y5];exact hsd)) ?_
   rw[<-hD]
   simp[go_sem,Fq,NT,Y0,hm]
 have hsl:=hs.layers
 refine BG 0 (α:=SV×Option Nat) (λq=>[(1,AA a),(2,AA id),(3,X),(6,.ptr (n+1) 0),(7,.ptr (n+2) 0)]) (λq=>C7 (x.layers.map Ax.enc) q.2 (L3 x h n (Aa D) q.1 y)) (λq m=>n+3<=m/\Gj 4 (x.layers.map Ax.enc) q.1 q.2 (n+3) m) ?_ ?_
 . simp[go_sem]
   refine C3 (z:=4) rfl rfl (by kernel_rfl) ?_
   simp[go_sem,Fq]
   cases hL:x.layers with
   | nil=>
    rw[lay0]
    simp[go_sem,Fq,NT]
    exact⟨_,none,⟨hm,.inl ⟨rfl,rfl,_,_,rfl⟩⟩,AB⟩
   | cons b l=>
    rw[Gd (P:=Tryz.prog) (h:=L3 x h n (Aa D) (AQ (b::l)) y) (n:=m) (t:=25) (t2:=25) (el:=164) (z:=4) (es:=(b::l).map Ax.enc) (full:=false) (by simp[go_sem]) (by simp[go_sem]) (by simp[go_sem]) (by simp) (by simp[go_sem]) (by simp[go_sem]) (by simp[go_sem]) (by simp) (by rw[hL]at hsl;simp at hsl ⊢;omega)]
    simp[go_sem,AD,show n+2≠m by omega,Fq]
    refine⟨.sl m 0 4 (l.length+1) false,some m,⟨by omega,.inr ⟨m,false,rfl,by omega,by omega,by simp⟩⟩,λj z e=>?_⟩
    simp only[C7,L3,hset]at e ⊢
    simp only[YC,SV.cells]at e
    split at e
    . rename_i q;rw[if_neg (by omega),if_pos q];exact e
    . rename_i q
      split at e
      . rename_i q2;rw[if_pos q2];exact e
      . rename_i q2;rw[if_neg q2,if_neg q,if_neg q2];exact e
 rintro⟨v4,o4⟩ m ⟨hm,a2⟩
 dsimp only at a2 ⊢
 have L4:=a2.lt
 obtain⟨W,hWd⟩:∃W:List Ax->Hp,∀F,W F=C7 (F.map Ax.enc) o4 (L3 x h n (Aa D) v4 y):=⟨_,λ_=>rfl⟩
 have hW2:∀F,W F (n+2)=some (.cells [AA y,AA x.move,Aa D,v4]):=λF=>by
  rw[hWd]
  cases o4 with
  | none=>exact Fq
  | some j=>have:=L4 j rfl;simp only[C7];rw[AD _ _ (by omega)];exact Fq
 have hW1:∀F,W F (n+1)=some RD:=λF=>by
  rw[hWd]
  cases o4 with
  | none=>exact QI
  | some j=>have:=L4 j rfl;simp only[C7];rw[AD _ _ (by omega)];exact QI
 have hWo:∀F j z,h j=some z->W F j=some z:=λF j z e=>by
  have:=hHb j z e
  have e2:L3 x h n (Aa D) v4 y j=some z:=by unfold L3;rw[AD _ _ (by omega),AD _ _ (by omega)];exact e
  rw[hWd]
  cases o4 with
  | none=>exact e2
  | some j=>have:=L4 j rfl;simp only[C7];rw[AD _ _ (by omega)];exact e2
 have hWl:∀j,o4=some j->∀F,W F j=some (.cells (IP F)):=λj e F=>by subst e;rw[hWd];simp only[C7,AC];rfl
 have hWs:∀j,o4=some j->∀F F',hset (W F) j (some (.cells (IP F')))=W F':=λj e F F'=>by subst e;rw[hWd,hWd];simp only[C7];rw[AY];rfl
 rw[<-hWd]
 clear hWd
 refine Bt 0 [(3,X),(6,.ptr (n+1) 0),(7,.ptr (n+2) 0)] (W (x.layers.map (BL (GQ a) id))) m ?_ (λm4 hm4=>?_)
 . refine Ab 0 [(1,AA a),(2,AA id),(3,X),(6,.ptr (n+1) 0),(7,.ptr (n+2) 0),(11,AA 0)] (W x.layers) m ?_ (λm5 hm5=>?_)
   . simp[go_sem,Y0]
   rcases a2 with⟨_,he,z',f,rfl⟩|⟨j,f,rfl,hj1,hj2,rfl⟩
   . have hd0:x.layers=[]:=by simpa using he
     rw[hd0]
     refine AR (BP 0 (α:=Unit) (λ_=>[(3,X),(6,.ptr (n+1) 0),(7,.ptr (n+2) 0),(11,AA 0)]) (λ_=>W []) (λ_ m'=>m<=m') (λ_=>0) () hm5 ?_ AB ?_)
     . simp[Aj,Y0]
     rintro _ m6 hm6
     refine AI ?_
     simp[go_sem,hW2,Y0,hm6]
   . refine AR (BP 0 (α:=Nat) (λi=>[(1,AA a),(2,AA id),(3,X),(6,.ptr (n+1) 0),(7,.ptr (n+2) 0),(11,AA i)]) (λi=>W (DT (BL (GQ a) id) x.layers i)) (λi m'=>i<=x.layers.length/\m<=m') (λi=>x.layers.length-i) 0 ⟨Y4 _,hm5⟩ ?_ ?_ ?_)
     . simp[Aj,Y0]
     . rw[In];exact AB
     rintro i m6 ⟨hi,hm6⟩
     by_cases hlt:i<x.layers.length
     . have w1:=wS i (by omega)
       have hnx:=Im (BL (GQ a) id) x.layers i hlt
       have hEl:=Jm (BL (GQ a) id) x.layers i (ZG hlt)
       have hget:=Jl (BL (GQ a) id) x.layers i hlt
       obtain⟨d,hd'⟩:∃d,x.layers[i]=d:=⟨_,rfl⟩
       rw[hd']at hnx hget
       generalize hE:DT (BL (GQ a) id) x.layers i=E at hnx hEl hget
       have hget2:(E.map Ax.enc)[i]? = some d.enc:=by rw[Yz,hget];rfl
       obtain⟨g1,g2⟩:=I1 (Ax.E.size E) hget2 (k:=0) (c:=AA d.rev) rfl
       have g3:d.rev=a->((E.map Ax.enc).flatMap SV.cells).take (i*4+0)++AA id::((E.map Ax.enc).flatMap SV.cells).drop (i*4+0+1)=IP (DT (BL (GQ a) id) x.layers (i+1)):=λhp=>by
        rw[Kv (e':=(BL (GQ a) id d).enc) (Ax.E.size E) hget2 (by omega) (by simp[BL,HK,GQ,hp,Ax.enc,SV.cells]),<-hnx,IP,List.map_set]
       have g4:d.rev≠a->DT (BL (GQ a) id) x.layers (i+1)=E:=λhp=>by
        rw[<-hnx,show BL (GQ a) id d=d by simp[BL,HK,GQ,hp]]
        obtain⟨k1,k2⟩:=Y9.1 hget
        rw[<-k2];exact List.set_getElem_self k1
       obtain⟨E2,hE2⟩:∃E2,DT (BL (GQ a) id) x.layers (i+1)=E2:=⟨_,rfl⟩
       rw[hE2]at g3 g4
       rw[show(E.map Ax.enc).flatMap SV.cells=IP E from rfl]at g1 g2 g3
       have hWE:W E j=some (.cells (IP E)):=hWl j rfl E
       simp only[Zj]at g1 g2 g3
       refine Ab 0 [(1,AA a),(2,AA id),(3,X),(6,.ptr (n+1) 0),(7,.ptr (n+2) 0),(11,AA i)] (W E) m ?_ (λm7 hm7=>?_)
       . simp[go_sem,hW2,Y0,hlt,hm6]
       refine AV 0 (α:=Unit) (λ_=>[(1,AA a),(2,AA id),(3,X),(6,.ptr (n+1) 0),(7,.ptr (n+2) 0),(11,AA i)]) (λ_=>W E2) (λ_ m'=>m<=m') (AR ?_) (λ_ m8 hm8=>?_)
       . refine Ab 0 [(1,AA a),(2,AA id),(3,X),(6,.ptr (n+1) 0),(7,.ptr (n+2) 0),(11,AA i),(64,.bool (d.rev==a))] (W E) m ?_ (λm9 hm9=>?_)
         . simp[go_sem,hW2,hWE,hlt,g1,g2,Y0,hm7]
         by_cases hp:d.rev=a
         . refine Ag (b:=true) (by simp[go_sem,hp]) (AI ?_)
           have g3:=g3 hp
           simp[go_sem,hW2,hWE,hlt,g1,g3,hWs j rfl,Y0,hm9]
         . refine Ag (b:=false) (by simp[go_sem,hp]) (AI ?_)
           rw[g4 hp]
           simp[go_sem,Y0,hm9]
       . refine AI ?_
         simp[go_sem,w1,Y0,-Int.natCast_add]
         exact⟨i+1,by omega,⟨by omega,hm8⟩,Y0,by rw[hE2];exact AB⟩
     . have:i=x.layers.length:=by omega
       subst this
       rw[Jk]
       refine AI ?_
       simp[go_sem,hW2,Y0]
       exact hm6
 have hv:∀h',(∀j,o4=some j->h' j=some (.cells (IP (x.layers.map (BL (GQ a) id)))))->Fz h' h 1 v4 (AQ (x.layers.map (BL (GQ a) id))):=λh' hh=>by
  rcases a2 with⟨_,he,z',f,rfl⟩|⟨j,f,rfl,hj1,hj2,rfl⟩
  . have hd0:x.layers=[]:=by simpa using he
    rw[hd0];exact A9 (by simp)
  . have:=Dj (h':=h') (h:=h) (k:=0) (z:=4) (es:=(x.layers.map (BL (GQ a) id)).map Ax.enc) (full:=f) (full':=false) (o:=j) (ho.none (by omega)) (by simp) (hh j rfl) (Ax.E.size _)
    rw[Y5,Y5]at this;rw[Y5];exact this
 have hval:(Hn a id x).enc=.agg [Af x.props,AA y,AA x.move,Aa D,AQ (x.layers.map (BL (GQ a) id))]:=by
  rw[hy,hD];rfl
 obtain⟨s4,t4⟩:=a2.st
 simp only[SV.storable,SV.cells]at s4 t4
 rw[hval]
 refine AI ?_
 have W1:=hW1 (x.layers.map (BL (GQ a) id))
 have W2:=hW2 (x.layers.map (BL (GQ a) id))
 have WL:=λj e=>hWl j e (x.layers.map (BL (GQ a) id))
 have WO:=hWo (x.layers.map (BL (GQ a) id))
 rw[hX]
 simp[go_sem,W1,W2,AC,AF.flat]
 refine Dh (v:=.agg [Af x.props,AA y,AA x.move,Aa D,AQ (x.layers.map (BL (GQ a) id))]) 2 ho (λj z e=>by have:=hHb j z e;rw[AD _ _ (by omega)];exact WO j z e) (.inr ⟨Y0,Y0,Y0,Y0,hv _ (λj e=>?_),trivial⟩) (by simp[closed,closedL,E8.E.closedL,BO.E.closedL,Ax.E.closedL,-List.map_map])
 have:=L4 j e
 rw[AD _ _ (by omega)];exact WL j e
def JA (l:List BO):Prop:=l.Pairwise λa b=>a.rev<b.rev
theorem Oa:∀{l:List BO} {x y:BO},y∈Fc l x->y=x\/y∈l
 | [],x,y,h=>by simpa[Fc]using h
 | z::l,x,y,h=>by
  rw[Fc]at h
  split at h
  . rcases Yg.1 h with rfl|h
    . exact .inr (by simp)
    . rcases Oa h with h|h
      . exact .inl h
      . exact .inr (by simp[h])
  . split at h
    . exact .inr h
    . rcases Yg.1 h with rfl|h
      . exact .inl rfl
      . exact .inr h
theorem OW:∀{l:List BO} {x:BO},JA l->JA (Fc l x)
 | [],x,_=>by simp[Fc,JA]
 | z::l,x,h=>by
  obtain⟨h1,h2⟩:=Zn.1 h
  rw[Fc]
  split
  . rename_i e
    refine Zn.2 ⟨λy hy=>?_,OW h2⟩
    rcases Oa hy with rfl|hy
    . exact e
    . exact h1 y hy
  . split
    . exact h
    . refine Zn.2 ⟨λy hy=>?_,h⟩
      rcases Yg.1 hy with rfl|hy
      . omega
      . have:=h1 y hy;omega
theorem OY:∀{l:List BO} {x:BO},(∀y∈l,y.rev≠x.rev)->∀y,y∈Fc l x↔y=x\/y∈l
 | [],x,_,y=>by simp[Fc]
 | z::l,x,h,y=>by
  rw[Fc]
  split
  . rw[Yg,OY (λy hy=>h y (by simp[hy])),Yg]
    exact⟨λg=>g.elim (λe=>.inr (.inl e)) λg=>g.elim .inl λe=>.inr (.inr e),λg=>g.elim (λe=>.inr (.inl e)) λg=>g.elim .inl λe=>.inr (.inr e)⟩
  . split
    . rename_i e;exact absurd e (h z (by simp))
    . simp
theorem MX:∀(l o:List BO),JA o->JA (l.foldl Fc o)
 | [],_,h=>h
 | _x::l,_o,h=>MX l _ (OW h)
theorem MZ:∀(l o:List BO),l.Pairwise (λa b=>a.rev≠b.rev)->(∀x∈l,∀y∈o,y.rev≠x.rev)->∀y,y∈l.foldl Fc o↔y∈o\/y∈l
 | [],o,_,_,y=>by simp
 | x :: l, o, h, g, y => by
  obtain⟨h1,h2⟩:=Zn.1 h
  have hx:=OY (g x (by simp))
  rw[YT,MZ l _ h2 (λz hz w hw=>by
   rcases(hx w).1 hw with rfl|hw
   . exact h1 z hz
   . exact g z (by simp[hz]) w hw),hx y,Yg]
  exact⟨λg=>g.elim (λg=>g.elim (λe=>.inr (.inl e)) .inl) λe=>.inr (.inr e),λg=>g.elim (λe=>.inl (.inr e)) λg=>g.elim (λe=>.inl (.inl e)) .inr⟩
theorem Od (l:List BO):JA (Fp l):=MX l [] (by simp[JA])
theorem Oe {l:List BO} (h:l.Pairwise (λa b=>a.rev≠b.rev)) (y:BO):y∈Fp l↔y∈l:=by
 rw[Fp,MZ l [] h (by simp)];simp
theorem Rz:∀{a b:List BO},JA a->JA b->(∀y,y∈a↔y∈b)->a=b
 | [],[],_,_,_=>rfl
 | [],y::_,_,_,h=>absurd ((h y).2 (by simp)) (by simp)
 | x::_,[],_,_,h=>absurd ((h x).1 (by simp)) (by simp)
 | x :: a, y :: b, ha, hb, h => by
  obtain⟨a1,a2⟩:=Zn.1 ha
  obtain⟨b1,b2⟩:=Zn.1 hb
  have e:x=y:=by
   rcases Yg.1 ((h x).1 (by simp))with e|e
   . exact e
   . rcases Yg.1 ((h y).2 (by simp))with g|g
     . exact g.symm
     . have:=b1 x e;have:=a1 y g;omega
  subst e
  rw[Rz a2 b2 λz=>?_]
  constructor
  . intro hz
    rcases Yg.1 ((h z).1 (by simp[hz]))with e|e
    . subst e;have:=a1 z hz;omega
    . exact e
  . intro hz
    rcases Yg.1 ((h z).2 (by simp[hz]))with e|e
    . subst e;have:=b1 z hz;omega
    . exact e
def HV:List BO->BO->List BO
 | [],x=>[x]
 | a::A,x=>if x.rev<a.rev then a::HV A x else x::a::A
theorem Mh:∀(A:List BO) (x:BO),(HV A x).length=A.length+1
 | [],_=>rfl
 | a::A,x=>by rw[HV];split<;>simp[Mh A x]
theorem Ji:∀{A:List BO} {x y:BO},y∈HV A x↔y=x\/y∈A
 | [],x,y=>by simp[HV]
 | a::A,x,y=>by
  rw[HV]
  split
  . rw[Yg,Ji,Yg]
    exact⟨λg=>g.elim (λe=>.inr (.inl e)) λg=>g.elim .inl λe=>.inr (.inr e),λg=>g.elim (λe=>.inr (.inl e)) λg=>g.elim .inl λe=>.inr (.inr e)⟩
  . simp
theorem Mg:∀{A:List BO} {x:BO},A.Pairwise (λa b=>b.rev<a.rev)->(∀y∈A,y.rev≠x.rev)->(HV A x).Pairwise λa b=>b.rev<a.rev
 | [],x,_,_=>by simp[HV]
 | a::A,x,h,g=>by
  obtain⟨h1,h2⟩:=Zn.1 h
  rw[HV]
  split
  . rename_i e
    refine Zn.2 ⟨λy hy=>?_,Mg h2 λy hy=>g y (by simp[hy])⟩
    rcases Ji.1 hy with rfl|hy
    . exact e
    . exact h1 y hy
  . refine Zn.2 ⟨λy hy=>?_,h⟩
    have:=g a (by simp)
    rcases Yg.1 hy with rfl|hy
    . omega
    . have:=h1 y hy;omega
theorem P5 (A B:List BO) (x:BO):G5 (A++x::B) A.length=x:=by simp[G5,List.getD]
theorem O2:∀(A:List BO) (x:BO) (B:List BO),Ew (A.reverse++x::B) A.length=(HV A x).reverse++B
 | [],x,B=>rfl
 | a :: A, x, B => by
  have e1:(a::A).reverse++x::B=A.reverse++a::x::B:=by simp
  have d1:G5 (A.reverse++a::x::B) (A.length+1)=x:=by
   have:=P5 (A.reverse++[a]) B x
   simpa using this
  have d2:G5 (A.reverse++a::x::B) A.length=a:=by
   have:=P5 A.reverse (x::B) a
   simpa using this
  rw[e1,Yy,Ew,d1,d2,HV]
  split
  . have e2:H7 (A.reverse++a::x::B) A.length=A.reverse++x::a::B:=by
     unfold H7
     rw[d1,d2]
     have h1:(A.reverse++a::x::B).set (A.length+1) a=A.reverse++a::a::B:=by
      rw[ZP _ _ (by simp)];simp
     rw[h1,ZP _ _ (by simp)];simp
    rw[e2,O2 A x (a::B)];simp
  . simp
theorem Mz:∀(i:Nat) (l:List BO),i<=l.length->l.Pairwise (λa b=>a.rev≠b.rev)->∃A:List BO,Ch l i=A.reverse++l.drop i/\A.length=i/\A.Pairwise (λa b=>b.rev<a.rev)/\∀y,y∈A↔y∈l.take i
 | 0,l,_,_=>⟨[],by simp[Ch],rfl,List.Pairwise.nil,by simp⟩
 | i+1,l,hi,hp=>by
  obtain⟨A,h1,h2,h3,h4⟩:=Mz i l (by omega) hp
  have hlt:i<l.length:=by omega
  refine⟨HV A l[i],?_,by rw[Mh,h2],Mg h3 λy hy=>?_,λy=>?_⟩
  . rw[Ch,h1,YA hlt]
    have:=O2 A l[i] (l.drop (i+1))
    rw[h2]at this;exact this
  . obtain⟨j,hj,e⟩:=List.mem_iff_getElem.1 ((h4 y).1 hy)
    rw[List.getElem_take]at e
    rw[X8]at hj
    rw[<-e]
    exact List.pairwise_iff_getElem.1 hp j i (by omega) hlt (by omega)
  . rw[Ji,h4,Y2 hlt,Y8,Yk]
    exact Or.comm
theorem Q8 {l:List BO} (hp:l.Pairwise (λa b=>a.rev≠b.rev)):JA (Ch l l.length):=by
 obtain⟨A,h1,_,h3,_⟩:=Mz l.length l (Y1 _) hp
 rw[h1,List.drop_length,Zi,JA,List.pairwise_reverse];exact h3
theorem Se {l:List BO} (hp:l.Pairwise (λa b=>a.rev≠b.rev)):Ch l l.length=Fp l:=
 Rz (Q8 hp) (Od l) λy=>by rw[IL l _ (Y1 _),Oe hp]
theorem Ug {l:List BO} (h:JA l):l.Pairwise λa b=>a.rev≠b.rev:=
 List.Pairwise.imp (R:=λa b:BO=>a.rev<b.rev) (S:=λa b:BO=>a.rev≠b.rev) (fun {a b} g=>by have:a.rev<b.rev:=g;omega) h
section
variable {a id : Int}
theorem U1 {l:List BO} (h:l.Pairwise λa b=>a.rev≠b.rev) (hn:id=a\/∀d∈l,d.rev≠id):(l.map (Ba (GQ a) id)).Pairwise λa b=>a.rev≠b.rev:=by
 rw[List.pairwise_map]
 induction h with
 | nil=>exact List.Pairwise.nil
 | @cons x l h1 h2 ih=>
  refine List.Pairwise.cons (λy hy=>?_) (ih (hn.imp_right λg d hd=>g d (by simp[hd])))
  have e:=h1 y hy
  have n1:=λg:id≠a=>(hn.resolve_left g) x (by simp)
  have n2:=λg:id≠a=>(hn.resolve_left g) y (by simp[hy])
  simp only[Ba,HK,GQ,beq_iff_eq]
  by_cases c:id=a
  . subst c;split<;>split<;>omega
  . have:=n1 c;have:=n2 c
    split<;>split<;>omega
structure Tp (a id:Int) (h:AF):Prop where
 inc:JA h.dels
 dels:id=a\/∀d∈h.dels,d.rev≠id
 ins:id=a\/h.ins≠id
 lays:id=a\/∀d∈h.layers,d.rev≠id
theorem TS {h:AF} (H:Tp a id h) (h0:a≠0):Hn a id h=Ht (GQ a) id h:=by
 have e:Ch (h.dels.map (Ba (GQ a) id)) h.dels.length=Fp (h.dels.map (Ba (GQ a) id)):=by
  have:=Se (U1 (Ug H.inc) H.dels)
  rwa [Y5]at this
 unfold Hn Ht Fd
 rw[e]
 congr 1
 by_cases c:h.ins=a
 . simp[c,GQ,h0]
 . simp[c,GQ]
end
mutual
theorem us_mh {g:AF->AF} {f:Int->Int} (hg:∀h y,y∈h.all->f y∈(g h).all):∀(x:AE) (y:Int),y∈x.us->f y∈(AE.mh g x).us
 | .mk k c i t h l r,y,hy=>by
  rw[AE.mh,AE.us]
  rw[AE.us]at hy
  rcases Y8.1 hy with hy|hy
  . exact Zv _ (hg h y hy)
  . refine Zr _ ?_
    by_cases k6:k=6
    . rw[if_pos k6]at hy ⊢;exact Pv hg l y hy
    . rw[if_neg k6]at hy ⊢
      by_cases k7:k=7
      . rw[if_pos k7]at hy ⊢;exact QT hg r y hy
      . rw[if_neg k7]at hy;cases hy
theorem Pv {g:AF->AF} {f:Int->Int} (hg:∀h y,y∈h.all->f y∈(g h).all):∀(l:List AE) (y:Int),y∈AE.usL l->f y∈AE.usL (AE.mhL g l)
 | [],y,hy=>by rw[AE.usL]at hy;cases hy
 | x::l,y,hy=>by
  rw[AE.mhL,AE.usL]
  rw[AE.usL]at hy
  rcases Y8.1 hy with hy|hy
  . exact Zv _ (us_mh hg x y hy)
  . exact Zr _ (Pv hg l y hy)
theorem VG {g:AF->AF} {f:Int->Int} (hg:∀h y,y∈h.all->f y∈(g h).all):∀(x:AW) (y:Int),y∈x.us->f y∈(AW.mh g x).us
 | .mk h c,y,hy=>by
  rw[AW.mh,AW.us]
  rw[AW.us]at hy
  rcases Y8.1 hy with hy|hy
  . exact Zv _ (hg h y hy)
  . exact Zr _ (QS hg c y hy)
theorem QT {g:AF->AF} {f:Int->Int} (hg:∀h y,y∈h.all->f y∈(g h).all):∀(l:List AW) (y:Int),y∈AW.usL l->f y∈AW.usL (AW.mhL g l)
 | [],y,hy=>by rw[AW.usL]at hy;cases hy
 | x::l,y,hy=>by
  rw[AW.mhL,AW.usL]
  rw[AW.usL]at hy
  rcases Y8.1 hy with hy|hy
  . exact Zv _ (VG hg x y hy)
  . exact Zr _ (QT hg l y hy)
theorem VF {g:AF->AF} {f:Int->Int} (hg:∀h y,y∈h.all->f y∈(g h).all):∀(x:AL) (y:Int),y∈x.us->f y∈(AL.mh g x).us
 | .mk i h l,y,hy=>by
  rw[AL.mh,AL.us]
  rw[AL.us]at hy
  rcases Y8.1 hy with hy|hy
  . exact Zv _ (hg h y hy)
  . exact Zr _ (Pv hg l y hy)
theorem QS {g:AF->AF} {f:Int->Int} (hg:∀h y,y∈h.all->f y∈(g h).all):∀(l:List AL) (y:Int),y∈AL.usL l->f y∈AL.usL (AL.mhL g l)
 | [],y,hy=>by rw[AL.usL]at hy;cases hy
 | x::l,y,hy=>by
  rw[AL.mhL,AL.usL]
  rw[AL.usL]at hy
  rcases Y8.1 hy with hy|hy
  . exact Zv _ (VF hg x y hy)
  . exact Zr _ (QS hg l y hy)
end
theorem Uh {l:List BO} (h:∀i (hi:i<l.length),0<i->l[i-1].rev<l[i].rev):JA l:=by
 refine List.pairwise_iff_getElem.2 λi j hi hj hij=>?_
 induction j with
 | zero=>omega
 | succ j ih=>
  have h1:=h (j+1) hj (by omega)
  simp only[Nat.add_sub_cancel]at h1
  rcases YX i j with c|c
  . have:=ih (by omega) c;omega
  . have:i=j:=by omega
    subst this;exact h1
theorem SU {m2:List Int} {a id:Int} (hid:id=a\/id∉m2) (h0:id≠0) {h:AF} (H:Ce m2 h):Tp a id h where
 inc:=Uh H.inc
 dels:=hid.imp_right λg d hd e=>g (e▸H.dels d hd)
 ins:=hid.imp_right λg e=>H.ins.elim (λz=>h0 (by rw[<-e,z])) λz=>g (e▸z)
 lays:=hid.imp_right λg d hd e=>g (e▸H.layers d hd)
def hpR (m2:List Int) (h:AF):Prop:=Ix m2 h/\Ce m2 h
section
variable {N K : Nat} {d : AH} {m2 : List Int}
theorem SL (hm2:m2=BZ [] (d.revs.map (·.id))) (hd:GY N d) (hl:DM (Ix m2) K N d.flow):wf (hpR m2) (λi=>i ≠ -1) N d.flow:=
 PB (hm2▸hd.flow) hl λi hi=>by have:=(hd.ids i hi).1;omega
theorem Up (hm2:m2=BZ [] (d.revs.map (·.id))) {id:Int}:id∈m2↔∃r∈d.revs,r.id=id:=by
 rw[hm2,Kp];simp
end
end Go.Proofs.YtgakninlhfkkmaaGreat.Sh
