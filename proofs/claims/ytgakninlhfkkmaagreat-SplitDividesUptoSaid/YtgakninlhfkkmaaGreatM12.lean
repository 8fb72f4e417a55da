/- A part of the proof (part 12 of 15). -/
import Derived.Test.YtgakninlhfkkmaaGreatM11
import Derived.Lib.Overlaps
import Derived.Lib.AppendZerosOnto
namespace Go.Proofs.YtgakninlhfkkmaaGreat.Sh
open Proofs
set_option maxRecDepth 10000
def Sj:Tr:=.pure 0 (.pure 1 (.pure 2 (.pure 4 (.pure 5 (.pure 6 (.two 3 7 (.one 7 (.one 8 (.pure 9 (.pure 10 (.pure 11 (.pure 12 (.pure 13 (.one 14 (.pure 15 (.pure 16 .nil)))))))))) (.two 3 8 (.one 8 (.pure 9 (.pure 10 (.pure 11 (.pure 12 (.pure 13 (.one 14 (.pure 15 (.pure 16 .nil))))))))) (.one 3 (.pure 9 (.pure 10 (.pure 11 (.pure 12 (.pure 13 (.one 14 (.pure 15 (.pure 16 .nil))))))))))))))))
def trSb:Tr:=.pure 0 (.pure 1 (.pure 2 (.pure 4 (.pure 5 (.pure 6 (.two 3 7 (.one 7 (.one 8 (.pure 9 .nil))) (.one 3 (.one 8 (.pure 9 .nil)))))))))
def trSc:Tr:=.pure 0 (.pure 1 (.pure 2 (.pure 3 (.pure 4 (.pure 5 (.pure 7 (.pure 8 (.pure 9 (.two 6 10 (.one 10 (.one 11 (.one 12 .nil))) (.one 6 (.one 11 (.one 12 .nil))))))))))))
def SnR (s:ByteArray) (z:Int×Int):Int->List UInt8->List Bs->Int->Int->Prop:=λat_ bs ps _ e=>
 at_=z.1/\e=z.2/\0<=at_/\at_<=s.size/\(e=0->(bs.length:Int)<=at_/\(ps.length:Int)<=2*at_)/\(bs.length:Int)<=at_+1/\(ps.length:Int)<=2*at_+2
def SnI (G:Hp) (q B n:Nat) (s:ByteArray) (z:Hp×Int×Int) (m:Nat):Prop:=Sy G q B n s (SnR s z.2) z.1 m
def SnM (s:ByteArray) (z:Hp×Int×Int):Nat:=2*(s.size-z.2.1).toNat+(if z.2.2=0 then 1 else 0)
set_option maxHeartbeats 2000000 in
theorem d320 {G:Hp} {n q B:Nat} {s:ByteArray} {pl:Int} (S:RF G q B s 0 [] [] pl 0) (hs:s.size<=1024):
 BM Tryz.prog 320 [.ptr q 0] G n (Ts q B s G n λ_ _ ps' _ _=>ps'.length<=1048576):=by
 refine Dg Tryz.func320 rfl λho=>?_
 refine AV 0 (α:=Hp×Int×Int) (λ_=>[(0,.ptr q 0)]) (λz=>z.1) (SnI G q B n s) ?_ (λz m hm=>?_)
 . refine AR (BP 0 (α:=Hp×Int×Int) (λ_=>[(0,.ptr q 0)]) (λz=>z.1) (SnI G q B n s) (SnM s) (G,0,0) ⟨Y1 _,0,[],[],pl,0,⟨rfl,rfl,by omega,by simp,by simp,by simp,by simp⟩,S,λ_ _ _ h=>h⟩ ?_ AB ?_)
   . simp[go_sem,Aj,Y0]
   rintro⟨z,a0,e0⟩ m ⟨hm,at_,bs,ps,pl2,e,⟨h1,h2,h3,h4,h5,h6,h7⟩,T,hk⟩
   dsimp only at h1 h2 T hk ⊢
   subst h1;subst h2
   obtain⟨p,ob,op,T0⟩:=id T
   have hc:=T0.cells
   by_cases c:at_<s.size/\e=0
   . obtain⟨c1,rfl⟩:=c
     have hl:=h5 rfl
     have hbl:bs.length<=1024/\ps.length<=2048:=by omega
     refine Bt 0 [(0,.ptr q 0)] z m ?_ (λm3 hm3=>?_)
     . refine AV 0 (α:=Unit) (λ_=>[(0,.ptr q 0),(18,.bool true)]) (λ_=>z) (λ_ m2=>m<=m2) (B7 Sj rfl (by kernel_rfl) (by kernel_rfl) ?_) (λ_ m2 hm2=>?_)
       . simp[go_sem,Sj,hc,c1,Y0]
       refine AI ?_
       simp[go_sem,Y0,hm2]
     refine AR ?_
     have hkl:at_.toNat<s.size:=by omega
     obtain⟨x,hx⟩:∃x,s[at_.toNat]'hkl=x:=⟨_,rfl⟩
     have hgx:s[at_.toNat]? = some x:=by rw[RX hkl,hx]
     refine Bt 0 [(0,.ptr q 0)] z m ?_ (λm4 hm4=>?_)
     . refine AV 0 (α:=Bx) (λb=>[(0,.ptr q 0),(28,.bool b.b)]) (λ_=>z) (λ_ m4=>m3<=m4) (B7 trSb rfl (by kernel_rfl) (by kernel_rfl) ?_) (λb m4 hm4=>?_)
       . simp[go_sem,trSb,hc,h3,hgx,Y0]
         exact⟨⟨_⟩,rfl⟩
       obtain⟨b⟩:=b
       refine AI ?_
       cases b with
       | false=>simp[go_sem,Y0];omega
       | true=>
        simp[go_sem]
        refine Ys (d328 T h3 c1 (by omega) (by omega) (by omega)) ?_
        rintro v H' n' ⟨a1,a2,a3,a4,a5,⟨hor,r2,r3⟩,r6,r7,r8⟩
        simp[go_sem,Y0]
        have hk2:∀o y,o<B->G o=some y->H' o=some y:=λo y g1 g2=>r7 o y g1 (hk o y g1 g2)
        refine⟨H',a1,a5,?_,⟨by omega,a1,a2,a3,a4,a5,⟨rfl,rfl,by omega,by omega,λg=>by omega,by omega,by omega⟩,r6,hk2⟩,AB⟩
        rcases hor with⟨g1,g2,rfl⟩|⟨rfl,rfl⟩
        . simp[SnM];omega
        . simp[SnM]
     refine NE λhom=>?_
     refine AV 0 (α:=Hp) (λ_=>[(0,.ptr q 0)]) (λy=>y) (Sy z q B m s λat' bs' ps' pl' e'=>at'=at_/\bs'=bs++[x]/\ps'=ps/\pl'=pl2/\e'=0) (B7 trSc rfl (by kernel_rfl) (by kernel_rfl) ?_) (λy m5 hm5=>?_)
     . simp[go_sem,trSc,hc,h3,hgx]
       refine⟨?_,?_⟩ <;>
       . refine Ys (T3 T hom (by omega) x) ?_
         rintro v H' n' hq
         simp[go_sem,Y0]
         exact⟨H',hq.st hm4,AB⟩
     obtain⟨hm5,a1,a2,a3,a4,a5,⟨rfl,rfl,rfl,rfl,rfl⟩,⟨p1,ob1,op1,T1⟩,hk1⟩:=hm5
     have hT:=T1.cells
     have w1:IntKind.i64.wrap (a1+1)=a1+1:=by rw[DR]<;>omega
     refine AI ?_
     simp[go_sem,hT,w1,Y0]
     refine⟨_,a1+1,0,by simp[SnM];omega,⟨by omega,a1+1,bs++[x],a3,a4,0,⟨rfl,rfl,by omega,by omega,λ_=>by simp;omega,by simp;omega,by omega⟩,T1.upd (a1+1) a4 0,λo w g1 g2=>?_⟩,AB⟩
     have:=T1.le
     exact(AD _ _ (show o≠q by omega)).trans (hk1 o w g1 (hk o w g1 g2))
   . refine CB 0 [] z (λ_=>False) ?_ (λ_ hF=>hF.elim)
     refine AV 0 (α:=Unit) (λ_=>[(0,.ptr q 0),(18,.bool false)]) (λ_=>z) (λ_ m2=>m<=m2) (B7 Sj rfl (by kernel_rfl) (by kernel_rfl) ?_) (λ_ m2 hm2=>?_)
     . by_cases c1:at_<s.size
       . have c2:¬e=0:=λg=>c ⟨c1,g⟩
         have c3:(e==0)=false:=by simpa using c2
         simp[go_sem,Sj,hc,c1,c3,Y0]
       . simp[go_sem,Sj,hc,c1,Y0]
     refine AI ?_
     simp[go_sem,Y0]
     exact⟨z,⟨at_,e,by omega,at_,bs,ps,pl2,e,⟨rfl,rfl,h3,h4,h5,h6,h7⟩,T,hk⟩,AB⟩
 . obtain⟨z,a0,e0⟩:=z
   obtain⟨hm,at_,bs,ps,pl2,e,⟨h1,h2,h3,h4,h5,h6,h7⟩,T,hk⟩:=hm
   dsimp only at h1 h2 T hk ⊢
   refine BG 0 (α:=Hp) (λ_=>[(0,.ptr q 0)]) (λy=>y) (Sy z q B m s λ_ _ ps' _ _=>ps'.length<=1048576) ?_ (λy m2 hm2=>?_)
   . simp[go_sem]
     refine Ys (d330 T (by omega) (by omega)) ?_
     rintro v H' n' ⟨b1,b2,b3,b4,b5,⟨r1,r2,r3,r4,r5⟩,r6,r7,r8⟩
     simp[go_sem,Y0]
     exact⟨H',⟨r8,b1,b2,b3,b4,b5,by dsimp only;omega,r6,r7⟩,AB⟩
   obtain⟨hm2,b1,b2,b3,b4,b5,hps,⟨p1,ob1,op1,T1⟩,hk1⟩:=hm2
   have hc:=T1.cells
   refine AI ?_
   by_cases c1:b5=0
   . by_cases c2:9<b4
     . simp[go_sem,hc,c1,c2]
       refine .inl ⟨b1,b2,b3,b4,9,hps,T1.upd b1 b4 9,λo y g1 g2=>?_,by omega⟩
       have:=T1.le
       rw[AD _ _ (by omega)];exact hk1 o y g1 (hk o y g1 g2)
     . simp[go_sem,hc,c1,c2]
       exact .inl ⟨b1,b2,b3,b4,b5,hps,⟨p1,ob1,op1,T1⟩,λo y g1 g2=>hk1 o y g1 (hk o y g1 g2),by omega⟩
   . simp[go_sem,hc,c1]
     exact .inl ⟨b1,b2,b3,b4,b5,hps,⟨p1,ob1,op1,T1⟩,λo y g1 g2=>hk1 o y g1 (hk o y g1 g2),by omega⟩
theorem c319 (b:Int):PC 319 [IR b] (.bool (decide (b<32)||decide (b=127))):=by
 intro h n
 refine gq Tryz.func319 rfl λho=>?_
 by_cases c:b<32
 . simp[go_sem,c]
   exact A3 ho rfl rfl
 . simp[go_sem,c]
   exact A3 ho rfl (by by_cases c2:b=127<;>simp[c2])
def PaT (v:SV):Prop:=∃(ps:List Bs) (e:Int),v=.tup [.imm 3 (ps.map Bs.enc) false,AA e]/\ps.length<=1048576
def trPr:Tr:=.pure 0 (.pure 1 (.pure 2 (.pure 4 (.one 3 (.pure 5 .nil)))))
theorem t302 (s:ByteArray) (hs:s.size<=1048576):TC 302 [.str s] PaT:=by
 intro h n
 refine Dg Tryz.func302 rfl λho=>?_
 have out:∀(H:Hp) (m:Nat) (e:Int),(∀j y,h j=some y->H j=some y)->Bz n H m (.tup [.imm 0 [] true,AA e]) (λv h' n'=>PaT v/\h'=h/\n'=n):=λH m e hh=>
  UB 2 ho hh (v:=.tup [.imm 3 [] false,AA e]) (.inr ⟨A9 (by simp),Y0,trivial⟩) (by simp[closed,closedL]) ⟨[],e,rfl,by simp⟩
 refine Ab 0 [(0,.str s)] h n ?_ (λm hm=>?_)
 . simp[go_sem,Y0]
 refine AV 0 (α:=Unit) (λ_=>[(0,.str s)]) (λ_=>h) (λ_ m=>n<=m/\s.size<=64) (AR ?_) (λ_ m hm=>?_)
 . by_cases a1:(64:Int)<s.size
   . refine AI ?_
     simp[go_sem,a1]
     exact out _ _ _ AB
   have hl:s.size<=64:=by omega
   refine AI ?_
   simp[go_sem,a1]
   refine(PO s (by omega)).use ?_
   cases CW s with
   | false=>
    simp[go_sem]
    exact out _ _ _ AB
   | true=>
   simp[go_sem]
   have hby:∀b:List UInt8,b.map EC=(b.map λx=>(x.toNat:Int)).map IR:=λb=>by rw[List.map_map];rfl
   refine Qt (s:=s) (e:=5) rfl (by simp[go_sem]) (by simp[go_sem]) (by simp[go_sem]) rfl ?_
   rw[hby]
   have hlen:s.data.toList.length=s.size:=by rw[Zq];rfl
   have h318:=c318 (s.data.toList.map λx=>(x.toNat:Int)) (by simp[hlen];omega) 319 [] [] (λi=>match(s.data.toList.map λx=>(x.toNat:Int))[i]? with|some b=>decide (b<32)||decide (b=127)|none=>false) (λi hi=>by rw[Yr hi];exact c319 _)
   generalize QW _ _=b at h318
   generalize(s.data.toList.map λx=>(x.toNat:Int)).map IR=L at h318 ⊢
   simp[go_sem]
   refine Yj h318 ?_
   cases b with
   | true=>
    simp[go_sem]
    exact out _ _ _ AB
   | false=>
    simp[go_sem,Y0,hm,hl]
 obtain⟨hm,hl⟩:=hm
 refine NE λhom=>?_
 refine BG 0 (α:=Hp) (λ_=>[(4,.ptr m 0)]) (λz=>z) (λz m2=>m<m2/\RF z m m s 0 [] [] 0 0/\∀o y,h o=some y->z o=some y) ?_ (λz m2 hm2=>?_)
 . simp[go_sem,Y0]
   exact⟨_,⟨⟨.nilp,none,none,Y1 _,AC _ _ _,.inl rfl,λ_=>rfl,by simp,λ_=>rfl,by simp⟩,AK (λj y e=>(hom j y e).1) AB⟩,AB⟩
 obtain⟨hm2,S,hk⟩:=hm2
 refine AV 0 (α:=Hp) (λ_=>[(4,.ptr m 0)]) (λy=>y) (Sy z m m m2 s λ_ _ ps' _ _=>ps'.length<=1048576) ?_ (λy m3 hm3=>?_)
 . refine BG 0 (α:=Hp) (λ_=>[(4,.ptr m 0)]) (λy=>y) (Sy z m m m2 s λ_ _ ps' _ _=>ps'.length<=1048576) ?_ (λy m3 hm3=>?_)
   . simp[go_sem]
     refine Ys (d320 S (by omega)) ?_
     rintro v H' n' hq
     simp[go_sem,Y0]
     exact⟨H',hq.st (Y1 _),AB⟩
   obtain⟨hm3,b1,b2,ps,b4,e,hps,⟨p1,ob1,op1,T⟩,hk1⟩:=hm3
   have hc:=T.cells
   have hkk:∀o w,h o=some w->y o=some w:=λo w g=>hk1 o w (hom o w g).1 (hk o w g)
   by_cases c1:e=0
   . refine AI ?_
     simp[go_sem,hc,c1,Y0]
     exact⟨y,⟨by omega,b1,b2,ps,b4,e,hps,⟨p1,ob1,op1,T⟩,hk1⟩,AB⟩
   . have c2:(e !=0)=true:=by simpa using c1
     refine BV 0 [(4,.ptr m 0),(26,.bool true)] y (λ_=>True) ?_ (λm4 _=>?_)
     . simp[go_sem,hc,c2,Y0]
     refine Ag (b:=true) (by simp[go_sem]) ?_
     simp only[if_true]
     refine AV 0 (α:=Unit) (λ_=>[(2,.imm 0 [] true),(3,AA e)]) (λ_=>y) (λ_ _=>True) (B7 trPr rfl (by kernel_rfl) (by kernel_rfl) ?_) (λ_ m5 _=>?_)
     . simp[go_sem,trPr,hc,Y0]
     refine AI ?_
     simp[go_sem]
     exact out _ _ _ hkk
 obtain⟨hm3,b1,b2,ps,b4,e,hps,⟨p1,ob1,op1,T⟩,hk1⟩:=hm3
 have hc:=T.cells
 have hkk:∀o w,h o=some w->y o=some w:=λo w g=>hk1 o w (hom o w g).1 (hk o w g)
 refine AI ?_
 simp[go_sem,hc]
 have hA:A7 n (m3+(op1.getD 0)+1) 3 op1 (ps.map Bs.enc):=⟨λe=>by rw[T.o0 e];rfl,λj e=>⟨by have:=(T.o1 j e).1;omega,by rw[e];simp;omega⟩,Bs.size ps⟩
 have hh:∀j w,AO op1 (ps.map Bs.enc) h j=some w->y j=some w:=λj w g=>by
  cases op1 with
  | none=>exact hkk j w g
  | some i=>
   simp only[AO,hset]at g
   split at g
   . rename_i hji;subst hji;rw[(T.o1 j rfl).2.2.2];exact g
   . exact hkk j w g
 exact UB 2 ho hkk (v:=.tup [.imm 3 (ps.map Bs.enc) false,AA 0]) (.inr ⟨AN.fz ho hA hh,Y0,trivial⟩) (by simp[closed,closedL];exact DS.2 λs hs=>by obtain⟨x,_,rfl⟩:=Yp.1 hs;rfl) ⟨ps,0,rfl,hps⟩
theorem c304 (p:Bs) (k:Int):PC 304 [p.enc,.iptr [AA k]] (.bool (decide (k<p.level))):=by
 intro h n
 refine gq Tryz.func304 rfl λho=>?_
 simp[go_sem,Bs.enc,AC]
 exact Au ho (AP ho (Y1 _) AB) rfl rfl
theorem t271 (s:ByteArray) (hs:s.size<=1048576) (k:Int):TC 271 [.str s,AA k] FC:=by
 intro h n
 refine Dg Tryz.func271 rfl λho=>?_
 have hHb:=ho.lt
 have out:∀(e:Int) (m:Nat),Bz n h m (AA e) (λv h' n'=>FC v/\h'=h/\n'=n):=λe m=>GL ho AB (by simp[closed]) ⟨e,rfl⟩
 refine Ab 1 [(0,.str s),(3,.iptr [AA k])] h n ?_ (λm hm=>?_)
 . simp[go_sem,Y0]
   exact⟨AT (Ac hHb (Y1 _)) (AC _ _ _),AK hHb AB⟩
 refine Bt 0 [(0,.str s),(3,.iptr [AA k])] h n (AI ?_) (λm hm=>?_)
 . by_cases a1:k<1
   . simp[go_sem,a1];exact out _ _
   by_cases a2:9<k
   . simp[go_sem,a1,a2];exact out _ _
   simp[go_sem,a1,a2,Y0,hm]
 refine AI ?_
 simp[go_sem]
 refine Xi (t302 s hs) ?_
 rintro v ⟨ps,e,rfl,hps⟩
 by_cases c:e=0
 . have h303:=c303 ps hps 304 [] [.iptr [AA k]] (λi=>match ps[i]? with|some p=>decide (k<p.level)|none=>false) (λi hi=>by rw[Yr hi];exact c304 _ k)
   generalize QW _ _=b at h303
   simp[go_sem,c]
   refine Yj h303 ?_
   cases b<;>simp[go_sem]<;>exact out _ _
 . have c2:(e==0)=false:=by simpa using c
   simp[go_sem,c2]
   exact out _ _
theorem Jb {E:Br} {ops:Array Oper} {K:SA->Hp->Nat->Prop} {sa:SA} {h:Hp} {n:Nat} {b:Bool} {e:Int} {rest:List Oper} {tr:List CL} {dst:Option Tmp}
 (hk:∀r:Int,JB E Tryz.prog ops K rest tr sa { dst:=dst,val:=AA r } h n):Bo E Tryz.prog ops K sa h n 87 [.bool b,AA e] rest tr dst:=
 Z6 _ _ _ _ _ _ (I0 b e) (hk _)
theorem P2 {E:Br} {ops:Array Oper} {K:SA->Hp->Nat->Prop} {sa:SA} {h:Hp} {n:Nat} {s:ByteArray} (hs:s.size<=1048576) {rest:List Oper} {tr:List CL} {dst:Option Tmp}
 (hk:∀r:Int,JB E Tryz.prog ops K rest tr sa { dst:=dst,val:=AA r } h n):Bo E Tryz.prog ops K sa h n 217 [.str s] rest tr dst:=
 Z6 _ _ _ _ _ _ (c217 s (by omega)) (hk _)
set_option maxHeartbeats 2000000 in
theorem t218 (l:List Fa) (hl:l.length<=1048576) (hs:∀x∈l,x.name.size<=1048576/\x.value.size<=1048576) (i:Nat) (hi:i<l.length):TC 218 [AA i,.iptr [FA l]] FC:=by
 intro h n
 refine gq Tryz.func218 rfl λho=>?_
 obtain⟨x,hx⟩:∃x,l[i]=x:=⟨_,rfl⟩
 have hxs:=hs x (by rw[<-hx];exact Yc hi)
 by_cases h0:i=0
 . subst h0
   simp[go_sem,hi,hx,Fa.enc]
   repeat first|refine nq ?_|refine sq ?_
   refine Z6 _ _ _ _ _ _ (UR x.name) ?_
   simp[go_sem]
   repeat first|refine nq ?_|refine sq ?_
   refine Jb λe1=>?_
   simp[go_sem]
   repeat first|refine nq ?_|refine sq ?_
   refine Jb λe2=>?_
   simp[go_sem]
   repeat first|refine nq ?_|refine sq ?_
   refine Jb λe3=>?_
   simp[go_sem,hi,hx,Fa.enc]
   repeat first|refine nq ?_|refine sq ?_
   refine P2 hxs.2 λe4=>?_
   simp[go_sem]
   repeat first|refine nq ?_|refine sq ?_
   refine Bo.lend _ _ _ _ _ _ 2 [n] (PF [e1,e2,e3,e4] (by simp)) rfl (by simp) (λh' hh=>?_) ?_
   . have:=hh n (by simp)
     simp[hset]at this
     simp[AZ,Fz,this,Bk,SV.storable,SV.cells]
   simp[go_sem]
   repeat first|refine nq ?_|refine sq ?_
   exact GL ho (AP ho (Y1 _) AB) (by simp[closed]) ⟨_,rfl⟩
 . have hip:0<i:=by omega
   have hmx:(if(1:Int)>i then(1:Int)else i)=i:=by split<;>omega
   have hmx2:(if(1:Int)<i then(i:Int)else 1)=i:=by split<;>omega
   have w1:IntKind.i64.wrap ((i:Int)-1)=((i-1:Nat):Int):=by rw[DR]<;>omega
   have hi1:i-1<l.length:=by omega
   obtain⟨y,hy⟩:∃y,l[i-1]=y:=⟨_,rfl⟩
   simp[go_sem,hi,hx,Fa.enc]
   repeat first|refine nq ?_|refine sq ?_
   refine Z6 _ _ _ _ _ _ (UR x.name) ?_
   simp[go_sem]
   repeat first|refine nq ?_|refine sq ?_
   refine Jb λe1=>?_
   simp[go_sem,hi,hx,Fa.enc,hip,w1,hi1,hy,hmx]
   repeat first|refine nq ?_|refine sq ?_
   refine Jb λe2=>?_
   simp[go_sem,hi,hx,Fa.enc,hip,w1,hi1,hy,hmx]
   repeat first|refine nq ?_|refine sq ?_
   refine Jb λe3=>?_
   simp[go_sem,hi,hx,Fa.enc]
   repeat first|refine nq ?_|refine sq ?_
   refine P2 hxs.2 λe4=>?_
   simp[go_sem]
   repeat first|refine nq ?_|refine sq ?_
   refine Bo.lend _ _ _ _ _ _ 2 [n] (PF [e1,e2,e3,e4] (by simp)) rfl (by simp) (λh' hh=>?_) ?_
   . have:=hh n (by simp)
     simp[hset]at this
     simp[AZ,Fz,this,Bk,SV.storable,SV.cells]
   simp[go_sem]
   repeat first|refine nq ?_|refine sq ?_
   exact GL ho (AP ho (Y1 _) AB) (by simp[closed]) ⟨_,rfl⟩
def RC:Tr:=.pure 0 (.pure 1 (.pure 2 (.pure 3 (.pure 4 (.pure 5 (.pure 6 (.pure 7 (.pure 8 (.pure 9 (.pure 10 (.pure 11 (.pure 12 (.pure 13 .nil)))))))))))))
def trO2:Tr:=.pure 0 (.pure 1 (.pure 3 (.pure 4 (.pure 5 (.pure 6 (.one 2 (.one 7 (.pure 8 (.pure 9 (.pure 10 (.pure 11 (.pure 12 .nil))))))))))))
def trO3:Tr:=.pure 0 (.pure 1 (.pure 3 (.pure 4 (.one 2 (.one 5 (.pure 6 .nil))))))
set_option maxHeartbeats 2000000 in
theorem t207 (l:List Az) (hl:l.length<=1048576) (hs:∀x∈l,x.props.length<=1048576) (i:Nat) (hi:i<l.length):TC 207 [Ad l,AA i] FC:=by
 intro h n
 refine Dg Tryz.func207 rfl λho=>?_
 have hHb:=ho.lt
 obtain⟨s,hx⟩:∃s,l[i]=s:=⟨_,rfl⟩
 have hps:=hs s (by rw[<-hx];exact Yc hi)
 have out:∀(e:Int) (m:Nat),Bz n h m (AA e) (λv h' n'=>FC v/\h'=h/\n'=n):=λe m=>GL ho AB (by simp[closed]) ⟨e,rfl⟩
 obtain⟨X,hX⟩:∃X:SV,X=.iptr [AA s.id,AA s.kind,.str s.name,AA s.base,AA s.next,Af s.props]:=⟨_,rfl⟩
 refine Ab 0 [(0,Ad l),(1,AA i)] h n ?_ (λm hm=>?_)
 . simp[go_sem,Y0]
 refine Ab 1 [(0,Ad l),(1,AA i),(5,X)] h n ?_ (λm hm=>?_)
 . have hHm:∀j y,h j=some y->j<m:=λj y e=>by have:=hHb j y e;omega
   rw[hX]
   simp[go_sem,Y0,hi,hx,Az.enc,AC]
   exact⟨by omega,AT (Ac hHm (Y1 _)) (AC _ _ _),AK hHm (AK hHm AB)⟩
 have w1:0<i->IntKind.i64.wrap ((i:Int)-1)=((i-1:Nat):Int):=λg=>by rw[DR]<;>omega
 refine AV 0 (α:=Unit) (λ_=>[(0,Ad l),(1,AA i),(5,X)]) (λ_=>h) (λ_ m=>n<=m) (AR ?_) (λ_ m hm=>?_)
 . refine BG 0 (α:=Bx) (λb=>[(0,Ad l),(1,AA i),(5,X),(14,.bool b.b)]) (λ_=>h) (λ_ m=>n<=m) ?_ (λb m hm=>?_)
   . rw[hX]
     by_cases a1:s.id<1
     . simp[go_sem,Y0,a1,hm];exact⟨⟨_⟩,rfl⟩
     . simp[go_sem,Y0,a1,hm];exact⟨⟨_⟩,rfl⟩
   obtain⟨b⟩:=b
   dsimp only
   cases b with
   | true=>exact AI (by simp[go_sem];exact out _ _)
   | false=>
   refine Ag (b:=false) (by simp[go_sem]) ?_
   simp only[Y7,if_false]
   refine AV 0 (α:=Bx) (λb=>[(0,Ad l),(1,AA i),(5,X),(23,.bool b.b)]) (λ_=>h) (λ_ m=>n<=m) (B7 RC rfl (by kernel_rfl) (by kernel_rfl) ?_) (λb m hm=>?_)
   . rw[hX]
     by_cases a1:0<i
     . have hi1:i-1<l.length:=by omega
       simp[go_sem,RC,Y0,a1,w1,hm,hi1,Az.enc];exact⟨⟨_⟩,rfl⟩
     . simp[go_sem,RC,Y0,a1,hm];exact⟨⟨_⟩,rfl⟩
   obtain⟨b⟩:=b
   dsimp only
   cases b with
   | true=>exact AI (by simp[go_sem];exact out _ _)
   | false=>
   refine Ag (b:=false) (by simp[go_sem]) ?_
   simp only[Y7,if_false]
   refine AV 0 (α:=Bx) (λb=>[(0,Ad l),(1,AA i),(5,X),(37,.bool b.b)]) (λ_=>h) (λ_ m=>n<=m) (B7 RC rfl (by kernel_rfl) (by kernel_rfl) ?_) (λb m hm=>?_)
   . rw[hX]
     by_cases a1:0<i
     . have hi1:i-1<l.length:=by omega
       simp[go_sem,RC,Y0,a1,w1,hm,hi1,Az.enc];exact⟨⟨_⟩,rfl⟩
     . simp[go_sem,RC,Y0,a1,hm];exact⟨⟨_⟩,rfl⟩
   obtain⟨b⟩:=b
   dsimp only
   cases b with
   | true=>exact AI (by simp[go_sem];exact out _ _)
   | false=>
   refine Ag (b:=false) (by simp[go_sem]) ?_
   simp only[Y7,if_false]
   refine BG 0 (α:=Bx) (λb=>[(0,Ad l),(1,AA i),(5,X),(51,.bool b.b)]) (λ_=>h) (λ_ m=>n<=m) ?_ (λb m hm=>?_)
   . rw[hX]
     by_cases a1:s.kind=1
     . simp[go_sem,Y0,a1,hm];exact⟨⟨_⟩,rfl⟩
     . have a2:(s.kind !=1)=true:=by simpa using a1
       simp[go_sem,Y0,a2,hm];exact⟨⟨_⟩,rfl⟩
   obtain⟨b⟩:=b
   dsimp only
   cases b with
   | true=>exact AI (by simp[go_sem];exact out _ _)
   | false=>
   refine Ag (b:=false) (by simp[go_sem]) ?_
   simp only[Y7,if_false]
   refine BG 0 (α:=Bx) (λb=>[(0,Ad l),(1,AA i),(5,X),(60,.bool b.b)]) (λ_=>h) (λ_ m=>n<=m) ?_ (λb m hm=>?_)
   . rw[hX]
     simp[go_sem]
     refine(c266 s.name).use ?_
     simp[go_sem,Y0,hm]
     exact⟨⟨_⟩,rfl⟩
   obtain⟨b⟩:=b
   dsimp only
   cases b with
   | true=>exact AI (by simp[go_sem];exact out _ _)
   | false=>exact AI (by simp[go_sem,Y0,hm])
 refine Bt 0 [(0,Ad l),(1,AA i),(5,X)] h n ?_ (λm hm=>?_)
 . refine AV 0 (α:=Bx) (λb=>[(0,Ad l),(1,AA i),(5,X),(7,.bool b.b)]) (λ_=>h) (λ_ m=>n<=m) (B7 trO2 rfl (by kernel_rfl) (by kernel_rfl) ?_) (λb m hm=>?_)
   . have hle:i<=l.length:=by omega
     have hc:=c267 (l.take i) s.kind s.name (by simp;omega)
     generalize Cn (l.take i) s.kind s.name=k at hc
     generalize(if 0<=k then k else 0)=k1 at hc
     generalize decide (0<=k)=k2 at hc
     simp only[Ad,ZH]at hc
     rw[hX]
     simp[go_sem,trO2,hle,-List.map_take]
     refine Yj hc ?_
     simp[go_sem,Y0,hm]
     exact⟨⟨_⟩,rfl⟩
   obtain⟨b⟩:=b
   dsimp only
   cases b with
   | true=>exact AI (by simp[go_sem];exact out _ _)
   | false=>exact AI (by simp[go_sem,Y0,hm])
 refine Bt 0 [(5,X)] h n ?_ (λm hm=>?_)
 . refine Ab 0 [(5,X),(78,Af s.props),(79,AA s.props.length),(80,AA 0)] h n ?_ (λm hm=>?_)
   . rw[hX];simp[go_sem,Y0,hm]
   refine AR (BP 0 (α:=Nat) (λk=>[(5,X),(78,Af s.props),(79,AA s.props.length),(80,AA k)]) (λ_=>h) (λk m=>k<=s.props.length/\n<=m) (λk=>s.props.length-k) 0 ⟨Y4 _,hm⟩ ?_ AB ?_)
   . simp[go_sem,Aj,Y0]
   rintro k m ⟨hk,hm⟩
   by_cases hlt:k<s.props.length
   . have w2:=wS k (by omega)
     obtain⟨p,hp⟩:∃p,s.props[k]=p:=⟨_,rfl⟩
     refine Ab 0 [(5,X),(78,Af s.props),(79,AA s.props.length),(80,AA k),(81,.bool true)] h n ?_ (λm hm=>?_)
     . simp[go_sem,Y0,hm,hlt]
     refine Ab 0 [(5,X),(78,Af s.props),(79,AA s.props.length),(80,AA k)] h n ?_ (λm hm=>?_)
     . simp[go_sem,Y0,hm]
     refine AV 0 (α:=Unit) (λ_=>[(5,X),(78,Af s.props),(79,AA s.props.length),(80,AA k)]) (λ_=>h) (λ_ m=>n<=m) (AR ?_) (λ_ m hm=>?_)
     . refine Ab 1 [(5,X),(78,Af s.props),(79,AA s.props.length),(80,AA k),(9,.iptr [AA p.key,AA p.value])] h n ?_ (λm hm=>?_)
       . have hHm:∀j y,h j=some y->j<m:=λj y e=>by have:=hHb j y e;omega
         simp[go_sem,Y0,hlt,hp,E8.enc,AC]
         exact⟨by omega,AT (Ac hHm (Y1 _)) (AC _ _ _),AK hHm (AK hHm AB)⟩
       refine AI ?_
       by_cases a1:p.key=20
       . simp[go_sem,a1];exact out _ _
       by_cases a2:p.key=1
       . simp[go_sem,a2];exact out _ _
       have a3:(p.key==20)=false:=by simpa using a1
       have a4:(p.key==1)=false:=by simpa using a2
       simp[go_sem,a3,a4,Y0,hm]
     . refine AI ?_
       simp[go_sem,w2,Y0,-Int.natCast_add]
       exact⟨k+1,by omega,⟨by omega,hm⟩,rfl⟩
   . refine AI ?_
     simp[go_sem,hlt,Y0,hm]
 refine AV 0 (α:=Int) (λe=>[(4,AA e)]) (λ_=>h) (λ_ m=>n<=m) (B7 trO3 rfl (by kernel_rfl) (by kernel_rfl) ?_) (λe m hm=>?_)
 . rw[hX]
   simp[go_sem,trO3]
   refine(c268 s.kind).use ?_
   generalize(if s.kind=1 then(2:Int)else 1)=el
   simp[go_sem]
   refine(c156 el s.props hps).use ?_
   simp[go_sem,hm]
   exact⟨_,rfl⟩
 . refine AI ?_
   simp[go_sem]
   exact out _ _
def ChQ (l:List Az) (id:Int) (h:Hp) (n:Nat):SV->Hp->Nat->Prop:=λv h' n'=>∃k,v=.fn (.func 270) [] [.iptr [Ad l],.ptr k 0]/\n<=k/\k<n'/\h' k=some (.cells [AA id])/\∀o y,h o=some y->h' o=some y
theorem d209 (l:List Az) (id:Int) {h:Hp} {n:Nat}:BM Tryz.prog 209 [Ad l,AA id] h n (ChQ l id h n):=by
 refine Dg Tryz.func209 rfl λho=>?_
 have hHb:=ho.lt
 refine BV 1 [(2,.iptr [Ad l]),(3,.ptr (n+1) 0)] (hset h (n+1) (some (.cells [AA id]))) (λm=>n+1<m) ?_ (λm hm=>?_)
 . simp[go_sem,Y0]
   refine⟨AT (by simp[hset];exact Ac hHb (Y1 _)) (by simp[hset]),λj y=>?_⟩
   have:=hHb j y;simp only[hset];grind
 refine AI ?_
 simp[go_sem]
 exact .inl ⟨n+1,rfl,by omega,hm,AC _ _ _,AK (λj z e=>by have:=hHb j z e;omega) AB⟩
structure YS (E:Br) (yl:Nat) (N:Nat) (J:Nat->Hp->Nat->Prop) (Jx:Hp->Nat->Prop) (D:Nat->Prop):Prop where
 step:∀c (x:Az) h m,J c h m->FB E Tryz.prog yl [x.enc] h m (λv h' m'=>m<=m'/\(∀o,¬D o->o<m->h' o=h o)/\((v=.bool true/\c+1<=N/\J (c+1) h' m')\/(v=.bool false/\Jx h' m')))
 keep:∀c h m h' m',J c h m->m<=m'->(∀o,D o->h' o=h o)->J c h' m'
 lt:∀c h m,J c h m->∀o,D o->o<m
theorem Ie {P:Int->Prop} (x:Int):∀(l:List (Int×Int)) (i:Nat),(∀p∈l,P p.2)->C5 (AA x) (GR l) i=some none\/∃j k,C5 (AA x) (GR l) i=some (some (j,AA k))/\P k
 | [],i,_=>.inl rfl
 | a::l,i,hP=>by
  by_cases e:x=a.1
  . exact .inr ⟨i,a.2,by simp[GR,C5,Gp,e],hP a (by simp)⟩
  . have:(x==a.1)=false:=by simpa using e
    rcases Ie x l (i+1) (λp hp=>hP p (by simp[hp]))with h|⟨j,k,h,hk⟩
    . left;simp only[GR,Yf,C5,Gp,if_true,this];exact h
    . right;refine⟨j,k,?_,hk⟩;simp only[GR,Yf,C5,Gp,if_true,this];exact h
theorem Qv {P:Int->Prop} (l:List (Int×Int)) (j:Nat) (x v:Int) (hl:∀p∈l,P p.2) (hv:P v):∃l',Fj (GR l) j (AA x) (AA v)=GR l'/\∀p∈l',P p.2:=by
 refine⟨l.modify j λ_=>(x,v),?_,λp hp=>?_⟩
 . unfold Fj GR
   apply List.ext_getElem?;intro i;simp only[ZY,Yz];by_cases e:j=i<;>cases l[i]? <;> simp[e]
 . obtain⟨i,hi⟩:=List.getElem?_of_mem hp
   rw[ZY]at hi
   cases hli:l[i]? with
   | none=>simp[hli]at hi
   | some q=>
    by_cases e:j=i
    . simp[hli,e]at hi;rw[<-hi];exact hv
    . simp[hli,e]at hi;rw[<-hi];exact hl q (YQ hli)
section
variable {E : Br} {yl N : Nat} {J : Nat → Hp → Nat → Prop} {Jx : Hp → Nat → Prop} {D : Nat → Prop}
def InB (l:List Az) (a:List (Int×Int)):Prop:=∀p∈a,0<=p.2/\p.2<l.length
set_option maxHeartbeats 2000000 in
theorem d270 (Y:YS E yl N J Jx D) (l:List Az) (hl:l.length<=1048576) {H:Hp} {n k:Nat} {id:Int} (hk:H k=some (.cells [AA id])) (hkD:¬D k) (hJ:J 0 H n):
 Ak E Tryz.prog 270 [.fn (.yield yl) [] [],.iptr [Ad l],.ptr k 0] H n (λ_ h' m'=>n<=m'/\(∀o,¬D o->o≠k->o<n->h' o=H o)/\((∃c,J c h' m')\/Jx h' m')):=by
 refine Dg Tryz.func270 rfl λho=>?_
 have hHb:=ho.lt
 have hkn:k<n:=hHb k _ hk
 have hDn:=Y.lt _ _ _ hJ
 have nk:k≠n:=by omega
 refine BV 0 [(0,.fn (.yield yl) [] []),(1,.iptr [Ad l]),(2,.ptr k 0),(4,.map n)] (hset H n (some (.map (GR [])))) (λm=>n<m) ?_ (λm hm=>?_)
 . simp[go_sem,Y0,GR]
 refine AV 0 (α:=List (Int×Int)) (λ_=>[(0,.fn (.yield yl) [] []),(1,.iptr [Ad l]),(2,.ptr k 0),(4,.map n)]) (λa=>hset H n (some (.map (GR a)))) (λa m=>n<m/\InB l a) ?_ (λa m hm=>?_)
 . refine BV 0 [(0,.fn (.yield yl) [] []),(1,.iptr [Ad l]),(2,.ptr k 0),(4,.map n),(10,Ad l),(11,AA l.length),(12,AA 0)] (hset H n (some (.map (GR [])))) (λm=>n<m) ?_ (λm hm=>?_)
   . simp[go_sem,Y0,hm]
   refine AR (BP 0 (α:=Nat×List (Int×Int)) (λq=>[(0,.fn (.yield yl) [] []),(1,.iptr [Ad l]),(2,.ptr k 0),(4,.map n),(10,Ad l),(11,AA l.length),(12,AA q.1)]) (λq=>hset H n (some (.map (GR q.2)))) (λq m=>q.1<=l.length/\n<m/\InB l q.2) (λq=>l.length-q.1) (0,[]) ⟨Y4 _,hm,by simp[InB]⟩ ?_ AB ?_)
   . simp[go_sem,Aj,Y0]
   rintro⟨i,a⟩ m ⟨hi,hm,ha⟩
   dsimp only at hi ha ⊢
   by_cases hlt:i<l.length
   . have w1:=wS i (by omega)
     obtain⟨x,hx⟩:∃x,l[i]=x:=⟨_,rfl⟩
     refine BV 0 [(0,.fn (.yield yl) [] []),(1,.iptr [Ad l]),(2,.ptr k 0),(4,.map n),(10,Ad l),(11,AA l.length),(12,AA i),(13,.bool true)] (hset H n (some (.map (GR a)))) (λm=>n<m) ?_ (λm hm=>?_)
     . simp[go_sem,Y0,hm,hlt]
     refine BV 0 [(0,.fn (.yield yl) [] []),(1,.iptr [Ad l]),(2,.ptr k 0),(4,.map n),(10,Ad l),(11,AA l.length),(12,AA i)] (hset H n (some (.map (GR a)))) (λm=>n<m) ?_ (λm hm=>?_)
     . simp[go_sem,Y0,hm]
     refine AV 0 (α:=List (Int×Int)) (λ_=>[(0,.fn (.yield yl) [] []),(1,.iptr [Ad l]),(2,.ptr k 0),(4,.map n),(10,Ad l),(11,AA l.length),(12,AA i)]) (λa=>hset H n (some (.map (GR a)))) (λa m=>n<m/\InB l a) (AR ?_) (λa m hm=>?_)
     . refine BV 1 [(0,.fn (.yield yl) [] []),(1,.iptr [Ad l]),(2,.ptr k 0),(4,.map n),(10,Ad l),(11,AA l.length),(12,AA i),(5,AA i),(6,.iptr [AA x.id,AA x.kind,.str x.name,AA x.base,AA x.next,Af x.props])] (hset H n (some (.map (GR a)))) (λm=>n<m) ?_ (λm hm=>?_)
       . have hHm:∀j y,hset H n (some (.map (GR a))) j=some y->j<m:=λj y e=>by
          simp only[hset]at e;split at e
          . omega
          . have:=hHb j y e;omega
         simp[go_sem,Y0,hlt,hx,Az.enc,AC]
         exact⟨by omega,AT (Ac hHm (Y1 _)) (AC _ _ _),AK hHm (AK hHm AB)⟩
       refine AI ?_
       have hB:∀v:Int,v=(i:Int)->0<=v/\v<l.length:=λv hv=>by omega
       rcases Ie (P:=λv=>0<=v/\v<l.length) x.id a 0 ha with hf|⟨j,v,hf,_⟩
       . have hpush:GR a++[(AA x.id,AA (i:Int))]=GR (a++[(x.id,(i:Int))]):=by simp[GR]
         simp[go_sem,AC,hf,CJ,hpush,Y0,AY]
         refine⟨a++[(x.id,(i:Int))],⟨hm,λp hp=>?_⟩,AB⟩
         rcases Y8.1 hp with hp|hp
         . exact ha p hp
         . rw[Yk.1 hp];exact hB _ rfl
       . obtain⟨a',h1,h2⟩:=Qv (P:=λv=>0<=v/\v<l.length) a j x.id i ha (hB _ rfl)
         have h1':(GR a).modify j (λ_=>(AA x.id,AA i))=GR a':=h1
         simp[go_sem,AC,hf,CJ,h1',Y0,AY]
         exact⟨a',⟨hm,h2⟩,AB⟩
     . obtain⟨hm,ha⟩:=hm
       refine AI ?_
       simp[go_sem,w1,Y0,-Int.natCast_add]
       exact⟨i+1,by omega,a,⟨by omega,hm,ha⟩,rfl,AB⟩
   . refine AI ?_
     simp[go_sem,hlt,Y0,hm]
     exact⟨a,ha,AB⟩
 obtain⟨hm,ha⟩:=hm
 have hnD:¬D n:=λg=>by have:=hDn n g;omega
 refine AI ?_
 simp[go_sem]
 refine Am 0 (α:=Nat×Int×Hp) (λ_=>[(0,.fn (.yield yl) [] []),(1,.iptr [Ad l]),(2,.ptr k 0),(4,.map n)]) (λq=>q.2.2) (λq m=>n<m/\J q.1 q.2.2 m/\q.2.2 k=some (.cells [AA q.2.1])/\q.2.2 n=some (.map (GR a))/\∀o,¬D o->o≠k->o<n->q.2.2 o=H o) (λq=>N-q.1)
  (0,id,hset H n (some (.map (GR a)))) ⟨hm,Y.keep _ _ _ _ _ hJ (by omega) λo g=>AD _ _ (by have:=hDn o g;omega),(AD _ _ nk).trans hk,AC _ _ _,λo _ _ g=>AD _ _ (by omega)⟩ ?_ AB ?_
 . simp[Aj,Y0]
 rintro⟨c,id,G⟩ m ⟨hm,hJ,hGk,hGn,A8⟩
 dsimp only at hJ hGk hGn A8 ⊢
 by_cases h0:id=0
 . simp[go_sem,hGk,h0]
   exact .inl ⟨by omega,A8,.inl ⟨c,hJ⟩⟩
 have h0':(id !=0)=true:=by simpa using h0
 rcases Ie (P:=λv=>0<=v/\v<l.length) id a 0 ha with hf|⟨j,v,hf,hv1,hv2⟩
 . simp[go_sem,hGk,hGn,h0',hf,CJ]
   exact .inl ⟨by omega,A8,.inl ⟨c,hJ⟩⟩
 . have hvl:v.toNat<l.length:=by omega
   obtain⟨x,hx⟩:∃x,l[v.toNat]'hvl=x:=⟨_,rfl⟩
   simp[go_sem,hGk,hGn,h0',hf,CJ,hv1,hvl,hx,Az.enc]
   have hy:=Y.step c x G m hJ
   simp only[Az.enc]at hy
   refine FB.mono hy ?_
   rintro w G3 m3 ⟨hm3,hfr,⟨rfl,hcN,hj⟩|⟨rfl,hj⟩⟩
   . have g3k:G3 k=some (.cells [AA id]):=by rw[hfr k hkD (by omega)];exact hGk
     have g3n:G3 n=some (.map (GR a)):=by rw[hfr n hnD (by omega)];exact hGn
     simp[go_sem,hv1,hvl,hx,Az.enc,g3k]
     refine⟨c+1,by omega,x.base,hset G3 k (some (.cells [AA x.base])),⟨by omega,Y.keep _ _ _ _ _ hj (Y1 _) λo g=>AD _ _ (by rintro rfl;exact hkD g),AC _ _ _,by rw[AD _ _ (Ne.symm nk)];exact g3n,λo g1 g2 g3=>?_⟩,AB⟩
     rw[AD _ _ g2,hfr o g1 (by omega)];exact A8 o g1 g2 g3
   . simp[go_sem]
     exact .inl ⟨by omega,λo g1 g2 g3=>by rw[hfr o g1 (by omega)];exact A8 o g1 g2 g3,.inr hj⟩
end
theorem goMS {E:Br} {f:FuncId} {fn:Func} {code:Code} {args:List SV} {h:Hp} {n:Nat} {K:SV->Hp->Nat->Prop} (hf:Tryz.prog.funcs[f]? = some fn) (hb:fn.body=some code)
 (hn:(fn.name != "runtime.NumGoroutine")=true) (hd:Code.dok fn.ntmps code=true) (hl:args.length<=fn.ntmps)
 (H:E4 h n->∀B,SP (E.call true B) fn.ntmps code (L8 Tryz.prog fn n K) (ET 0 args) h n):Ak E Tryz.prog f args h n K:=
 Kl hf hb hn hd hl λ_ ho B=>H ho B
set_option maxHeartbeats 4000000 in
theorem t146 (l:List Az) (hl:l.length<=1048576) (hs:∀x∈l,x.props.length<=1048576):TC 146 [Ad l] FC:=by
 intro h n
 refine goMS Tryz.func146 rfl (by kernel_rfl) (by kernel_rfl) (by simp[go_sem]) λho B=>?_
 have hHb:=ho.lt
 obtain⟨G,hG⟩:∃G:Int->Hp,∀e,G e=hset h (n+1) (some (.cells [AA e])):=⟨_,λ_=>rfl⟩
 have hGa:∀e,G e (n+1)=some (.cells [AA e]):=λe=>by rw[hG,AC]
 have hGs:∀e e',hset (G e) (n+1) (some (.cells [AA e']))=G e':=λe e'=>by rw[hG,hG,AY]
 have hGk:∀e j y,h j=some y->G e j=some y:=λe j y g=>by rw[hG,AD _ _ (by have:=hHb j y g;omega)];exact g
 have hGb:∀e j y,G e j=some y->j<n+2:=λe j y g=>by
  rw[hG]at g;simp only[hset]at g;split at g
  . omega
  . have:=hHb j y g;omega
 have out:∀(e:Int) (m:Nat),Bz n (G e) m (AA e) (λv h' n'=>FC v/\h'=h/\n'=n):=λe m=>GL ho (hGk e) (by simp[closed]) ⟨e,rfl⟩
 refine BV 1 [(1,.iptr [Ad l]),(2,.ptr (n+1) 0)] (G 0) (λm=>n+1<m) ?_ (λm hm=>?_)
 . rw[hG]
   simp[go_sem,Y0]
   refine⟨AT (by simp[hset];exact Ac hHb (Y1 _)) (by simp[hset]),λj y=>?_⟩
   have:=hHb j y;simp only[hset];grind
 refine CB 0 [(1,.iptr [Ad l]),(2,.ptr (n+1) 0)] (G 0) (λm=>n+1<m) (AI ?_) (λm hm=>?_)
 . by_cases a1:(128:Int)<l.length
   . simp[go_sem,a1,hGa,hGs];exact out _ _
   . simp[go_sem,a1,Y0,hm]
 refine CB 0 [(1,.iptr [Ad l]),(2,.ptr (n+1) 0)] (G 0) (λm=>n+1<m) ?_ (λm hm=>?_)
 . refine BV 0 [(1,.iptr [Ad l]),(2,.ptr (n+1) 0),(14,AA l.length),(15,AA 0)] (G 0) (λm=>n+1<m) ?_ (λm hm=>?_)
   . simp[go_sem,Y0,hm]
   refine AR (BP 0 (α:=Nat) (λi=>[(1,.iptr [Ad l]),(2,.ptr (n+1) 0),(14,AA l.length),(15,AA i)]) (λ_=>G 0) (λi m=>i<=l.length/\n+1<m) (λi=>l.length-i) 0 ⟨Y4 _,hm⟩ ?_ AB ?_)
   . simp[go_sem,Aj,Y0]
   rintro i m ⟨hi,hm⟩
   by_cases hlt:i<l.length
   . have w1:=wS i (by omega)
     refine AI ?_
     simp[go_sem,hlt]
     refine Xi (t207 l hl hs i hlt) ?_
     rintro v ⟨e,rfl⟩
     by_cases e0:e=0
     . simp[go_sem,e0,w1,Y0,-Int.natCast_add]
       exact⟨i+1,by omega,⟨by omega,hm⟩,rfl⟩
     . have e1:(e !=0)=true:=by simpa using e0
       simp[go_sem,e1,hGa,hGs]
       exact out _ _
   . refine AI ?_
     simp[go_sem,hlt,Y0,hm]
 refine CB 0 [(1,.iptr [Ad l]),(2,.ptr (n+1) 0)] (G 0) (λm=>n+1<m) ?_ (λm hm=>?_)
 . refine BV 0 [(1,.iptr [Ad l]),(2,.ptr (n+1) 0),(25,Ad l),(26,AA l.length),(27,AA 0)] (G 0) (λm=>n+1<m) ?_ (λm hm=>?_)
   . simp[go_sem,Y0,hm]
   refine AR (BP 0 (α:=Nat) (λi=>[(1,.iptr [Ad l]),(2,.ptr (n+1) 0),(25,Ad l),(26,AA l.length),(27,AA i)]) (λ_=>G 0) (λi m=>i<=l.length/\n+1<m) (λi=>l.length-i) 0 ⟨Y4 _,hm⟩ ?_ AB ?_)
   . simp[go_sem,Aj,Y0]
   rintro i m ⟨hi,hm⟩
   by_cases hlt:i<l.length
   . have w1:=wS i (by omega)
     obtain⟨x,hx⟩:∃x,l[i]=x:=⟨_,rfl⟩
     obtain⟨X,hX⟩:∃X:SV,X=.iptr [AA x.id,AA x.kind,.str x.name,AA x.base,AA x.next,Af x.props]:=⟨_,rfl⟩
     refine BV 0 [(1,.iptr [Ad l]),(2,.ptr (n+1) 0),(25,Ad l),(26,AA l.length),(27,AA i),(28,.bool true)] (G 0) (λm=>n+1<m) ?_ (λm hm=>?_)
     . simp[go_sem,Y0,hm,hlt]
     refine BV 0 [(1,.iptr [Ad l]),(2,.ptr (n+1) 0),(25,Ad l),(26,AA l.length),(27,AA i)] (G 0) (λm=>n+1<m) ?_ (λm hm=>?_)
     . simp[go_sem,Y0,hm]
     refine AV 0 (α:=Unit) (λ_=>[(1,.iptr [Ad l]),(2,.ptr (n+1) 0),(25,Ad l),(26,AA l.length),(27,AA i)]) (λ_=>G 0) (λ_ m=>n+1<m) (AR ?_) (λ_ m hm=>?_)
     . refine BV 1 [(1,.iptr [Ad l]),(2,.ptr (n+1) 0),(25,Ad l),(26,AA l.length),(27,AA i),(6,X)] (G 0) (λm=>n+1<m) ?_ (λm hm=>?_)
       . have hHm:∀j y,G 0 j=some y->j<m:=λj y e=>by have:=hGb 0 j y e;omega
         rw[hX]
         simp[go_sem,Y0,hlt,hx,Az.enc,AC]
         exact⟨by omega,AT (Ac hHm (Y1 _)) (AC _ _ _),AK hHm (AK hHm AB)⟩
       refine BG 0 (α:=Bx) (λb=>[(1,.iptr [Ad l]),(2,.ptr (n+1) 0),(25,Ad l),(26,AA l.length),(27,AA i),(59,.bool b.b)]) (λ_=>G 0) (λ_ m=>n+1<m) ?_ (λb m hm=>?_)
       . rw[hX]
         have e208:∀(kd id:Int) {m:Nat} {K:SV->Hp->Nat->Prop},(∀b,K (.bool b) (G 0) m)->Ak (Br.plain.call true B) Tryz.prog 208 [Ad l,AA kd,AA id] (G 0) m K:=λkd id m K hK=>Yj (c208 l kd id hl) (hK _)
         have second:x.next=0\/(x.next≠0/\x.kind=2)\/(x.next≠0/\x.kind≠2):=by
          by_cases c1:x.next=0
          . exact .inl c1
          . by_cases c2:x.kind=2
            . exact .inr (.inl ⟨c1,c2⟩)
            . exact .inr (.inr ⟨c1,c2⟩)
         by_cases b0:x.base=0
         . rcases second with c1|⟨c1,c2⟩|⟨c1,c2⟩
           . simp[go_sem,b0,c1,Y0,hm];exact⟨⟨_⟩,rfl⟩
           . have c1':(x.next !=0)=true:=by simpa using c1
             simp[go_sem,b0,c1',c2,Y0,hm];exact⟨⟨_⟩,rfl⟩
           . have c1':(x.next !=0)=true:=by simpa using c1
             have c2':(x.kind==2)=false:=by simpa using c2
             simp[go_sem,b0,c1',c2']
             refine e208 _ _ λb=>?_
             cases b<;>simp[go_sem,Y0,hm]<;>exact⟨⟨_⟩,rfl⟩
         . have b0':(x.base !=0)=true:=by simpa using b0
           simp[go_sem,b0']
           refine e208 _ _ λb=>?_
           cases b with
           | false=>simp[go_sem,Y0,hm];exact⟨⟨_⟩,rfl⟩
           | true=>
            rcases second with c1|⟨c1,c2⟩|⟨c1,c2⟩
            . simp[go_sem,c1,Y0,hm];exact⟨⟨_⟩,rfl⟩
            . have c1':(x.next !=0)=true:=by simpa using c1
              simp[go_sem,c1',c2,Y0,hm];exact⟨⟨_⟩,rfl⟩
            . have c1':(x.next !=0)=true:=by simpa using c1
              have c2':(x.kind==2)=false:=by simpa using c2
              simp[go_sem,c1',c2']
              refine e208 _ _ λb=>?_
              cases b<;>simp[go_sem,Y0,hm]<;>exact⟨⟨_⟩,rfl⟩
       obtain⟨b⟩:=b
       dsimp only
       refine AI ?_
       cases b with
       | true=>simp[go_sem,hGa,hGs];exact out _ _
       | false=>simp[go_sem,Y0,hm]
     . refine AI ?_
       simp[go_sem,w1,Y0,-Int.natCast_add]
       exact⟨i+1,by omega,⟨by omega,hm⟩,rfl⟩
   . refine AI ?_
     simp[go_sem,hlt,Y0,hm]
 refine CB 0 [(2,.ptr (n+1) 0)] (G 0) (λm=>n+1<m) ?_ (λm hm=>?_)
 . refine BV 0 [(1,.iptr [Ad l]),(2,.ptr (n+1) 0),(61,Ad l),(62,AA l.length),(63,AA 0)] (G 0) (λm=>n+1<m) ?_ (λm hm=>?_)
   . simp[go_sem,Y0,hm]
   refine AR (BP 0 (α:=Nat) (λi=>[(1,.iptr [Ad l]),(2,.ptr (n+1) 0),(61,Ad l),(62,AA l.length),(63,AA i)]) (λ_=>G 0) (λi m=>i<=l.length/\n+1<m) (λi=>l.length-i) 0 ⟨Y4 _,hm⟩ ?_ AB ?_)
   . simp[go_sem,Aj,Y0]
   rintro i m ⟨hi,hm⟩
   by_cases hlt:i<l.length
   . have w1:=wS i (by omega)
     obtain⟨x,hx⟩:∃x,l[i]=x:=⟨_,rfl⟩
     refine BV 0 [(1,.iptr [Ad l]),(2,.ptr (n+1) 0),(61,Ad l),(62,AA l.length),(63,AA i),(64,.bool true)] (G 0) (λm=>n+1<m) ?_ (λm hm=>?_)
     . simp[go_sem,Y0,hm,hlt]
     refine BV 0 [(1,.iptr [Ad l]),(2,.ptr (n+1) 0),(61,Ad l),(62,AA l.length),(63,AA i)] (G 0) (λm=>n+1<m) ?_ (λm hm=>?_)
     . simp[go_sem,Y0,hm]
     refine AV 0 (α:=Unit) (λ_=>[(1,.iptr [Ad l]),(2,.ptr (n+1) 0),(61,Ad l),(62,AA l.length),(63,AA i)]) (λ_=>G 0) (λ_ m=>n+1<m) (AR ?_) (λ_ m hm=>?_)
     . refine BV 1 [(1,.iptr [Ad l]),(2,.ptr (n+1) 0),(61,Ad l),(62,AA l.length),(63,AA i),(8,.iptr [AA x.id,AA x.kind,.str x.name,AA x.base,AA x.next,Af x.props])] (G 0) (λm=>n+1<m) ?_ (λm hm=>?_)
       . have hHm:∀j y,G 0 j=some y->j<m:=λj y e=>by have:=hGb 0 j y e;omega
         simp[go_sem,Y0,hlt,hx,Az.enc,AC]
         exact⟨by omega,AT (Ac hHm (Y1 _)) (AC _ _ _),AK hHm (AK hHm AB)⟩
       refine BV 0 [(1,.iptr [Ad l]),(2,.ptr (n+1) 0),(61,Ad l),(62,AA l.length),(63,AA i),(8,.iptr [AA x.id,AA x.kind,.str x.name,AA x.base,AA x.next,Af x.props]),(9,.ptr m 0)] (hset (G 0) m (some (.cells [AA 0]))) (λm2=>m<m2) ?_ (λm2 hm2=>?_)
       . simp[go_sem,Y0,AC,AY]
       refine BG 0 (α:=Hp×Nat) (λz=>[(1,.iptr [Ad l]),(2,.ptr (n+1) 0),(61,Ad l),(62,AA l.length),(63,AA i),(9,.ptr m 0),(70,.fn (.func 270) [] [.iptr [Ad l],.ptr z.2 0])]) (λz=>z.1) (λz m3=>m2<=z.2/\z.2<m3/\z.1 z.2=some (.cells [AA x.id])/\∀o y,hset (G 0) m (some (.cells [AA 0])) o=some y->z.1 o=some y) ?_ (λz m3 hm3=>?_)
       . simp[go_sem]
         refine Ys (d209 l x.id) ?_
         rintro v H' n' ⟨k,rfl,g1,g2,g3,g4⟩
         simp[go_sem,Y0]
         exact⟨H',k,⟨g1,g2,g3,g4⟩,rfl,AB⟩
       obtain⟨z,k⟩:=z
       obtain⟨k1,k2,k3,k4⟩:=hm3
       dsimp only at k1 k2 k3 k4 ⊢
       refine AR ?_
       refine FP rfl rfl rfl λE1 yl R hY=>?_
       have za:z (n+1)=some (.cells [AA 0]):=k4 _ _ (by rw[AD _ _ (by omega)];exact hGa 0)
       have zm:z m=some (.cells [AA 0]):=k4 _ _ (AC _ _ _)
       let D:Nat->Prop:=λo=>o=n+1\/o=m\/o=m3
       let J:Nat->Hp->Nat->Prop:=λc hh mm=>m3<mm/\c<=l.length/\hh (n+1)=some (.cells [AA 0])/\hh m=some (.cells [AA c])/\hh m3=some (.loop (R .ready none))
       let Jx:Hp->Nat->Prop:=λhh mm=>m3<mm/\hh (n+1)=some (.cells [AA 16])/\hh m3=some (.loop (R .done (some .ret)))
       have Y:YS E1 yl l.length J Jx D:=by
        refine⟨λc y hh mm hJ=>?_,?_,?_⟩
        . obtain⟨g0,gc,g1,g2,g3⟩:=hJ
          have q1:n+1≠mm:=by omega
          have q2:m≠mm:=by omega
          have q3:m3≠mm:=by omega
          have q3':=q3.symm
          have q4:m≠m3:=by omega
          have q5:n+1≠m3:=by omega
          have q6:n+1≠m:=by omega
          have w2:=wS c (by omega)
          refine hY _ _ _ _ g3 rfl (IJ ?_)
          by_cases hc:c+1<=l.length
          . have hc':¬(((l.length:Nat):Int)<((c+1:Nat):Int)):=by omega
            simp[go_sem,JT,Az.enc,AC,AD,g2,g3,q4,w2,hc',Hv,-Int.natCast_add]
            refine⟨by rw[AD _ _ q4.symm,AC],λo g1 g2=>?_,hc,?_⟩
            . have e1:o≠m:=λe=>g1 (.inr (.inl e))
              have e2:o≠m3:=λe=>g1 (.inr (.inr e))
              have e3:o≠mm:=by omega
              simp[hset,e1,e2]
            . exact⟨by omega,hc,by simp[hset,q5,q6,g1],by simp[hset,q4],by simp[hset]⟩
          . have hc':(((l.length:Nat):Int)<((c+1:Nat):Int)):=by omega
            simp[go_sem,JT,Az.enc,AC,AD,g1,g2,g3,q4,q5,q6,w2,hc',Hv,-Int.natCast_add]
            refine⟨by rw[AD _ _ q5.symm,AD _ _ q4.symm,AC],λo g1 g2=>?_,?_⟩
            . have e0:o≠n+1:=λe=>g1 (.inl e)
              have e1:o≠m:=λe=>g1 (.inr (.inl e))
              have e2:o≠m3:=λe=>g1 (.inr (.inr e))
              have e3:o≠mm:=by omega
              simp[hset,e0,e1,e2]
            . exact⟨by omega,by simp[hset,q5],by simp[hset]⟩
        . rintro c hh mm h' m' ⟨g0,gc,g1,g2,g3⟩ hmm hD
          exact⟨by omega,gc,by rw[hD _ (.inl rfl)];exact g1,by rw[hD _ (.inr (.inl rfl))];exact g2,by rw[hD _ (.inr (.inr rfl))];exact g3⟩
        . rintro c hh mm ⟨g0,gc,g1,g2,g3⟩ o (rfl|rfl|rfl)<;>omega
       have hkm3:k≠m3:=by omega
       refine Xc (d270 Y l hl (id:=x.id) (k:=k) (by rw[AD _ _ hkm3];exact k3) (by rintro(g|g|g)<;>omega) ⟨by omega,Y4 _,by rw[AD _ _ (by omega)];exact za,by rw[AD _ _ (by omega)];exact zm,AC _ _ _⟩) ?_
       rintro v h' m' ⟨hm',hfr,⟨c,g0,gc,g1,g2,g3⟩|⟨g0,g1,g3⟩⟩
       . refine⟨_,_,g3,by simp,?_⟩
         simp[go_sem]
         refine⟨by omega,λo y e=>?_⟩
         have o1:o<n+2:=hGb 0 o y e
         by_cases o2:o=n+1
         . subst o2;rw[AD _ _ (by omega),g1,<-e,hGa]
         . rw[AD _ _ (by omega),hfr o (by rintro(g|g|g)<;>omega) (by omega) (by omega),AD _ _ (by omega)]
           exact k4 _ _ ((AD _ _ (by omega)).trans e)
       . refine⟨_,_,g3,by simp,?_⟩
         simp[go_sem]
         rw[AD _ _ (by omega:n+1≠m3),g1]
         refine⟨_,rfl,GL ho (λo y e=>?_) (by simp[closed]) ⟨16,rfl⟩⟩
         have o1:o<n:=hHb o y e
         rw[AD _ _ (by omega),hfr o (by rintro(g|g|g)<;>omega) (by omega) (by omega),AD _ _ (by omega)]
         exact k4 _ _ ((AD _ _ (by omega)).trans (hGk 0 _ _ e))
     . refine AI ?_
       simp[go_sem,w1,Y0,-Int.natCast_add]
       exact⟨i+1,by omega,⟨by omega,hm⟩,rfl⟩
   . refine AI ?_
     simp[go_sem,hlt,Y0,hm]
 refine AI ?_
 simp[go_sem,hGa,hGs]
 exact out _ _
structure AJ.sizedT (s:AJ):Prop extends AJ.sized s where
 tpl:∀x∈s.lists,∀y∈x.levels,y.template.size<=1048576
 com:∀x∈s.comments,x.author.size<=1048576/\x.text.size<=1048576
 var:∀x∈s.vars,x.name.size<=1048576/\x.value.size<=1048576
theorem t83s (s:AJ) (hs:s.sizedT):TC 83 [s.enc] FC:=
 t83 s (t146 _ hs.styles hs.props)
  (t147 _ hs.lists λi hi=>t210 _ hs.lists i hi (t212 _ (hs.levels _ (Yc hi)) λx hx k=>t271 x.template (hs.tpl _ (Yc hi) x hx) k))
  (t148 _ hs.comments λi hi=>t213 _ hs.comments hs.com i hi)
  (t149 _ hs.vars λi hi=>t218 _ hs.vars hs.var i hi)
structure AH.sizedT (B N:Nat) (d:AH):Prop where
 flow:DM AF.sized B N d.flow
 «end» : d.«end».sized
 revs:d.revs.length<=1048576
 authors:∀r∈d.revs,r.author.size<=1048576
 settings:d.settings.sizedT
theorem U8 (d:AH) {B N:Nat} (hB:B<=1048576) (hd:d.sizedT B N):TC 12 [d.enc] (Pn N d):=
 t12x d hB hd.flow (t24 d hB hd.flow hd.end hd.settings.styles hd.settings.lists hd.revs hd.authors (t83s _ hd.settings))
structure Th (h:AF):Prop where
 move:h.move=0
 dels:h.dels=[]
 layers:h.layers=[]
theorem c44 (x:AF) (hx:Th x):PC 44 [x.enc] (.imm 0 [] true):=by
 intro h n
 refine gq Tryz.func44 rfl λho=>?_
 have hh:∀a b c,∀o y,h o=some y->hset (hset (hset h n a) (n+1) b) (n+1) c o=some y:=λa b c=>AP ho (by omega) (AP ho (by omega) (AP ho (Y1 _) AB))
 obtain⟨h1,h2,_⟩:=hx
 simp[go_sem,AF.enc,AF.flat,AC,AD,h1,h2]
 refine Am 1 (α:=Unit) (λk=>[(3,.imm 0 [] true),(22,Aa []),(23,AA 0),(24,AA 0)]) (λ_=>h) (λk m=>n<=m) (λk=>0) () ?_ ?_ ?_ ?_
 . omega
 . simp[Aj]
 . exact hh _ _ _
 rintro _ m hm
 simp[go_sem]
 exact Au ho AB rfl rfl
theorem d43 (p:BY) (hp:Th p.head) (t:Nat) {H:Hp} {n:Nat}:BM Tryz.prog 43 [p.enc,.ptr t 0] H n (λv h' n'=>v=.tup []/\h'=H/\n'=n):=by
 refine Dg Tryz.func43 rfl λho=>?_
 refine Ab 1 [(1,.ptr t 0),(2,.iptr (p.head.flat++[.bool p.mid,AA p.units]))] H n ?_ (λm hm=>?_)
 . simp[go_sem,BY.enc,AF.flat,Y0]
   refine⟨AT (ho.none (Y1 n)) (by simp[hset]),AK (λj z e=>(ho j z e).1) AB⟩
 refine AI ?_
 simp[go_sem,AF.flat]
 refine Yj (by simpa[AF.enc,AF.flat]using c44 p.head hp) ?_
 simp[go_sem]
 refine Am 0 (α:=Unit) (λk=>[(8,.imm 0 [] true),(9,AA 0),(10,AA 0)]) (λ_=>H) (λk m=>n<=m) (λk=>0) () ?_ ?_ AB ?_
 . omega
 . simp[Aj,Y0]
 rintro _ m hm
 simp[go_sem]
 exact CT ho (by simp[closed,closedL]) AB
def Nu:Unit->Nat->Option BT:=λ_ _=>none
theorem VD (s:Unit) (H:Hp):Ai Nu s H=H:=rfl
theorem v43 (n0 t:Nat):Vis Nu n0 43 [] [.ptr t 0] (λs _=>s) Th where
 lt _ _ _:=rfl
 dom _ _ _ _:=rfl
 cl _ _ _ e:=by cases e
 call s p H n hp hn hs:=by rw[VD];exact d43 p hp t
theorem c48 (a x:Int):PC 48 [AA x,.iptr [AA a]] (.bool (x==a)):=by
 intro h n
 refine gq Tryz.func48 rfl λho=>?_
 simp[go_sem]
 exact Au ho AB (by by_cases e:x=a<;>simp[e]) rfl
theorem c254:PC 254 [.imm 2 [] false,AA 0,AA 0,.fn (.func 120) [] []] (.tup []):=by
 intro h n
 refine gq Tryz.func254 rfl λho=>?_
 simp[go_sem]
 refine Am 1 (α:=Unit) (λk=>[(2,AA 0),(8,AA 1)]) (λ_=>h) (λk m=>n<=m) (λk=>0) () ?_ ?_ AB ?_
 . omega
 . simp[Aj,show IntKind.i64.wrap 1=1 from by decide,Y0]
 rintro _ m hm
 simp[go_sem]
 exact Au ho AB rfl rfl
theorem c188:PC 188 [.imm 2 [] false,AA 0,.fn (.func 120) [] []] (.tup []):=by
 intro h n
 refine gq Tryz.func188 rfl λho=>?_
 simp[go_sem]
 refine Am 1 (α:=Unit) (λk=>[(0,.imm 2 [] false),(1,AA 0),(2,.fn (.func 120) [] []),(6,AA 20),(7,AA 0),(8,AA 20)]) (λ_=>h) (λk m=>n<=m) (λk=>0) () ?_ ?_ AB ?_
 . omega
 . simp[Aj]
 rintro _ m hm
 simp[go_sem]
 refine Yj c254 ?_
 simp[go_sem]
 refine Am 1 (α:=Unit) (λk=>[(1,AA 0),(6,AA 20)]) (λ_=>h) (λk m=>n<=m) (λk=>0) () ?_ ?_ AB ?_
 . omega
 . simp[Aj]
 rintro _ m hm
 simp[go_sem]
 exact Au ho AB rfl rfl
theorem c119:PC 119 [.imm 2 [] false,.fn (.func 120) [] []] (.tup []):=by
 intro h n
 refine gq Tryz.func119 rfl λho=>?_
 simp[go_sem]
 refine Yj c188 ?_
 simp[go_sem]
 exact Au ho AB rfl rfl
set_option maxHeartbeats 2000000 in
theorem d117 (l:List BD) (hl0:l≠[]) (hl:l.length<=1048576) (r:BD) {H:Hp} {n o k:Nat} {full:Bool} (hH:H o=some (.cells ((l.map BD.enc).flatMap SV.cells))) (hk:H k=some (.cells [AA r.id,.str r.author,AA r.time])) (hok:o≠k):
 BM Tryz.prog 117 [.sl o 0 3 l.length full,AA l.length,.sl k 0 3 1 true] H n (λv h' n'=>v=Aw (l++[r])/\h'=hset H o none/\n'=n):=by
 refine Dg Tryz.func117 rfl λho=>?_
 have hHb:=ho.lt
 have hfl:flat H (.sl o 0 3 l.length full)=some ((l.map BD.enc).flatMap SV.cells):=by
  have:((l.map BD.enc).flatMap SV.cells).length=l.length*3:=by rw[BE (z:=3) (BD.E.size l)];simp
  simp[flat,hH,Bk,<-this,-List.length_flatMap]
 have hfl2:flat H (.sl k 0 3 1 true)=some [AA r.id,.str r.author,AA r.time]:=by simp[flat,hk,Bk]
 have ht:A6 Tryz.prog 30=some 42:=by simp[go_sem]
 have hap:AS Tryz.prog H n .append [30,30] [.sl o 0 3 l.length full,.sl k 0 3 1 true]=some { val:=.sl n 0 3 (l.length+1) false,upd:=if full then none else some (o,none),new:=some (.cells ((l.map BD.enc).flatMap SV.cells++[AA r.id,.str r.author,AA r.time])) }:=by
  have hz:Bh Tryz.prog 42=3:=by simp[go_sem]
  have hst:(BH Tryz.prog 42).storable=true:=by simp[go_sem]
  have hzl:(BH Tryz.prog 42).cells.length=3:=by simp[go_sem]
  have hb:Bg Tryz.prog 42<=65536:=by simp[go_sem]
  have hro:DU (l.length+1) (Bg Tryz.prog 42)=true:=by simp[DU,hb];omega
  simp[AS,ht,Cw,hz,hst,hzl,EF,hfl,hfl2,Ha,hro,G2,HM]
 have fin:∀(h':Hp) (n':Nat),h'=hset (match(if full then none else some (o,(none:Option BT)))with|some (j,x)=>hset H j x|none=>H) n (some (.cells ((l.map BD.enc).flatMap SV.cells++[AA r.id,.str r.author,AA r.time])))->Bz n h' n' (.sl n 0 3 (l.length+1) false) (λv h' n'=>v=Aw (l++[r])/\h'=hset H o none/\n'=n):=λh' n' e=>by
  have hon:=hHb o _ hH
  have hcs:((l++[r]).map BD.enc).flatMap SV.cells=(l.map BD.enc).flatMap SV.cells++[AA r.id,.str r.author,AA r.time]:=by simp[BD.enc,SV.cells]
  refine .inr ⟨1,Aw (l++[r]),hset H o none,?_,BD.E.imm _ _ _ _,λj y e2=>?_,rfl,rfl,rfl⟩
  . have:=Dj (h':=h') (h:=hset H o none) (k:=0) (z:=3) (es:=(l++[r]).map BD.enc) (full:=false) (full':=false) (o:=n) (by rw[AD _ _ (by omega)];exact ho.none (Y1 n)) (by simp) (by rw[e,AC,hcs]) (BD.E.size _)
    rw[Y5,Ym]at this;exact this
  . by_cases e1:j=o
    . subst e1;rw[AC]at e2;cases e2
    . rw[AD _ _ e1]at e2
      refine⟨?_,ho j y e2⟩
      have:=hHb j y e2
      rw[e,AD _ _ (by omega)]
      cases full
      . simp only[Y7,if_false];rw[AD _ _ e1];exact e2
      . exact e2
 refine AI ?_
 have w:¬l.length=0:=by simpa using hl0
 simp[go_sem,hl0]
 rw[hap]
 cases full<;>simp[go_sem]<;>exact fin _ _ (by simp)
def trIn:Tr:=(.pure 0 (.pure 2 (.two 1 3 (.one 3 (.one 4 (.one 5 (.pure 6 (.pure 7 .nil))))) (.two 1 4 (.one 4 (.one 5 (.pure 6 (.pure 7 .nil)))) (.one 1 (.one 5 (.pure 6 (.pure 7 .nil))))))))
section
variable {P : Program} {E : Br} {evs : Operand → SV} {o : Oper} {h : Hp} {n : Nat} {K : SV → Hp → Nat → Prop}
def Fh (P:Program) (kt:TypeId) (cs:List SV):List (SV×SV)->Nat->Option (Option (Nat×SV))
 | [],_=>some none
 | e :: es, i => match e.1 with
  | .agg ds=>match B9 P cs ds (Bd P kt)with
   | some true=>some (some (i,e.2))
   | some false=>Fh P kt cs es (i+1)
   | none=>none
  | _=>none
structure UG (P:Program) (kt:TypeId):Prop where
 ht:P.underlying kt=some (.struct (P.fieldsOf kt))
 hp:P.stoodInHeld kt=false
theorem MR {c:Cx} {kt:TypeId} (hk:UG P kt) {cs ds:List SV} {v u:Value} {b:Bool} (hv:V c (.agg cs) v) (hu:V c (.agg ds) u) (hb:B9 P cs ds (Bd P kt)=some b) (w:World):(Op.equal kt v u).run P w=.ok b w:=by
 obtain⟨vs,e1,h1,h2⟩:=Fy hv
 obtain⟨us,e2,h3,h4⟩:=Fy hu
 have hr:=HH h1 h3 h2 h4 9998 w _ _ hb
 rw[e1,e2]
 show(Op.equalIn 10000 kt _ _).run P w=_
 rw[run_equalIn_struct w 9999 kt _ _ hk.ht hk.hp];exact hr
theorem Je {c:Cx} {kt:TypeId} (hk:UG P kt) {cs:List SV} {v:Value} (hv:V c (.agg cs) v) (w:World):
 ∀(es:List (SV×SV)) (ents:List MapEntry) (i:Nat) (r:Option (Nat×SV)),AZ (λ(p:SV×SV) (e:MapEntry)=>V c p.1 e.key/\V c p.2 e.val) es ents->Fh P kt cs es i=some r->
  (r=none/\(Instr.findAsking kt v ents i).run P w=.ok none w)\/∃j x y e ds,r=some (i+j,x)/\(Instr.findAsking kt v ents i).run P w=.ok (some (i+j,y)) w/\V c x y/\ents[j]? = some e/\V c (.agg ds) e.key/\B9 P cs ds (Bd P kt)=some true
 | [],ents,i,r,h,hf=>by
  simp only[Fh,Y6]at hf
  subst hf
  rw[h.nil_left]
  exact .inl ⟨rfl,by simp[Instr.findAsking]⟩
 | p::es,[],i,r,h,_=>h.elim
 | p::es,e::ents,i,r,h,hf=>by
  obtain⟨⟨h1,h2⟩,h3⟩:=h
  simp only[Fh]at hf
  split at hf<;>try cases hf
  rename_i ds hds
  rw[hds]at h1
  split at hf
  . rename_i he
    cases hf
    have:=MR hk hv h1 he w
    exact .inr ⟨0,p.2,e.val,e,ds,rfl,by simp[Instr.findAsking,this],h2,rfl,h1,he⟩
  . rename_i he
    have:=MR hk hv h1 he w
    rcases Je hk hv w es ents (i+1) r h3 hf with⟨rfl,hg⟩|⟨j,x,y,e',ds',rfl,hg,hxy,hj,hs⟩
    . exact .inl ⟨rfl,by simp[Instr.findAsking,this,hg]⟩
    . exact .inr ⟨j+1,x,y,e',ds',by congr 2;omega,by rw[show i+(j+1)=i+1+j by omega];simp[Instr.findAsking,this,hg],hxy,by simpa using hj,hs⟩
  . cases hf
end
theorem Kx (b:Bool) (x y:Int) (w:World):(Instr.checkKey b 10000 89 (.agg #[.int .i64 x,.int .i64 y])).run Tryz.prog w=.ok () w:=by
 have u89:Tryz.prog.underlying 89=_:=Tryz.underlying89
 have u3:Tryz.prog.underlying 3=_:=Tryz.underlying3
 have g3:∀n z,(Instr.checkKey b (n+1) 3 (.int .i64 z)).run Tryz.prog w=.ok () w:=λn z=>by simp[Instr.checkKey,AM u3]
 have ha:Fx Tryz.prog 3=some false:=by simp[go_sem]
 have p:∀(cs:Array Value) off v,cs[off]? = some v->(part 3 cs off).run Tryz.prog w=.ok v w:=λcs off v h=>by simp[part,EV ha,h]
 have gen:∀n,(Instr.checkKey b (n+2) 89 (.agg #[.int .i64 x,.int .i64 y])).run Tryz.prog w=.ok () w:=λn=>by
  rw[Instr.checkKey]
  simp only[Sem.run_bind,AM u89,Result.andThen_ok]
  rw[<-Array.forIn_toList]
  simp[List.forIn_cons,p #[.int .i64 x,.int .i64 y] 0 (.int .i64 x) rfl,p #[.int .i64 x,.int .i64 y] 1 (.int .i64 y) rfl,g3]
 exact gen 9998
section
variable {E : Br} {evs : Operand → SV} {o : Oper} {h : Hp} {n : Nat} {K : SV → Hp → Nat → Prop}
theorem Fu {kt:TypeId} {fs:Array Field} {v:Value} {ents:List MapEntry} {r:Option (Nat×Value)} {w:World} (hu:Tryz.prog.underlying kt=some (.struct fs)) (hf:(Instr.findAsking kt v ents 0).run Tryz.prog w=.ok r w):(Instr.findKey kt v ents).run Tryz.prog w=.ok r w:=by
 cases ents with
 | nil=>
  simp[Instr.findAsking]at hf
  subst hf
  simp[Instr.findKey,AM hu,Instr.findNow]
 | cons e es=>
  have:Instr.findNow (.struct fs) v (e::es) 0=none:=by simp[Instr.findNow,Instr.sameNow]
  simp[Instr.findKey,AM hu,this,hf]
theorem T8:UG Tryz.prog 89:=⟨by kernel_rfl,by kernel_rfl⟩
theorem UK {c:Cx} {a b:Int} {v:Value} (h:V c (.agg [.int .i64 a,.int .i64 b]) v):v=.agg #[.int .i64 a,.int .i64 b]:=by
 simp only[V,VL]at h
 obtain⟨vs,rfl,⟨_,_,rfl,rfl,_,_,rfl,rfl,rfl⟩,_⟩:=h
 rfl
theorem Nd {m x:Operand} {q:Nat} {a b:Int} {es:List (SV×SV)} {r:Option (Nat×SV)} (ho:o.op=.lookup 85 m x false) (hm:evs m=.map q) (hq:h q=some (.map es)) (hx:evs x=.agg [.int .i64 a,.int .i64 b])
 {v:SV} (hv0:(match r with|some p=>p.2|none=>BH Tryz.prog 90)=v) (hf:Fh Tryz.prog 89 [.int .i64 a,.int .i64 b] es 0=some r) (hk:K v h n):EB E Tryz.prog evs o h n K:=by
 subst hv0
 refine⟨by rw[ho];simp,λc ev _ _ R F hv=>?_⟩
 have hvm:=hv m
 have hvx:=hv x
 rw[hm,V]at hvm
 obtain⟨bq,hρ,hev⟩:=hvm
 rw[hx]at hvx
 have hkey:=UK hvx
 obtain⟨b',ents,clock,g1,g2,g3,_⟩:=R.obj _ _ hq
 rw[hρ]at g1;cases g1
 have hgo:(getObj bq).run Tryz.prog c.w=.ok (.map ents clock) c.w:=by simp[getObj,Sem.run,g2]
 have u85:Tryz.prog.underlying 85=some (.map 89 90):=Tryz.underlying85
 have hck:∀em,(Instr.checkKey em 10000 89 (ev x)).run Tryz.prog c.w=.ok () c.w:=λem=>by rw[hkey];exact Kx em a b c.w
 have hst:(BH Tryz.prog 90).storable=true:=by simp[go_sem]
 obtain⟨i,z,hi,hzz,hze⟩:=Bw hst
 have hvz:=Ct c z
 rw[<-hze]at hvz
 rcases Je T8 hvx c.w es ents.toList 0 r g3 hf with⟨rfl,hg⟩|⟨j,x2,y2,e2,ds,rfl,hg,hxy,_,_⟩
 . have hfk:=Fu Tryz.underlying89 hg
   refine⟨z,BH Tryz.prog 90,h,n,c,?_,hvz,R,F,ZB n c,hk⟩
   simp[execOp,ho,Instr.lookup,AM u85,hev,hgo,hck,hfk,Eu hi hzz]
 . have hfk:=Fu Tryz.underlying89 hg
   refine⟨y2,x2,h,n,c,?_,hxy,R,F,ZB n c,hk⟩
   simp[execOp,ho,Instr.lookup,AM u85,hev,hgo,hck,hfk]
end
section
variable {E : Br} {evs : Operand → SV} {o : Oper} {h : Hp} {n : Nat} {K : SV → Hp → Nat → Prop}
theorem fo89:(Bd Tryz.prog 89).map (λf=>(f.name == "_",f.type,f.offset))=[(false,3,0),(false,3,1)]:=by kernel_rfl
theorem U5 {a b:Int} {ds:List SV} (hl:ds.length=2) (hf:B9 Tryz.prog [.int .i64 a,.int .i64 b] ds (Bd Tryz.prog 89)=some true):ds=[.int .i64 a,.int .i64 b]:=by
 rw[CO,fo89]at hf
 match ds,hl with
 | [x, y], _ =>
  have ti:(KU Tryz.prog 3).isSome=true:=by simp[go_sem]
  have ts:Bh Tryz.prog 3=1:=by simp[go_sem]
  have ta:Fx Tryz.prog 3=some false:=by simp[go_sem]
  have one:∀(c:Int) (z:SV) (r:Bool),DG Tryz.prog 3 (.int .i64 c) z=some r->∃d,z=.int .i64 d/\r=(c==d):=λc z r hc=>by
   cases z with
   | int k d=>
    simp only[DG,ti,ts,ta,and_true]at hc
    split at hc
    . rename_i e;subst e;cases hc;exact⟨d,rfl,rfl⟩
    . cases hc
   | _=>simp[DG]at hc
  simp only[Cu,Y7,if_false,Zx,List.getElem?_cons_succ]at hf
  cases h1:DG Tryz.prog 3 (.int .i64 a) x with
  | none=>simp[h1]at hf
  | some r1 =>
   cases r1 with
   | false=>simp[h1]at hf
   | true =>
    simp only[h1]at hf
    cases h2:DG Tryz.prog 3 (.int .i64 b) y with
    | none=>simp[h2]at hf
    | some r2 =>
     cases r2 with
     | false=>simp[h2]at hf
     | true=>
      obtain⟨d1,rfl,e1⟩:=one a x true h1
      obtain⟨d2,rfl,e2⟩:=one b y true h2
      have e1':a=d1:=by simpa using e1.symm
      have e2':b=d2:=by simpa using e2.symm
      rw[e1',e2']
theorem OL {kt:TypeId} {cs:List SV}:∀(es:List (SV×SV)) (i:Nat) (j:Nat) (x:SV),Fh Tryz.prog kt cs es i=some (some (i+j,x))->∃ds v,es[j]? = some (.agg ds,v)/\B9 Tryz.prog cs ds (Bd Tryz.prog kt)=some true
 | [],i,j,x,h=>by simp[Fh]at h
 | p::es,i,j,x,h=>by
  simp only[Fh]at h
  split at h<;>try cases h
  rename_i ds hds
  split at h
  . rename_i he
    simp only[Y6,Prod.mk.injEq]at h
    have:j=0:=by omega
    subst this
    exact⟨ds,p.2,by simp[<-hds],he⟩
  . cases j with
    | zero =>
     exfalso
     have hge:∀(es:List (SV×SV)) (i k:Nat) (x:SV),Fh Tryz.prog kt cs es i=some (some (k,x))->i<=k:=by
      intro es
      induction es with
      | nil=>intro i k x h;simp[Fh]at h
      | cons p es ih=>
       intro i k x h
       simp only[Fh]at h
       split at h<;>try cases h
       split at h
       . simp only[Y6,Prod.mk.injEq]at h;omega
       . have:=ih _ _ _ h;omega
       . cases h
     have:=hge _ _ _ _ h
     omega
    | succ j=>
     obtain⟨ds',v,h1,h2⟩:=OL es (i+1) j x (by rw[show i+1+j=i+(j+1)by omega];exact h)
     exact⟨ds',v,by simpa using h1,h2⟩
  . cases h
end
section
variable {E : Br} {evs : Operand → SV} {o : Oper} {h : Hp} {n : Nat} {K : SV → Hp → Nat → Prop}
def T6 (p:SV×SV):Prop:=∃a b:Int,p.1=.agg [.int .i64 a,.int .i64 b]
theorem KS {m y x:Operand} {q:Nat} {a b:Int} {es:List (SV×SV)} {r:Option (Nat×SV)} (ho:o.op=.mapUpdate 85 m y x) (hm:evs m=.map q) (hq:h q=some (.map es)) (hy:evs y=.agg [.int .i64 a,.int .i64 b]) (hes:∀p∈es,T6 p)
 {es2:List (SV×SV)} (he2:(match r with|some p=>Fj es p.1 (.agg [.int .i64 a,.int .i64 b]) (evs x)|none=>es++[(.agg [.int .i64 a,.int .i64 b],evs x)])=es2) (hf:Fh Tryz.prog 89 [.int .i64 a,.int .i64 b] es 0=some r)
 (hk:K (.tup []) (hset h q (some (.map es2))) n):SemU E Tryz.prog evs o h n K:=by
 subst he2
 refine⟨by rw[ho];simp,λc ev _ _ R F hv=>?_⟩
 have hvm:=hv m
 have hvy:=hv y
 have hvx:=hv x
 rw[hm,V]at hvm
 obtain⟨bq,hρ,hev⟩:=hvm
 rw[hy]at hvy
 have hkey:=UK hvy
 obtain⟨b',ents,clock,g1,g2,g3,hB⟩:=R.obj _ _ hq
 rw[hρ]at g1;cases g1
 have hgo:(getObj bq).run Tryz.prog c.w=.ok (.map ents clock) c.w:=by simp[getObj,Sem.run,g2]
 have u85:Tryz.prog.underlying 85=some (.map 89 90):=Tryz.underlying85
 have hck:∀em,(Instr.checkKey em 10000 89 (ev y)).run Tryz.prog c.w=.ok () c.w:=λem=>by rw[hkey];exact Kx em a b c.w
 have hset':∀ob:Obj,(setObj bq ob).run Tryz.prog c.w=.ok () { c.w with heap:=c.w.heap.setIfInBounds bq ob }:=λob=>by
  simp[setObj,Sem.run,g2]
 have fin:∀(es':List (SV×SV)) (ents':Array MapEntry) (clock':Nat),AZ (λ(p:SV×SV) (e:MapEntry)=>V c p.1 e.key/\V c p.2 e.val) es' ents'.toList->HY ents'.toList clock'->
  (Instr.mapUpdate 85 (ev m) (ev y) (ev x)).run Tryz.prog c.w=.ok () { c.w with heap:=c.w.heap.setIfInBounds bq (.map ents' clock') }->K (.tup []) (hset h q (some (.map es'))) n->
  ∃h' n' c',(execOp ev o).run Tryz.prog c.w=.ok .skip c'.w/\Bl h' c'/\Fr n' c'/\Ff n c n' c'/\K (.tup []) h' n':=λes' ents' clock' he hB' hr hK=>by
  obtain⟨R',E'⟩:=Jn (clock':=clock') R hq hρ g2 he hB'
  exact⟨_,n,_,by simp[execOp,ho,hr],R',F,⟨E',Y1 n,λ_ _=>rfl⟩,hK⟩
 rcases Je T8 hvy c.w es ents.toList 0 r g3 hf with⟨rfl,hg⟩|⟨j,x2,y2,e2,ds,rfl,hg,hxy,hj,hds,hfe⟩
 . have hfk:=Fu Tryz.underlying89 hg
   refine fin _ (ents.push { key:=ev y,val:=ev x,born:=clock }) (clock+1) (by rw[Array.toList_push];exact Zt g3 (as':=[(_,evs x)]) ⟨⟨hvy,hvx⟩,trivial⟩) (by rw[Array.toList_push];exact hB.push _ rfl) ?_ hk
   simp[Instr.mapUpdate,AM u85,hev,hgo,hck,hfk,hset']
 . have hfk:=Fu Tryz.underlying89 hg
   rw[YW]at hf hfk
   obtain⟨ds',v',k1,k2⟩:=OL es 0 j x2 (by rw[YW];exact hf)
   obtain⟨a',b',k3⟩:=hes _ (YQ k1)
   have hd':ds'=[.int .i64 a',.int .i64 b']:=by simpa using k3
   have hs:=U5 (by rw[hd'];rfl) k2
   obtain⟨e3,k4,k5,_⟩:=AZ.get g3 k1
   have hee:e3=e2:=by rw[hj]at k4;exact(Option.some.inj k4).symm
   subst hee
   simp only[hs]at k5
   have hek:=UK k5
   have hj':ents[j]? = some e3:=by simpa using hj
   have hsb:Instr.sameBits 10000 e3.key (ev y)=true:=by
    rw[hek,hkey]
    have:∀n,Instr.sameBits (n+1) (.agg #[.int .i64 a,.int .i64 b]) (.agg #[.int .i64 a,.int .i64 b])=true:=λn=>by simp[Instr.sameBits]
    exact this 9999
   refine fin _ _ clock (OI j hvy hvx g3) (HY.modify hB j _ λ_=>rfl) ?_ (by simpa using hk)
   simp[Instr.mapUpdate,AM u85,hev,hgo,hck,hfk,Instr.keyThatStays,hj',hsb,hset']
end
section
variable {P : Program} {E : Br} {evs : Operand → SV} {o : Oper} {h : Hp} {n : Nat} {K : SV → Hp → Nat → Prop}
theorem SZ {t:TypeId} {x:Operand} {j off z len cap:Nat} (ho:o.op=.call { callee:=.builtin .len,args:=#[x],argTypes:=#[t] }) (ht:(A6 P t).isSome=true) (hx:evs x=.slc j off z len cap) (hk:K (.int .i64 len) h n):EB E P evs o h n K:=by
 refine⟨by rw[ho];simp,λc ev _ _ R F hv=>?_⟩
 have hvx:=hv x
 rw[hx,V]at hvx
 obtain⟨b,st,_,hu,_⟩:=hvx
 obtain⟨e,he⟩:=Z3.1 ht
 refine⟨.int .i64 len,.int .i64 len,h,n,c,Bc (P:=P) (ev:=ev) ho _ _ _ λcs=>?_,by rw[V],R,F,ZB n c,hk⟩
 simp[builtin,Builtin.len_,AM (Ay he),goInt,hu]
theorem O1 {t:TypeId} {x:Operand} {j off z len cap:Nat} (ho:o.op=.call { callee:=.builtin .cap,args:=#[x],argTypes:=#[t] }) (ht:(A6 P t).isSome=true) (hx:evs x=.slc j off z len cap) (hk:K (.int .i64 cap) h n):EB E P evs o h n K:=by
 refine⟨by rw[ho];simp,λc ev _ _ R F hv=>?_⟩
 have hvx:=hv x
 rw[hx,V]at hvx
 obtain⟨b,st,_,hu,_⟩:=hvx
 obtain⟨e,he⟩:=Z3.1 ht
 refine⟨.int .i64 cap,.int .i64 cap,h,n,c,Bc (P:=P) (ev:=ev) ho _ _ _ λcs=>?_,by rw[V],R,F,ZB n c,hk⟩
 simp[builtin,Builtin.cap_,AM (Ay he),goInt,hu]
theorem Ox {isS:Bool} {len cap l m:Nat} {lo hi:Option Value} (hlo:(lo=none/\l=0)\/∃i,lo=some (.int i l)) (hhi:(hi=none/\m=len)\/∃i,hi=some (.int i m))
 (h1:l<=m) (h2:m<=cap) (w:World):(Instr.sliceBounds isS len cap lo hi none).run P w=.ok (l,m,cap) w:=by
 have hb:=λ(code:BoundsCode) (i:IntKind)=>FM (P:=P) (i:=i) (n:=(l:Int)) (y:=m) (code:=code) (by omega) (by omega) w
 have HZ:=λ(code:BoundsCode) (i:IntKind)=>FM (P:=P) (i:=i) (n:=(m:Int)) (y:=cap) (code:=code) (by omega) (by omega) w
 simp only[Int.toNat_natCast]at hb HZ
 rcases hlo with⟨rfl,hl⟩|⟨i,rfl⟩<;>rcases hhi with⟨rfl,hm⟩|⟨j,rfl⟩
 . simp[Instr.sliceBounds,hl,hm]
 . simp[Instr.sliceBounds,hl,HZ]
 . subst hm;simp[Instr.sliceBounds,hb]
 . simp[Instr.sliceBounds,hb,HZ]
theorem Ds {t e:TypeId} {x:Operand} {lo hi:Option Operand} {j off z len cap l m:Nat} (ho:o.op=.slice t x lo hi none) (ht:A6 P t=some e) (hz:Bh P e=z) (hz0:z≠0) (hx:evs x=.slc j off z len cap)
 (hlo:(lo=none/\l=0)\/∃y,lo=some y/\evs y=.int .i64 l) (hhi:(hi=none/\m=len)\/∃y,hi=some y/\evs y=.int .i64 m) (hlm:l<=m) (hm:m<=cap) (hl2:l<cap\/l=0)
 (hk:K (.slc j (off+l*z) z (m-l) (cap-l)) h n):EB E P evs o h n K:=by
 refine⟨by rw[ho];simp,λc ev _ _ R F hv=>?_⟩
 have hvx:=hv x
 rw[hx,V]at hvx
 obtain⟨b,st,hρ,hu,hcap,hroom⟩:=hvx
 obtain⟨ii,hi',hsz⟩:=EO (P:=P) (e:=e) (by omega)
 have hL:(lo.map ev=none/\l=0)\/∃i,lo.map ev=some (.int i l):=by
  rcases hlo with⟨rfl,e1⟩|⟨y,rfl,e1⟩
  . exact .inl ⟨rfl,e1⟩
  . have:=hv y;rw[e1]at this;exact .inr ⟨.i64,by simp[DQ this]⟩
 have hH:(hi.map ev=none/\m=len)\/∃i,hi.map ev=some (.int i m):=by
  rcases hhi with⟨rfl,e1⟩|⟨y,rfl,e1⟩
  . exact .inl ⟨rfl,e1⟩
  . have:=hv y;rw[e1]at this;exact .inr ⟨.i64,by simp[DQ this]⟩
 have hr:=Gb (P:=P) (Ay ht) ⟨ii,hi',hsz.symm.trans hz⟩ (some ⟨b,st+off,none⟩) len cap l m cap (Ox (isS:=true) hL hH hlm hm c.w)
 rw[<-hu]at hr
 refine⟨_,.slc j (off+l*z) z (m-l) (cap-l),h,n,c,by simp[execOp,ho,hr];rfl,?_,R,F,ZB n c,hk⟩
 rw[V]
 refine⟨b,st,hρ,?_,by omega,?_⟩
 . split
   . rename_i e1
     have:l=0:=by omega
     subst this;simp
   . simp[FT,Yn]
 . have:l*z+(cap-l)*z=cap*z:=by rw[<-Zg];congr 1;omega
   omega
theorem SJ {c:Cx} {q off:Nat} {cs xs:List SV} {ty:Option TypeId} {us:List Value} {b st:Nat} (R:Bl h c) (ho:h q=some (.cells cs ty)) (hρ:c.ρ q=some (b,st))
 (hle:off<=cs.length) (hge:cs.length<=off+xs.length) (hroom:st+off+us.length<=rm c.w b) (hx:AZ (V c) xs us) (h1:∀x∈us,x.oneCell'=true):
 ∃w',(storeCells ⟨b,st+off,none⟩ us).run P c.w=.ok () w'/\Bl (hset h q (some (.cells (cs.take off++xs) ty))) { c with w:=w' }/\DD c { c with w:=w' }:=by
 obtain⟨b',st',arr,e,vs,g1,g2,g3,g4,g5,g6⟩:=R.obj _ _ ho
 rw[hρ]at g1;cases g1
 have hl:=hx.length
 have hl2:=g4.length
 have hrm:rm c.w b=arr.size:=by simp[rm,g2]
 rw[hrm]at hroom
 have hrun:=run_storeCells_at (P:=P) b (st+off) e us 0 arr c.w g2 (by simpa using hroom) h1
 simp only[Zj]at hrun
 refine⟨_,hrun,?_⟩
 have hnew:=setRow_heap c.w b arr (arr.toList.take (st+off)++us++arr.toList.drop (st+off+us.length)).toArray e (0,0) g2
 refine R.write ho hρ (Hz _ _ _) (λb' hb'=>HP _ _ _ hb') ?_ rfl rfl (λE=>?_)
 . simp only[rm,g2,hnew];simp;omega
 . refine⟨b,st,_,e,vs.take off++us,hρ,hnew,λi x hx=>?_,X6 E (Zt (g4.take off) hx),λx hx=>?_,g6⟩
   . simp only[List.getElem?_toArray,Ye]
     have eA:(arr.toList.take (st+off)).length=st+off:=by simp;omega
     have eV:(vs.take off).length=off:=by simp;omega
     by_cases hi:i<off
     . rw[Zk (by omega)]at hx ⊢
       rw[YU,if_pos (by omega)]at hx ⊢
       simpa using g3 i x hx
     . rw[YR (by omega),eV]at hx
       have hi2:=(Y9.1 hx).1
       rw[YR (by omega),eA,Zk (by omega),show st+i-(st+off)=i-off by omega]
       exact hx
   . rcases Y8.1 hx with hx|hx
     . exact g5 x (Yw hx)
     . exact h1 x hx
theorem Qu {t t2 e:TypeId} {x y:Operand} {j z offd dl dcap offs sl scap k:Nat} {cs:List SV} {ty:Option TypeId} (ho:o.op=.call { callee:=.builtin .copy,args:=#[x,y],argTypes:=#[t,t2] }) (ht:A6 P t=some e) (hz:Bh P e=z) (hz0:z≠0)
 (hx:evs x=.slc j offd z dl dcap) (hy:evs y=.slc j offs z sl scap) (hj:h j=some (.cells cs ty)) (hk:Nat.min sl dl=k) (hin:offs+k*z<=cs.length) (hle:offd<=cs.length) (hge:cs.length<=offd+k*z)
 (hK:K (.int .i64 k) (hset h j (some (.cells (cs.take offd++(cs.drop offs).take (k*z)) ty))) n):EB E P evs o h n K:=by
 refine⟨by rw[ho];simp,λc ev _ _ R F hv=>?_⟩
 have hvx:=hv x
 have hvy:=hv y
 rw[hx,V]at hvx
 rw[hy,V]at hvy
 obtain⟨b,st,hρ,hu,hcap,hroom⟩:=hvx
 obtain⟨b',st',hρ',hu',hcap',hroom'⟩:=hvy
 rw[hρ]at hρ';cases hρ'
 obtain⟨ii,hi',hsz⟩:=EO (P:=P) (e:=e) (by omega)
 obtain⟨b',st',arr,e',vs,g1,g2,g3,g4,g5,g6⟩:=R.obj _ _ hj
 rw[hρ]at g1;cases g1
 have hvl:=g4.length
 have hul:((vs.drop offs).take (k*z)).length=k*z:=by simp;omega
 have hxl:((cs.drop offs).take (k*z)).length=k*z:=by simp;omega
 have hone:∀x∈(vs.drop offs).take (k*z),x.oneCell'=true:=λx hx=>g5 x (YP (Yw hx))
 have hkd:k*z<=dl*z:=Za _ (by rw[<-hk];exact Nat.min_le_right _ _)
 have hdc:dl*z<=dcap*z:=Za _ hcap
 obtain⟨w',hst,R',X⟩:=SJ (P:=P) (off:=offd) R hj hρ hle (by rw[hxl];exact hge) (by rw[hul];omega) ((g4.drop offs).take (k*z)) hone
 have hfirst:(Builtin.firstCells z k (.slice (some ⟨b,st+offs,none⟩) sl scap)).run P c.w=.ok ((vs.drop offs).take (k*z)).toArray c.w:=by
  have:=run_loadCells_list (P:=P) c.w ⟨b,st+offs,none⟩ ((vs.drop offs).take (k*z)) (λi v hv=>by
   rw[Cj rfl]
   rw[YU]at hv
   split at hv
   . rw[YM]at hv
     have:=g3 _ _ hv
     simp only[World.cell?,g2,Yn]
     simpa using this
   . cases hv)
  rw[hul]at this
  simpa[Builtin.firstCells]using this
 refine⟨.int .i64 k,.int .i64 k,_,n,_,Bc (P:=P) (ev:=ev) ho _ _ _ λc2=>?_,by rw[V],R',F,⟨X,Y1 _,λ_ _=>rfl⟩,hK⟩
 have hsz2:ii.size=z:=hsz.symm.trans hz
 simp[builtin,Builtin.copy_,AM (Ay ht),sizeOf,typeInfo,hi',hsz2,Builtin.lenOf,hu,hu',hk,hfirst,hst,goInt]
theorem O0 {t tn e:TypeId} {x y:Operand} {j off z len cap k:Nat} {cs:List SV} {ty:Option TypeId} (ho:o.op=.call { callee:=.builtin .append,args:=#[x,y],argTypes:=#[t,tn] }) (ht:A6 P t=some e) (htn:KU P tn=some .i64)
 (hz:Bh P e=z) (hz0:z≠0) (hst:(BH P e).storable=true) (hzl:(BH P e).cells.length=z) (hby:Bg P e<=65536) (hx:evs x=.slc j off z len cap) (hy:evs y=.int .i64 k) (hk0:0<k) (hgt:cap<len+k) (hbig:len+k<=1073741824)
 (hj:h j=some (.cells cs ty)) (hin:off+len*z<=cs.length)
 (hK:K (.sl n 0 z (len+k) false) (hset h n (some (.cells ((cs.drop off).take (len*z)++(List.replicate k (BH P e).cells).flatten)))) (n+1)):EB E P evs o h n K:=by
 refine⟨by rw[ho];simp,λc ev _ _ R F hv=>?_⟩
 have hvx:=hv x
 have hvy:=hv y
 rw[hx,V]at hvx
 rw[hy]at hvy
 have hvy:=DQ hvy
 obtain⟨b,st,hρ,hu,hcap,hroom⟩:=hvx
 obtain⟨ii,hi,hsz⟩:=EO (P:=P) (e:=e) (by omega)
 have hsz2:ii.size=z:=hsz.symm.trans hz
 obtain⟨i',zv,hi',hzz,hze⟩:=Bw hst
 rw[hi]at hi';cases hi'
 have hvz:=Ct c zv
 rw[<-hze]at hvz
 have hzsize:zv.cells.size=z:=by have:=(hvz.cells hst).1.length;simp at this;omega
 have hbb : ii.bytes ≤ 65536 := by have : Bg P e = ii.bytes := by simp [Bg, Program.bytesOf, hi]
                                   omega
 obtain⟨b',st',arr,e',vs,g1,g2,g3,g4,g5,g6⟩:=R.obj _ _ hj
 rw[hρ]at g1;cases g1
 have hvl:=g4.length
 have hul:((vs.drop off).take (len*z)).length=len*z:=by simp;omega
 obtain⟨zr,z1⟩:=G4 hvz hst k
 have A8:(Builtin.firstCells ii.size len (.slice (some ⟨b,st+off,none⟩) len cap)).run P c.w.drew=.ok ((vs.drop off).take (len*z)).toArray c.w.drew:=by
  have:=run_loadCells_list (P:=P) c.w.drew ⟨b,st+off,none⟩ ((vs.drop off).take (len*z)) (λi v hv=>by
   rw[Cj rfl]
   rw[YU]at hv
   split at hv
   . rw[YM]at hv
     have:=g3 _ _ hv
     simp only[World.cell?,F7,g2,Yn]
     simpa using this
   . cases hv)
  rw[hul]at this
  rw[hsz2]
  simpa[Builtin.firstCells]using this
 have hmul:(len+k)*ii.bytes<=1073741824*65536:=Nat.mul_le_mul hbig hbb
 have hmul2:k*ii.bytes<=1073741824*65536:=Nat.mul_le_mul (by omega) hbb
 have hr:=Lib.run_append_grow_zeros (P:=P) c.w t tn o.type e ii zv .i64 .i64 (Ay ht) (GA htn) hi hzz (some ⟨b,st+off,none⟩) len cap _ A8 k hk0 (by omega) hgt (by omega) (by omega) (growslice_fits hgt (by omega))
 have hcell:=Ee zv.cells (by omega) k
 have hfr:c.ρ n=none:=F n (Y1 n)
 have Rn:=Jq (k:=n) (e:=e) (ty:=none) (cs:=(cs.drop off).take (len*z)++(List.replicate k (BH P e).cells).flatten) (vs:=(vs.drop off).take (len*z)++(Builtin.zeroCells zv.cells k).toList) (arr:=((vs.drop off).take (len*z)).toArray++Builtin.zeroCells zv.cells k++Builtin.zeroCells zv.cells (grownCap c.w (len+k) cap e-(len+k))) R.drew (by exact hfr)
  (Zt (X6 c.drew_ext ((g4.drop off).take (len*z))) (by rw[show(Builtin.zeroCells zv.cells k).toList=(List.replicate k zv.cells.toList).flatten from hcell];exact X6 c.drew_ext zr))
  (λx hx=>by
    rcases Y8.1 hx with hx|hx
    . exact g5 x (YP (Yw hx))
    . rw[show(Builtin.zeroCells zv.cells k).toList=(List.replicate k zv.cells.toList).flatten from hcell]at hx;exact z1 x hx)
  (λi x hx=>by
    have hlt:=(Y9.1 hx).1
    rw[Zp (by simpa using hlt)]
    rw[<-Array.getElem?_toList]
    simpa using hx) Ty.none
 have En:=c.drew_ext.trans (c.drew.alloc_ext n (.cells (((vs.drop off).take (len*z)).toArray++Builtin.zeroCells zv.cells k++Builtin.zeroCells zv.cells (grownCap c.w (len+k) cap e-(len+k))) e) (by exact hfr))
 have hcap2:len+k<=grownCap c.w (len+k) cap e:=by unfold grownCap;exact Nat.le_add_right _ _
 refine⟨.slice (some ⟨c.w.heap.size,0,none⟩) (len+k) (grownCap c.w (len+k) cap e),.sl n 0 z (len+k) false,_,n+1,_,Bc (P:=P) (ev:=ev) ho _ _ _ λc2=>?_,?_,Rn,?_,⟨En,by omega,λj hj=>?_⟩,hK⟩
 . simp only[builtin,Sem.run_bind,List.map_toArray,Yf,YF,hu,hvy]
   rw[hr];rfl
 . rw[V]
   refine⟨c.w.heap.size,0,grownCap c.w (len+k) cap e,by simp[Cx.alloc,Cx.drew,F7],by simp,hcap2,by simp,?_⟩
   have e6:(len+k)*z+(grownCap c.w (len+k) cap e-(len+k))*z=grownCap c.w (len+k) cap e*z:=by rw[<-Zg];congr 1;omega
   have e8:len*z+k*z=(len+k)*z:=by rw[Zg]
   have e7:rm (c.drew.alloc n (.cells (((vs.drop off).take (len*z)).toArray++Builtin.zeroCells zv.cells k++Builtin.zeroCells zv.cells (grownCap c.w (len+k) cap e-(len+k))) e)).w c.w.heap.size =
    (((vs.drop off).take (len*z)).toArray++Builtin.zeroCells zv.cells k++Builtin.zeroCells zv.cells (grownCap c.w (len+k) cap e-(len+k))).size:=by
    simp[rm,Cx.alloc,Cx.drew,Be,F7]
   rw[e7]
   simp only[Array.size_append,List.size_toArray,hul,Builtin.zeroCells,Array.size_map,Array.size_range,hzsize]
   omega
 . intro j hj
   have:j≠n:=by omega
   simp[Cx.alloc,Cx.drew,this]
   exact F j (by omega)
 . have:j≠n:=by omega
   simp[Cx.alloc,Cx.drew,this]
def isX (o:Oper):Bool:=match o.op with|.call { callee:=.value (.func f),.. }=>f==183|_=>false
def JO (E:Br) (P:Program) (ops:Array Oper) (Q:SA->Hp->Nat->Prop):List Oper->SA->Hp->Nat->Prop
 | [],sa,h,n=>Q sa h n
 | o::rest,sa,h,n=>o.guard=none/\
  if isX o=true then EB E P (Gf sa) o h n λv h' n'=>JO E P ops Q rest (Dr sa o.dst v) h' n' else KJ E P o sa h n λv h' n'=>JO E P ops Q rest (Dr sa o.dst v) h' n'
variable {N : Nat} {ops : Array Oper}
theorem KH {Q:SA->Hp->Nat->Prop} (Qp:Cc) (hQ:∀sa h n,Q sa h n->Qp .normal sa h n):∀(l:List Oper) (sa:SA) (h:Hp) (n n0:Nat) (c0 c:Cx) (a:Act),(∀o∈l,o.dst.all (· < N)=true)->
 JO E P ops Q l sa h n->E.inv c->Bl h c->Fr n c->FR E N sa c a->Ff n0 c0 n c->wpListIn E.fc 0 P ops (RP E N n0 c0 Qp) l a c.w
 | [],sa,h,n,n0,c0,c,a,_,H,I,R,F,A,X=>⟨sa,h,n,c,hQ _ _ _ H,rfl,R,F,A,X⟩
 | o :: rest, sa, h, n, n0, c0, c, a, hd, H, I, R, F, A, X => by
  have hdo:∀d,o.dst=some d->d<N:=λd e=>by have:=hd o (by simp);rw[e]at this;simpa using this
  simp only[JO]at H
  simp only[wpListIn]
  obtain⟨hg,H⟩:=H
  have hg2:DV ops sa o=some true:=by simp[DV,hg]
  rw[Gm A hg2,if_pos rfl]
  have fin:∀v h' n' c' u,JO E P ops Q rest (Dr sa o.dst v) h' n'->V c' v u->Bl h' c'->Fr n' c'->Ff n c n' c'->wpListIn E.fc 0 P ops (RP E N n0 c0 Qp) rest (a.put o.dst u) c'.w:=λv h' n' c' u hk hv R' F' X'=>
   KH Qp hQ rest _ h' n' n0 c0 c' _ (λo ho=>hd o (by simp[ho])) hk (E.ext X'.ext I) R' F' ((A.ext X'.ext).put hdo hv) (X.trans X')
  split at H
  . obtain⟨hd2,H⟩:=H
    refine⟨λ_ _=>trivial,?_⟩
    rw[Oper.semAt_eq _ _ _ hd2]
    obtain⟨u,v,h',n',c',hr,hv,R',F',X',hk⟩:=H c a.eval (λ_=>rfl) I R F A.ev
    rw[hr]
    exact fin v h' n' c' u hk hv R' F' X'
  . exact H5 H I R F A λv h' n' c' u hk hv R' F' X'=>fin v h' n' c' u hk hv R' F' X'
theorem N1 {id:Nat} {Q:Cc} {sa:SA} {h:Hp} {n:Nat} (H:JO E P ops (Q .normal) ops.toList sa h n):Fk E P N (.region id ops false) Q sa h n:=by
 intro hd c a I R F A
 simp only[Code.dok,YL]at hd
 exact wpIn_region_list (KH Q (λ_ _ _ h=>h) _ sa h n n c c a hd H I R F A (ZB n c))
end
section
variable {E : Br} {evs : Operand → SV} {o : Oper} {h : Hp} {n : Nat} {K : SV → Hp → Nat → Prop}
theorem Nf {f x y:Operand} {ts:Array TypeId} {k j off len cap:Nat} {a b c':SV} {full:Bool} {ds:List SV} {ty ty':Option TypeId} (ho:o.op=.call { callee:=.value f,args:=#[x,y],argTypes:=ts }) (hf:evs f=.fn (.func 183) [] [])
 (hx:evs x=.sl k 0 3 1 full) (hy:evs y=.slc j off 3 len cap) (hne:k≠j) (hk:h k=some (.cells [a,b,c'] ty)) (hj:h j=some (.cells ds ty')) (hds:ds≠[]) (hK:K (.bool false) h n):EB E Tryz.prog evs o h n K:=by
 refine⟨by rw[ho];simp,λc ev _ _ R F hv=>?_⟩
 have hvf:=hv f
 have hvx:=hv x
 have hvy:=hv y
 rw[hf,V]at hvf
 obtain⟨xs,ys,hvf,h1,h2⟩:=hvf
 simp only[VL]at h1 h2
 subst h1;subst h2
 rw[hx,V]at hvx
 rw[hy,V]at hvy
 obtain⟨bk,sk,capk,hρk,huk,_⟩:=hvx
 obtain⟨bj,sj,hρj,huj,_⟩:=hvy
 obtain⟨b1,s1,arrk,ek,vk,p1,p2,p3,p4,_⟩:=R.obj _ _ hk
 rw[hρk]at p1;cases p1
 obtain⟨b2,s2,arrj,ej,vj,q1,q2,q3,q4,_⟩:=R.obj _ _ hj
 rw[hρj]at q1;cases q1
 have hb:bk≠bj:=by
  rintro rfl
  exact hne (R.inj k j _ _ bk sk sj hk hj hρk hρj)
 have hlj:arrj.size≠0:=by
  have hl:=q4.length
  have:0<ds.length:=Yi.2 hds
  have h0:vj[0]? = some vj[0]:=Yr (by omega)
  have:=(Yd.1 (q3 _ _ h0)).1
  omega
 obtain⟨i42,hi42,h3⟩:=YI.1 (show(Tryz.prog.info? 42).map (·.size)=some 3 by kernel_rfl)
 have hsz:∀w,(Go.sizeOf 42).run Tryz.prog w=.ok 3 w:=λw=>by simp[sizeOf,typeInfo,hi42,h3]
 have hov:=Lib.run_overlaps_apart (P:=Tryz.prog) c.w 30 4 42 Tryz.underlying30 3 hsz ⟨bk,sk+0,none⟩ ⟨bj,sj+off,none⟩ 1 capk len cap hb ek ej arrk.size arrj.size (by simp[World.shape?,p2]) (by simp[World.shape?,q2]) hlj (by simp[World.frozen?,p2]) (by simp[World.frozen?,p2])
 have hcall:=run_callFunc_extern (P:=Tryz.prog) Tryz.func183 (by kernel_rfl) (by kernel_rfl) (by kernel_rfl) (e:=Extern.SlicesOverlaps.overlaps #[30,30] #[4]) (by kernel_rfl) #[.slice (some ⟨bk,sk+0,none⟩) 1 capk,.slice (some ⟨bj,sj+off,none⟩) len cap] c.w
 rw[hov]at hcall
 refine⟨.bool false,.bool false,h,n,c,?_,by rw[V],R,F,ZB n c,hK⟩
 simp only[Result.andThen_ok]at hcall
 simp[execOp,ho,resolve,Deferred.ofValue,hvf,invoke,huk,huj]
 simpa using hcall
end
theorem Ak.cap {E:Br} {P:Program} {f:FuncId} {us:List SV} {o off z len:Nat} {full:Bool} {h:Hp} {n:Nat} {Q:SV->Hp->Nat->Prop} (H:∀cap,len<=cap->Ak E P f (.slc o off z len cap::us) h n Q):Ak E P f (.sl o off z len full::us) h n Q:=by
 refine⟨(H len (Y1 _)).1,λc vs I R F A=>?_⟩
 match vs,A with
 | v::vs,A=>
  obtain⟨hv,hA⟩:=A
  rw[V]at hv
  obtain⟨b,st,cap,h1,h2,h3,_,h4⟩:=hv
  exact(H cap h3).2 c (v::vs) I R F ⟨by rw[V];exact⟨b,st,h1,h2,h3,h4⟩,hA⟩
def Tl:Tr:=.pure 0 (.pure 1 (.pure 2 (.pure 3 (.pure 5 (.pure 6 (.two 4 7 (.one 7 (.one 8 .nil)) (.one 4 (.one 8 .nil))))))))
def Bp (l:List BD):List SV:=(l.map BD.enc).flatMap SV.cells
theorem GM (l:List BD):(Bp l).length=l.length*3:=by
 have:=BE (z:=3) (BD.E.size l)
 rw[Y5]at this;exact this
theorem Jr (l:List BD) (i:Nat) (hi:i<=l.length):(Bp l).take (i*3)=Bp (l.take i):=by
 have h1:Bp l=Bp (l.take i)++Bp (l.drop i):=by
  unfold Bp;rw[<-Z7,<-Y3,Z4]
 have h2:=GM (l.take i)
 rw[h1,List.take_append_of_le_length (by rw[h2];simp;omega),Yl (by rw[h2];simp;omega)]
theorem Mr (l:List BD) (i:Nat) (hi:i<=l.length):(Bp l).drop (i*3)=Bp (l.drop i):=by
 have h1:Bp l=Bp (l.take i)++Bp (l.drop i):=by
  unfold Bp;rw[<-Z7,<-Y3,Z4]
 have h2:=GM (l.take i)
 rw[h1,List.drop_append_of_le_length (by rw[h2];simp;omega),ZC (by rw[h2];simp;omega)]
 rfl
theorem Ov (a b:List BD):Bp (a++b)=Bp a++Bp b:=by unfold Bp;rw[Y3,Z7]
def FJ (l:List BD) (i:Nat) (r:BD):List BD:=l.take i++r::l.drop i
theorem R7 (l:List BD) (i:Nat) (r:BD) (hi:i<=l.length):(FJ l i r).length=l.length+1:=by unfold FJ;simp;omega
set_option maxHeartbeats 4000000 in
theorem d117c (l:List BD) (hl:l.length<=1048576) (i:Nat) (hi:i<l.length) (r:BD) {H:Hp} {n o k cap:Nat} (hcap:l.length<=cap) (hH:H o=some (.cells (Bp l))) (hk:H k=some (.cells [AA r.id,.str r.author,AA r.time])) (hok:k≠o):
 BM Tryz.prog 117 [.slc o 0 3 l.length cap,AA i,.sl k 0 3 1 true] H n (λv h' n'=>v=Aw (FJ l i r)/\h'=hset H o none/\n'=n):=by
 refine Dg Tryz.func117 rfl λho=>?_
 have hHb:=ho.lt
 have ht:A6 Tryz.prog 30=some 42:=by simp[go_sem]
 have hz:Bh Tryz.prog 42=3:=by simp[go_sem]
 have hst:(BH Tryz.prog 42).storable=true:=by simp[go_sem]
 have hzl:(BH Tryz.prog 42).cells.length=3:=by simp[go_sem]
 have hb:Bg Tryz.prog 42<=65536:=by simp[go_sem]
 have hti:KU Tryz.prog 3=some .i64:=by simp[go_sem]
 have ht2:(A6 Tryz.prog 30).isSome=true:=by rw[ht];rfl
 have hC:=GM l
 have hon:=hHb o _ hH
 have hkn:=hHb k _ hk
 have w1:=wS i (by omega)
 have w2:IntKind.i64.wrap ((l.length:Int)+1)=((l.length+1:Nat):Int):=by rw[DR]<;>omega
 refine GB 0 [(0,.slc o 0 3 l.length cap),(1,AA i),(2,.sl k 0 3 1 true)] H n (AI ?_) (λm hm=>?_)
 . simp[go_sem,Y0]
 subst hm
 refine GB 0 [(0,.slc o 0 3 l.length cap),(1,AA i),(2,.sl k 0 3 1 true)] H n (AI ?_) (λm hm=>?_)
 . simp[go_sem]
   refine Ds (j:=o) (off:=0) (z:=3) (len:=l.length) (cap:=cap) (l:=i) (m:=l.length) rfl ht hz (by omega) (by simp[go_sem]) (.inr ⟨_,rfl,by simp[go_sem]⟩) (.inl ⟨rfl,rfl⟩) (by omega) hcap (by omega) ?_
   simp[go_sem,Y0]
 subst hm
 refine GB 0 [(0,.slc o 0 3 l.length cap),(1,AA i),(2,.sl k 0 3 1 true),(7,AA 1)] H n (AI ?_) (λm hm=>?_)
 . simp[go_sem,Y0]
 subst hm
 refine GB 0 [(0,.slc o 0 3 l.length cap),(1,AA i),(2,.sl k 0 3 1 true),(7,AA 1)] H n (AI ?_) (λm hm=>?_)
 . simp[go_sem,Y0]
 subst hm
 refine GB 0 [(0,.slc o 0 3 l.length cap),(1,AA i),(2,.sl k 0 3 1 true),(7,AA 1),(8,AA l.length)] H n (AI ?_) (λm hm=>?_)
 . simp[go_sem]
   refine SZ (j:=o) (off:=0) (z:=3) (len:=l.length) (cap:=cap) rfl ht2 (by simp[go_sem]) ?_
   simp[go_sem,Y0]
 subst hm
 refine GB 0 [(0,.slc o 0 3 l.length cap),(1,AA i),(2,.sl k 0 3 1 true),(7,AA 1),(8,AA l.length)] H n (AI ?_) (λm hm=>?_)
 . have:((i:Int)==l.length)=false:=by simp;omega
   simp[go_sem,Y0,this]
 subst hm
 have fin:∀(q:Nat) (full:Bool) (h':Hp) (n':Nat),n<=q\/q=o->h' q=some (.cells (Bp (FJ l i r)))->(∀j,j<n->j≠o->h' j=H j)->Bz n h' n' (.sl q 0 3 (l.length+1) full) (λv h' n'=>v=Aw (FJ l i r)/\h'=hset H o none/\n'=n):=λq full h' n' hq hc hh=>by
  have hcs:=GM (FJ l i r)
  have hon:hset H o none q=none:=by
   rcases hq with hq|rfl
   . rw[AD _ _ (by omega)];exact ho.none hq
   . exact AC _ _ _
  refine .inr ⟨1,Aw (FJ l i r),hset H o none,?_,BD.E.imm _ _ _ _,λj y e2=>?_,rfl,rfl,rfl⟩
  . have:=Dj (h':=h') (h:=hset H o none) (k:=0) (z:=3) (es:=(FJ l i r).map BD.enc) (full:=full) (full':=false) (o:=q) hon (by simp) hc (BD.E.size _)
    rw[Y5,R7 _ _ _ (by omega)]at this;exact this
  . by_cases e1:j=o
    . subst e1;rw[AC]at e2;cases e2
    . rw[AD _ _ e1]at e2
      have:=hHb j y e2
      exact⟨by rw[hh j this e1];exact e2,ho j y e2⟩
 have hrc:Bp [r]=[AA r.id,.str r.author,AA r.time]:=by simp[Bp,BD.enc,SV.cells]
 have hins:Bp (FJ l i r)=Bp (l.take i)++(Bp [r]++Bp (l.drop i)):=by
  rw[<-Ov,<-Ov];rfl
 have hlt:(Bp (l.take i)).length=i*3:=by rw[GM];simp;omega
 have hld:(Bp (l.drop i)).length=(l.length-i)*3:=by rw[GM];simp
 have hrl:(Bp [r]).length=3:=by rw[hrc];rfl
 by_cases hc:cap<l.length+1
 . refine Ei ?_
   refine GB 0 [(0,.slc o 0 3 l.length cap),(1,AA i),(2,.sl k 0 3 1 true),(7,AA 1),(8,AA l.length),(31,.bool true)] H n (AI ?_) (λm hm=>?_)
   . simp[go_sem,w2]
     refine O1 (j:=o) (off:=0) (z:=3) (len:=l.length) (cap:=cap) rfl ht2 (by simp[go_sem]) ?_
     have:(cap:Int)<(l.length:Int)+1:=by omega
     simp[go_sem,Y0,this]
   subst hm
   refine Ag (b:=true) (by simp[go_sem]) ?_
   simp only[if_true]
   obtain⟨Z,hZ⟩:∃Z,Z=(List.replicate (l.length+1-i) (BH Tryz.prog 42).cells).flatten:=⟨_,rfl⟩
   have hZl:Z.length=(l.length+1-i)*3:=by rw[hZ,List.length_flatten];simp[hzl]
   refine CB 1 [(0,.sl o 0 3 l.length false),(1,AA i),(2,.sl k 0 3 1 true),(7,AA 1),(9,.sl n 0 3 (l.length+1) false)] (hset H n (some (.cells (Bp (l.take i)++Z)))) (λm=>n+1=m) (AI ?_) (λm hm=>?_)
   . simp[go_sem]
     refine Ds (j:=o) (off:=0) (z:=3) (len:=l.length) (cap:=cap) (l:=0) (m:=i) rfl ht hz (by omega) (by simp[go_sem]) (.inl ⟨rfl,rfl⟩) (.inr ⟨_,rfl,by simp[go_sem]⟩) (by omega) (by omega) (by omega) ?_
     have w3:IntKind.i64.wrap (((l.length+1:Nat):Int)-i)=((l.length+1-i:Nat):Int):=by rw[DR]<;>omega
     simp[go_sem,w2,w3,-Int.natCast_add]
     refine O0 (j:=o) (off:=0) (z:=3) (len:=i) (cap:=cap) (k:=l.length+1-i) (e:=42) rfl ht hti hz (by omega) hst hzl hb (by simp[go_sem]) (by simp[go_sem]) (by omega) (by omega) (by omega) hH (by omega) ?_
     rw[<-hZ]
     have e1:((Bp l).drop 0).take (i*3)=Bp (l.take i):=by rw[ZV];exact Jr l i (by omega)
     have e2:i+(l.length+1-i)=l.length+1:=by omega
     rw[e1,e2]
     simp[go_sem,Fz]
   subst hm
   have hio:¬((i:Int)=l.length+1):=by omega
   have hile:(i:Int)<=l.length+1:=by omega
   have hGk:∀(y:Option BT),hset H n y k=some (.cells [AA r.id,.str r.author,AA r.time]):=λy=>by rw[AD _ _ (by omega)];exact hk
   have hGo:∀(y:Option BT),hset H n y o=some (.cells (Bp l)):=λy=>by rw[AD _ _ (by omega)];exact hH
   refine CB 0 [(0,.sl o 0 3 l.length false),(1,AA i),(7,AA 1),(9,.sl n 0 3 (l.length+1) false)] (hset H n (some (.cells (Bp (l.take i)++(Bp [r]++Z.drop 3))))) (λm=>n+1=m) (AI ?_) (λm hm=>?_)
   . have hmin:Nat.min 1 (l.length+1-i)=1:=Zz (by omega)
     have h0:¬(l.length+1-i=0):=by omega
     have h5:i*3+3<=i*3+Z.length:=by omega
     have hdd:(Bp (l.take i)).drop (i*3+3)=[]:=ZC (by omega)
     simp[go_sem,hio,hile,hGk,AC,hmin,hlt,h5,Y0,AY,List.drop_append,hrc,hdd]
   subst hm
   refine AV 0 (α:=Unit) (λ_=>[(9,.sl n 0 3 (l.length+1) false)]) (λ_=>hset H n (some (.cells (Bp (FJ l i r))))) (λ_ m=>n+1=m) (B7 Tl rfl (by kernel_rfl) (by kernel_rfl) ?_) (λ_ m hm=>?_)
   . have hin:¬((i:Int)=l.length):=by omega
     have hil:(i:Int)<=l.length:=by omega
     have h6:(i:Int)+1<=l.length+1:=by omega
     have hmin:Nat.min (l.length-i) (l.length-i)=l.length-i:=Nat.min_self _
     have h0:¬(l.length-i=0):=by omega
     have h1:((i:Int)+1).toNat=i+1:=by omega
     have h2:(0:Int)<=(i:Int)+1:=by omega
     have h3:((l.length:Int)+1-((i:Int)+1)).toNat=l.length-i:=by omega
     have h4:i*3+(l.length-i)*3<=(Bp l).length:=by omega
     have h5:((Bp l).drop (i*3)).take ((l.length-i)*3)=Bp (l.drop i):=by rw[Mr l i (by omega)];exact Yl (by omega)
     have h6':(Bp (l.take i)++(Bp [r]++Z.drop 3)).take ((i+1)*3)=Bp (l.take i)++Bp [r]:=by
      rw[<-Ye];exact List.take_left' (by rw[Ym];omega)
     have h7:(Bp (l.take i)++(Bp [r]++Z.drop 3)).drop ((i+1)*3+(l.length-i)*3)=[]:=ZC (by simp only[Ym,List.length_drop];omega)
     have h8:(i+1)*3+(l.length-i)*3<=(Bp (l.take i)++(Bp [r]++Z.drop 3)).length:=by simp only[Ym,List.length_drop];omega
     have h9:(Bp (l.drop i)).take ((l.length-i)*3)=Bp (l.drop i):=Yl (by omega)
     rw[hins,<-Ye]
     generalize(Bp (l.take i)++(Bp [r]++Z.drop 3))=A at *
     simp[go_sem,Tl,w1,hin,hil,h6,h1,h2,h3,h4,h5,h6',h7,h8,h9,hGo,AC,hmin,h0,hld,Y0,AY]
   subst hm
   refine AI ?_
   simp[go_sem]
   exact fin n false _ _ (.inl (Y1 n)) (AC _ _ _) λj hj _=>AD _ _ (by omega)
 . refine GB 0 [(0,.slc o 0 3 l.length cap),(1,AA i),(2,.sl k 0 3 1 true),(7,AA 1),(8,AA l.length)] H n ?_ (λm hm=>?_)
   . refine GB 0 [(0,.slc o 0 3 l.length cap),(1,AA i),(2,.sl k 0 3 1 true),(7,AA 1),(8,AA l.length),(31,.bool false)] H n (AI ?_) (λm hm=>?_)
     . simp[go_sem,w2]
       refine O1 (j:=o) (off:=0) (z:=3) (len:=l.length) (cap:=cap) rfl ht2 (by simp[go_sem]) ?_
       have:¬((cap:Int)<(l.length:Int)+1):=by omega
       simp[go_sem,Y0,this]
     subst hm
     refine AI ?_
     simp[go_sem,Y0]
   subst hm
   refine GB 0 [(0,.slc o 0 3 (l.length+1) cap),(1,AA i),(2,.sl k 0 3 1 true),(7,AA 1),(8,AA l.length)] H n (AI ?_) (λm hm=>?_)
   . simp[go_sem,w2,-Int.natCast_add]
     refine Ds (j:=o) (off:=0) (z:=3) (len:=l.length) (cap:=cap) (l:=0) (m:=l.length+1) rfl ht hz (by omega) (by simp[go_sem]) (.inl ⟨rfl,rfl⟩) (.inr ⟨_,rfl,by simp[go_sem]⟩) (by omega) (by omega) (by omega) ?_
     simp[go_sem,Y0]
   subst hm
   refine Ei ?_
   refine AV 0 (α:=Unit) (λ_=>[(0,.slc o 0 3 (l.length+1) cap),(1,AA i),(2,.sl k 0 3 1 true),(7,AA 1),(68,.bool true)]) (λ_=>H) (λ_ m=>n=m) (N1 ?_) (λ_ m hm=>?_)
   . simp[go_sem,JO,isX,w1,-Int.natCast_add]
     refine Ds (j:=o) (off:=0) (z:=3) (len:=l.length+1) (cap:=cap) (l:=i+1) (m:=l.length+1) rfl ht hz (by omega) (by simp[go_sem]) (.inr ⟨_,rfl,by simp[go_sem]⟩) (.inl ⟨rfl,rfl⟩) (by omega) (by omega) (by omega) ?_
     simp[go_sem]
     refine Nf (k:=k) (j:=o) (off:=(i+1)*3) (len:=l.length-i) (cap:=cap-(i+1)) (full:=true) rfl (by simp[go_sem]) (by simp[go_sem]) (by simp[go_sem]) hok hk hH (λe=>by rw[e]at hC;simp at hC;omega) ?_
     simp[go_sem,Y0]
   subst hm
   refine Ag (b:=true) (by simp[go_sem]) ?_
   simp only[if_true]
   have g1:(Bp l).take ((i+1)*3)=Bp (l.take (i+1)):=Jr l (i+1) (by omega)
   have g2:((Bp l).drop (i*3)).take ((l.length-i)*3)=Bp (l.drop i):=by rw[Mr l i (by omega)];exact Yl (by omega)
   have A1:∀{evs:Operand->SV} {x y:Operand} {o':Oper} {Q:SV->Hp->Nat->Prop},o'.op=.call { callee:=.builtin .copy,args:=#[x,y],argTypes:=#[30,30] }->evs x=.slc o ((i+1)*3) 3 (l.length-i) (cap-(i+1))->evs y=.slc o (i*3) 3 (l.length+1-i) (cap-i)->Q (.int .i64 ↑(l.length-i)) (hset H o (some (.cells (Bp (l.take (i+1))++Bp (l.drop i))))) n->EB (Br.plain.call false 0) Tryz.prog evs o' H n Q:=λho hx hy hq=>
    Qu (k:=l.length-i) ho ht hz (by omega) hx hy hH (Nat.min_eq_right (by omega)) (by omega) (by omega) (by omega) (by rw[g1,g2];exact hq)
   refine AV 1 (α:=Unit) (λ_=>[(0,.sl o 0 3 (l.length+1) false),(1,AA i),(2,.sl k 0 3 1 true)]) (λ_=>hset H o (some (.cells (Bp (l.take (i+1))++Bp (l.drop i))))) (λ_ m=>n=m) (B7 Tl rfl (by kernel_rfl) (by kernel_rfl) ?_) (λ_ m hm=>?_)
   . simp[go_sem,Tl,w1,-Int.natCast_add]
     have e1:l.length+1-(i+1)=l.length-i:=by omega
     refine⟨?_,?_⟩
     . refine Ds (j:=o) (off:=0) (z:=3) (len:=l.length+1) (cap:=cap) (l:=i+1) (m:=l.length+1) rfl ht hz (by omega) (by simp[go_sem]) (.inr ⟨_,rfl,by simp[go_sem]⟩) (.inl ⟨rfl,rfl⟩) (by omega) (by omega) (by omega) ?_
       simp[go_sem]
       refine Ds (j:=o) (off:=0) (z:=3) (len:=l.length+1) (cap:=cap) (l:=i) (m:=l.length+1) rfl ht hz (by omega) (by simp[go_sem]) (.inr ⟨_,rfl,by simp[go_sem]⟩) (.inl ⟨rfl,rfl⟩) (by omega) (by omega) (by omega) ?_
       simp[go_sem]
       refine A1 rfl (by simp[go_sem]) (by simp[go_sem]) ?_
       simp[go_sem,Fz]
     . refine Ds (j:=o) (off:=0) (z:=3) (len:=l.length+1) (cap:=cap) (l:=i) (m:=l.length+1) rfl ht hz (by omega) (by simp[go_sem]) (.inr ⟨_,rfl,by simp[go_sem]⟩) (.inl ⟨rfl,rfl⟩) (by omega) (by omega) (by omega) ?_
       simp[go_sem,-Int.natCast_add]
       refine Ds (j:=o) (off:=0) (z:=3) (len:=l.length+1) (cap:=cap) (l:=i+1) (m:=l.length+1) rfl ht hz (by omega) (by simp[go_sem]) (.inr ⟨_,rfl,by simp[go_sem]⟩) (.inl ⟨rfl,rfl⟩) (by omega) (by omega) (by omega) ?_
       simp[go_sem]
       refine A1 rfl (by simp[go_sem]) (by simp[go_sem]) ?_
       simp[go_sem,Fz]
   subst hm
   have g3:(Bp (l.take (i+1))).length=(i+1)*3:=by rw[GM];simp;omega
   refine GB 0 [(0,.sl o 0 3 (l.length+1) false)] (hset H o (some (.cells (Bp (FJ l i r))))) n (AI ?_) (λm hm=>?_)
   . have hio:¬((i:Int)=l.length+1):=by omega
     have hile:(i:Int)<=l.length+1:=by omega
     have hGk:∀(y:Option BT),hset H o y k=some (.cells [AA r.id,.str r.author,AA r.time]):=λy=>by rw[AD _ _ hok];exact hk
     have hmin:Nat.min 1 (l.length+1-i)=1:=Zz (by omega)
     have h0:¬(l.length+1-i=0):=by omega
     have h5:i*3+3<=(Bp (l.take (i+1))++Bp (l.drop i)).length:=by rw[Ym];omega
     have h6:(Bp (l.take (i+1))++Bp (l.drop i)).take (i*3)=Bp (l.take i):=by
      rw[List.take_append_of_le_length (by omega),Jr _ _ (by simp;omega),List.take_take,Zz (by omega)]
     have h7:(Bp (l.take (i+1))++Bp (l.drop i)).drop (i*3+3)=Bp (l.drop i):=List.drop_left' (by omega)
     rw[hins,hrc]
     generalize Bp (l.take (i+1))++Bp (l.drop i)=A at *
     simp[go_sem,hio,hile,hGk,AC,hmin,h5,h6,h7,Y0,AY]
   subst hm
   refine AI ?_
   simp[go_sem]
   exact fin o false _ _ (.inr rfl) (AC _ _ _) λj hj e=>AD _ _ e
theorem R6 (l:List BD) (r:BD):FJ l l.length r=l++[r]:=by unfold FJ;simp
theorem Rh (l:List BD) (hl0:l≠[]) (hl:l.length<=1048576) (i:Nat) (hi:i<=l.length) (r:BD) {H:Hp} {n o k:Nat} {full:Bool} (hH:H o=some (.cells ((l.map BD.enc).flatMap SV.cells))) (hk:H k=some (.cells [AA r.id,.str r.author,AA r.time])) (hok:o≠k):
 BM Tryz.prog 117 [.sl o 0 3 l.length full,AA i,.sl k 0 3 1 true] H n (λv h' n'=>v=Aw (FJ l i r)/\h'=hset H o none/\n'=n):=by
 rcases YX i l.length with h|h
 . exact Ak.cap λcap hc=>d117c l hl i h r hc hH hk hok.symm
 . have:i=l.length:=by omega
   subst this
   have:=d117 l hl0 hl r (full:=full) (n:=n) hH hk hok
   rw[R6];exact this
set_option maxHeartbeats 2000000 in
theorem UT (l:List BD) (hl0:l≠[]) (hl:l.length<256) (r:BD) (h0:DX l=0) (h1:CY r=0) (i:Nat) (hi:i<=l.length) (hb:BF (HN l r.id) l.length=(i,false)):PC 45 [Aw l,r.enc] (.tup [Aw (FJ l i r),AA 0]):=by
 intro h n
 refine Dg Tryz.func45 rfl λho=>?_
 have hHb:=ho.lt
 refine Ab 1 [(0,Aw l),(3,.iptr [AA r.id,.str r.author,AA r.time])] h n ?_ (λm hm=>?_)
 . simp[go_sem,BD.enc,Y0]
   exact⟨AT (Ac hHb (Y1 _)) (AC _ _ _),AK hHb AB⟩
 refine Bt 0 [(0,Aw l),(3,.iptr [AA r.id,.str r.author,AA r.time])] h n (AI ?_) (λm hm=>?_)
 . simp[go_sem]
   refine Yj (c71 l (by omega)) ?_
   rw[h0]
   simp[go_sem,Y0,hm]
 refine Bt 0 [(0,Aw l),(3,.iptr [AA r.id,.str r.author,AA r.time])] h n (AI ?_) (λm hm=>?_)
 . simp[go_sem]
   refine Yj (by simpa[BD.enc]using c42 r) ?_
   rw[h1]
   simp[go_sem,Y0,hm]
 refine Ab 0 [(0,Aw l),(3,.iptr [AA r.id,.str r.author,AA r.time]),(8,AA i),(9,.bool false)] h n ?_ (λm hm=>?_)
 . simp[go_sem]
   refine Yj (c72 l (by omega) r.id) ?_
   rw[hb]
   simp[go_sem,Y0,hm]
 refine Bt 0 [(0,Aw l),(3,.iptr [AA r.id,.str r.author,AA r.time]),(8,AA i)] h n (AI ?_) (λm hm=>?_)
 . have:¬(256:Int)<=l.length:=by omega
   simp[go_sem,Y0,hm,this]
 refine AV 0 (α:=Unit) (λ_=>[(4,Aw (FJ l i r)),(5,AA 0)]) (λ_=>h) (λ_ m=>n<=m) (B7 trIn rfl (by kernel_rfl) (by kernel_rfl) ?_) (λ_ m hm=>?_)
 . have hHm:∀j y,h j=some y->j<m:=λj y e=>by have:=hHb j y e;omega
   simp[go_sem,trIn]
   refine⟨?_,?_,?_⟩
   . refine LC.use (l76 l (by omega)) ?_
     rintro v h' n' ⟨g1,g2,⟨g3,_⟩|⟨o,full,g3,g4,rfl,g5⟩⟩
     . exact absurd (by simpa using g3) hl0
     simp[go_sem]
     have e1:o≠n':=by omega
     refine Ys (Rh l hl0 (by omega) i hi r (by rw[AD _ _ e1];exact g5) (AC _ _ _) e1) ?_
     rintro v H2 n2 ⟨rfl,rfl,rfl⟩
     simp[go_sem,Y0]
     exact⟨by omega,AK (λj z e=>by have:=hHm j z e;omega) (AK (λj z e=>by have:=hHm j z e;omega) g2)⟩
   . refine LC.use (l76 l (by omega)) ?_
     rintro v h' n' ⟨g1,g2,⟨g3,_⟩|⟨o,full,g3,g4,rfl,g5⟩⟩
     . exact absurd (by simpa using g3) hl0
     simp[go_sem]
     have e1:o≠n':=by omega
     refine Ys (Rh l hl0 (by omega) i hi r (by rw[AD _ _ e1];exact g5) (AC _ _ _) e1) ?_
     rintro v H2 n2 ⟨rfl,rfl,rfl⟩
     simp[go_sem,Y0]
     exact⟨by omega,AK (λj z e=>by have:=hHm j z e;omega) (AK (λj z e=>by have:=hHm j z e;omega) g2)⟩
   . refine LC.use (l76 l (by omega)) ?_
     rintro v h' n' ⟨g1,g2,⟨g3,_⟩|⟨o,full,g3,g4,rfl,g5⟩⟩
     . exact absurd (by simpa using g3) hl0
     simp[go_sem]
     refine Ys (Rh l hl0 (by omega) i hi r g5 (g2 _ _ (AC _ _ _)) (by omega)) ?_
     rintro v H2 n2 ⟨rfl,rfl,rfl⟩
     simp[go_sem,Y0]
     exact⟨by omega,AK (λj z e=>by have:=hHm j z e;omega) λj z e=>g2 _ _ (AK hHm AB j z e)⟩
 refine AI ?_
 simp[go_sem]
 exact Au ho AB rfl (by rw[closed,closedL,closedL,BD.E.imm];rfl)
def CM (l:List BO):List SV:=(l.map BO.enc).flatMap SV.cells
theorem Eb (d:BO) (l:List BO):CM (d::l)=AA d.rev::AA d.move::CM l:=by simp[CM,BO.enc,SV.cells]
theorem OE (l:List BO):(CM l).length=l.length*2:=by
 have:=BE (z:=2) (BO.E.size l)
 rw[Y5]at this;exact this
theorem MN (l:List BO):∀i,(CM l).drop (i*2)=CM (l.drop i):=by
 induction l with
 | nil=>intro i;simp[CM]
 | cons d l ih=>
  intro i
  cases i with
  | zero=>simp
  | succ i=>rw[Eb,show(i+1)*2=i*2+2 by omega,Xb,Xb,ih i,Xb]
theorem Qc (l:List BO):∀i,(CM l).take (i*2)=CM (l.take i):=by
 induction l with
 | nil=>intro i;simp[CM]
 | cons d l ih=>
  intro i
  cases i with
  | zero=>simp[CM]
  | succ i=>rw[Eb,show(i+1)*2=i*2+2 by omega,YY,YY,ih i,YY,Eb]
theorem Ri (a b:List BO):CM (a++b)=CM a++CM b:=by unfold CM;rw[Y3,Z7]
def VK:BO:=⟨0,0⟩
def G5 (l:List BO) (i:Nat):BO:=l.getD i VK
theorem P7 (l:List BO) (i:Nat) (hi:i<l.length):(CM l).drop (i*2)=AA (G5 l i).rev::AA (G5 l i).move::CM (l.drop (i+1)):=by
 have e:G5 l i=l[i]:=by simp[G5,List.getD,hi]
 rw[MN,YA hi,Eb,e]
theorem OF (l:List BO) (i:Nat) (hi:i<l.length) (d:BO):(CM l).take (i*2)++(AA d.rev::AA d.move::(CM l).drop (i*2+2))=CM (l.set i d):=by
 rw[show i*2+2=(i+1)*2 by omega,MN,Qc,Xe,if_pos hi,Ri,Eb]
def H7 (l:List BO) (j:Nat):List BO:=(l.set (j+1) (G5 l j)).set j (G5 l (j+1))
def Ew (l:List BO):Nat->List BO
 | 0=>l
 | j+1=>if(G5 l (j+1)).rev<(G5 l j).rev then Ew (H7 l j) j else l
def Ch (l:List BO):Nat->List BO
 | 0=>l
 | i+1=>Ew (Ch l i) i
theorem J2 (l:List BO) (j:Nat):(H7 l j).length=l.length:=by simp[H7]
theorem Mx:∀(j:Nat) (l:List BO),(Ew l j).length=l.length
 | 0,l=>rfl
 | j+1,l=>by rw[Ew];split;rw[Mx j,J2];rfl
theorem G1 (l:List BO):∀i,(Ch l i).length=l.length
 | 0=>rfl
 | i+1=>by rw[Ch,Mx,G1 l i]
theorem c120 (a b:BO):PC 120 [a.enc,b.enc] (AA (Hd a.rev b.rev)):=by
 intro h n
 refine gq Tryz.func120 rfl λho=>?_
 have hh:∀y z,∀o x,h o=some x->hset (hset h n y) (n+1) z o=some x:=λy z=>AP ho (by omega) (AP ho (Y1 _) AB)
 have q:n≠n+1:=by omega
 simp[go_sem,BO.enc,AC,AD]
 refine(S6 a.rev b.rev).use ?_
 simp[go_sem]
 exact Au ho (hh _ _) rfl rfl
set_option maxHeartbeats 4000000 in
theorem d254 (l:List BO) (hl0:1<=l.length) (hl:l.length<=1048576) {H:Hp} {n o:Nat} {full:Bool} (hH:H o=some (.cells (CM l))):
 BM Tryz.prog 254 [.sl o 0 2 l.length full,AA 0,AA l.length,.fn (.func 120) [] []] H n (λv h' n'=>v=.tup []/\h'=hset H o (some (.cells (CM (Ch l l.length))))/\n'=n):=by
 refine Dg Tryz.func254 rfl λho=>?_
 have hHb:=ho.lt
 have hon:=hHb o _ hH
 have hcl:∀L:List BO,closedL n (CM L)=true:=λL=>by
  induction L with
  | nil=>rfl
  | cons d L ih=>rw[Eb];simp[closedL,closed,ih]
 obtain⟨G,hG⟩:∃G:List BO->Hp,∀L,G L=hset H o (some (.cells (CM L))):=⟨_,λ_=>rfl⟩
 have hGo:∀L,G L o=some (.cells (CM L)):=λL=>by rw[hG,AC]
 have hGs:∀L L',hset (G L) o (some (.cells (CM L')))=G L':=λL L'=>by rw[hG,hG,AY]
 have hOld:∀L,E4 (G L) n:=λL j y e=>by
  rw[hG]at e;simp only[hset]at e
  split at e
  . subst_vars;cases e;exact⟨hon,hcl L⟩
  . exact ho j y e
 have hGH:G l=H:=by rw[hG];funext j;simp only[hset];split;subst_vars;exact hH.symm;rfl
 refine Ab 0 [(0,.sl o 0 2 l.length full),(1,AA 0),(2,AA l.length),(3,.fn (.func 120) [] []),(8,AA 1)] (G l) n ?_ (λm hm=>?_)
 . rw[hGH];simp[go_sem,Y0,show IntKind.i64.wrap 1=1 from by decide]
 refine AR (BP 0 (α:=Nat) (λi=>[(0,.sl o 0 2 l.length full),(1,AA 0),(2,AA l.length),(3,.fn (.func 120) [] []),(8,AA i)]) (λi=>G (Ch l i)) (λi m=>1<=i/\i<=l.length/\n<=m) (λi=>l.length-i) 1 ⟨by omega,by omega,hm⟩ ?_ AB ?_)
 . simp[Aj,Y0]
 rintro i m ⟨hi1,hi2,hm⟩
 have hlen:=G1 l i
 by_cases hlt:i<l.length
 . have w1:=wS i (by omega)
   have hnx:Ch l (i+1)=Ew (Ch l i) i:=rfl
   generalize Ch l i=S at hlen hnx
   refine Bt 0 [(0,.sl o 0 2 l.length full),(1,AA 0),(2,AA l.length),(3,.fn (.func 120) [] []),(8,AA i)] (G S) n (AI ?_) (λm2 hm2=>?_)
   . simp[go_sem,Y0,hlt,hm]
   refine AV 0 (α:=Unit) (λ_=>[(0,.sl o 0 2 l.length full),(1,AA 0),(2,AA l.length),(3,.fn (.func 120) [] []),(8,AA i)]) (λ_=>G (Ew S i)) (λ_ m2=>n<=m2) (AR ?_) (λ_ m2 hm2=>?_)
   . refine Ab 0 [(0,.sl o 0 2 l.length full),(1,AA 0),(2,AA l.length),(3,.fn (.func 120) [] []),(8,AA i),(9,AA i)] (G S) n ?_ (λm2 hm2=>?_)
     . simp[go_sem,Y0,hm2]
     refine AR (BP 0 (α:=Nat×List BO) (λq=>[(0,.sl o 0 2 l.length full),(1,AA 0),(2,AA l.length),(3,.fn (.func 120) [] []),(8,AA i),(9,AA q.1)]) (λq=>G q.2) (λq m=>q.1<=i/\q.2.length=l.length/\Ew q.2 q.1=Ew S i/\n<=m) (λq=>q.1) (i,S) ⟨by omega,hlen,rfl,hm2⟩ ?_ AB ?_)
     . simp[Aj,Y0]
     rintro⟨j,L⟩ m3 ⟨hj,hL,hs,hm3⟩
     dsimp only at hj hL hs ⊢
     refine Ei ?_
     cases j with
     | zero=>
      rw[Ew]at hs
      refine Bt 0 [(0,.sl o 0 2 l.length full),(1,AA 0),(2,AA l.length),(3,.fn (.func 120) [] []),(8,AA i),(34,.bool false)] (G L) n (AI ?_) (λm2 hm2=>?_)
      . simp[go_sem]
        repeat first|refine nq ?_|refine sq ?_|refine aq ?_
        simp[go_sem,hm3]
      refine Ag (b:=false) (by simp[go_sem]) (AI ?_)
      simp[go_sem,Y0]
      rw[<-hs]
      exact⟨hm2,AB⟩
     | succ j=>
      have w2:IntKind.i64.wrap (((j+1:Nat):Int)-1)=(j:Int):=by rw[DR]<;>omega
      have w3:IntKind.i64.wrap (j:Int)=j:=by rw[DR]<;>omega
      have e1:=P7 L (j+1) (by omega)
      have e2:=P7 L j (by omega)
      have hLl:=OE L
      refine Bt 0 [(0,.sl o 0 2 l.length full),(1,AA 0),(2,AA l.length),(3,.fn (.func 120) [] []),(8,AA i),(9,AA (j+1:Nat)),(34,.bool (decide ((G5 L (j+1)).rev<(G5 L j).rev)))] (G L) n (AI ?_) (λm2 hm2=>?_)
      . have f1:(j:Int)+1<l.length:=by omega
        have f2:(j:Int)<l.length:=by omega
        have f3:(0:Int)<=(j:Int)+1:=by omega
        have f4:(0:Int)<(j:Int)+1:=by omega
        have f5:((j:Int)+1).toNat=j+1:=by omega
        have t1:((CM L).drop ((j+1)*2)).take 2=[AA (G5 L (j+1)).rev,AA (G5 L (j+1)).move]:=by rw[e1];rfl
        have t2:((CM L).drop (j*2)).take 2=[AA (G5 L j).rev,AA (G5 L j).move]:=by rw[e2];rfl
        have l1:(j+1)*2+2<=(CM L).length:=by omega
        have l2:j*2+2<=(CM L).length:=by omega
        simp[go_sem,w3,hGo,f1,f2,f3,f4,f5,t1,t2,l1,l2]
        repeat first|refine nq ?_|refine sq ?_|refine aq ?_
        refine Z6 _ _ _ _ _ _ (by simpa[BO.enc]using c120 (G5 L (j+1)) (G5 L j)) ?_
        simp[go_sem]
        repeat first|refine nq ?_|refine sq ?_|refine aq ?_
        have hc:∀a b:Int,decide (Hd a b<0)=decide (a<b):=λa b=>by
         unfold Hd
         by_cases h1:a<b
         . simp[h1]
         . by_cases h2:b<a<;>simp[h1,h2]
        rw[hc]
        exact Y0
      by_cases hc:(G5 L (j+1)).rev<(G5 L j).rev
      . refine Ag (b:=true) (by simp[go_sem,hc]) ?_
        rw[if_pos rfl]
        refine FS ?_
        rw[DZ]
        have hs':Ew (H7 L j) j=Ew S i:=by rw[Ew,if_pos hc]at hs;exact hs
        refine AV 0 (α:=Unit) (λ_=>[(0,.sl o 0 2 l.length full),(1,AA 0),(2,AA l.length),(3,.fn (.func 120) [] []),(8,AA i),(9,AA (j+1:Nat))]) (λ_=>G (H7 L j)) (λ_ m2=>n<=m2) (AR (AI ?_)) (λ_ m4 hm4=>?_)
        . have f1:(j:Int)+1<l.length:=by omega
          have f2:(j:Int)<l.length:=by omega
          have f3:(0:Int)<=(j:Int)+1:=by omega
          have f5:((j:Int)+1).toNat=j+1:=by omega
          have t1:((CM L).drop ((j+1)*2)).take 2=[AA (G5 L (j+1)).rev,AA (G5 L (j+1)).move]:=by rw[e1];rfl
          have t2:((CM L).drop (j*2)).take 2=[AA (G5 L j).rev,AA (G5 L j).move]:=by rw[e2];rfl
          have l1:(j+1)*2+2<=(CM L).length:=by omega
          have l2:j*2+2<=(CM L).length:=by omega
          have s1:=OF L (j+1) (by omega) (G5 L j)
          have s2:=OF (L.set (j+1) (G5 L j)) j (by rw[List.length_set];omega) (G5 L (j+1))
          have l3:j*2+2<=(CM (L.set (j+1) (G5 L j))).length:=by rw[OE,List.length_set];omega
          have hsw:(L.set (j+1) (G5 L j)).set j (G5 L (j+1))=H7 L j:=rfl
          rw[hsw]at s2
          generalize L.set (j+1) (G5 L j)=L2 at *
          simp[go_sem,w3,hGo,f1,f2,f3,f5,t1,t2,l1,l2,s1,s2,l3,hGs]
          repeat first|refine nq ?_|refine sq ?_|refine aq ?_
          exact hm2
        . refine AI ?_
          simp[go_sem,w2,Y0,-Int.natCast_add]
          exact⟨j,by omega,H7 L j,⟨by omega,by rw[J2,hL],hs',hm4⟩,Y0,AB⟩
      . refine Ag (b:=false) (by simp[go_sem,hc]) (AI ?_)
        have hs':L=Ew S i:=by rw[Ew,if_neg hc]at hs;exact hs
        simp[go_sem,Y0]
        rw[<-hs']
        exact⟨hm2,AB⟩
   . refine AI ?_
     simp[go_sem,w1,Y0,-Int.natCast_add]
     exact⟨i+1,by omega,⟨by omega,by omega⟩,Y0,by rw[hnx];exact AB⟩
 . have:i=l.length:=by omega
   subst this
   refine AI ?_
   simp[go_sem]
   have:=CT (hOld (Ch l l.length)) (n':=m) (v:=.tup []) (by simp[closed,closedL]) AB
   rw[hG]at this ⊢
   exact this
end Go.Proofs.YtgakninlhfkkmaaGreat.Sh
