/- A part of the proof (part 7 of 17). -/
import Derived.Test.YtgakninlhfkkmaaGreatM6
namespace Go.Proofs.YtgakninlhfkkmaaGreat.Sh
abbrev qC:=@SC.use
open Proofs
set_option maxRecDepth 10000
set_option maxHeartbeats 4000000 in
theorem Xh (l:List AE) (cu:Int) (hl:l.length<=1048576) (hs:∀x∈l,x.text.size<=1048576):PC 251 [AG l,AA cu] (.tup [AG (Bj l cu).1,AG (Bj l cu).2]):=by
 intro h n;refine cA Tryz.func251 rfl (by kernel_rfl) (by kernel_rfl) (by simp[go_sem]) λho B=>?_;simp[↓Ab,↓Ag,go_sem,qD];refine(aj l).use ?_;simp[go_sem];generalize hH:hset (hset (hset h n _) (n+1) _) (n+2) _=H;refine Fa rfl rfl rfl λE1 yl R hY=>?_;have h0:H n=some (.cells [AA cu]):=by rw[<-hH];simp[hset]
 have h1:H (n+1)=some (.cells [.imm 0 [] true]):=by rw[<-hH];simp[hset]
 have h2:H (n+2)=some (.cells [.imm 0 [] true]):=by rw[<-hH];simp[hset]
 have BE:∀o,o<n->H o=h o:=λo g=>by rw[<-hH];rw[AD _ _ (by omega),AD _ _ (by omega),AD _ _ (by omega)]
 clear hH;let J:Nat->(Nat->Prop)->Hp->Nat->Prop:=λk D hh m=>∃oL oR,NZ l cu n R k D hh m oL oR;let Jx:(Nat->Prop)->Hp->Nat->Prop:=λ_ _ _=>False;have Y:YJ E1 yl ZL (F8 0 l) J Jx:=by
  refine⟨λk x D hh m hx hJ=>?_,λk D hh m h' m' ⟨oL,oR,hJ⟩ hm hD=>⟨oL,oR,hJ.keep hm hD⟩,λk D hh m ⟨oL,oR,hJ⟩=>hJ.dlt⟩;obtain⟨oL,oR,hJ⟩:=hJ;refine hY _ _ _ _ hJ.loop rfl (Ii ?_);have hkl:k<l.length:=by have:=(qo.1 hx).1;rw[KV]at this;exact this
  rw[Ge 0 l k hkl,Int.zero_add]at hx;obtain⟨y,hy⟩:∃y,l[k]=y:=⟨_,rfl⟩
  rw[hy]at hx;cases hx;have hym:y∈l:=by rw[<-hy];exact ql hkl
  have hyt:=hs y hym;have hsucc:=Gw l cu k hkl;rw[hy]at hsucc;have WI:=Ik (l.take k) λy hy=>hs y (qH hy);have Hn:=y.units_le hyt;have hlk:((l.take k).length:Int)<=1048576:=by simp;omega
  have TT:((l.take k).length:Int)*1048576<=1048576*1048576:=by omega
  generalize CI (l.take k)=p at hsucc WI ⊢;have wpu:IntKind.i64.wrap (p+y.units)=p+y.units:=by rw[Cl]<;>omega
  have hlt:=hJ.lt;have e0:n≠m:=by omega
  have e1:n+1≠m:=by omega
  have e2:n+2≠m:=by omega
  have e3:n+3≠m:=by omega
  have e3':=e3.symm;have e4:n≠m+1:=by omega
  have e5:n≠m+1+1:=by omega
  have e6:n≠m+1+1+1:=by omega
  have e7:n+1≠m+1:=by omega
  have g0:=hJ.cell;have gl:=hJ.loop;have gL:=hJ.left;have gR:=hJ.right;obtain⟨EL,hEL⟩:∃EL,(DJ l cu k).1.map AE.enc=EL:=⟨_,rfl⟩
  obtain⟨ER,hER⟩:∃ER,(DJ l cu k).2.map AE.enc=ER:=⟨_,rfl⟩
  have hlens:=LO l cu k (by omega);have lEL:EL.length<=k:=by rw[<-hEL];simp;omega
  have lER:ER.length<=k:=by rw[<-hER];simp;omega
  have aL:=hJ.accL;have aR:=hJ.accR;have oL':=hJ.objL;have oR':=hJ.objR;rw[hEL]at gL aL oL';rw[hER]at gR aR oR';have flL:(EL.flatMap SV.cells).length=EL.length*11:=A7 aL.size;have flR:(ER.flatMap SV.cells).length=ER.length*11:=A7 aR.size;have apN:∀(zc:List SV),zc.length=11->∀(H:Hp) (p q:Nat),H q=some (.cells zc)->AU Tryz.prog H p .append [22,22] [.imm 0 [] true,.sl q 0 11 1 true]=some { val:=.sl p 0 11 1 false,new:=some (.cells zc) }:=λzc hz H p q hq=>
   Ky (P:=Tryz.prog) (e:=.agg zc) (t:=22) (t2:=22) (el:=70) (z:=11) (by simp[go_sem]) (by simp[go_sem]) (by simp[go_sem]) (by simp) (by simp[go_sem]) (by simp[go_sem]) (by simp[go_sem]) hz hq p
  have apN0:=apN [.int .i64 0,.int .i64 0,.int .i64 0,.str .empty,.imm 0 [] true,.int .i64 0,.int .i64 0,.imm 0 [] true,.imm 0 [] true,.imm 0 [] true,.imm 0 [] true] rfl;simp[↓Ab,↓Ag,go_sem,Jp,ZL,qx,AC,AD,gl,e3,e3'];refine qw (by simpa[qx]using Vy y hyt) ?_;by_cases b1:p+y.units<=cu
  . have hst:Cb cu (DJ l cu k) (p,y)=((DJ l cu k).1++[y],(DJ l cu k).2):=by simp[Cb,b1]
    rw[hst]at hsucc;rcases oL with _|jL
    . have hnil:=aL.none rfl;simp[↓Ab,↓Ag,↓CO,go_sem,AC,AD,g0,gL,wpu,b1,AM,apN0,e0,e1,e3',e4]
      repeat first|refine nd (by simp[CM,Ex,DG,Aq,Region.binds]<;>omega) ?_|refine sq ?_|refine aq ?_
      refine hJ.fin hsucc (some (m+1+1)) oR (by omega) (by(repeat rw[AD _ _ (by omega)]);exact g0) (by rw[qc,hEL,AC];simp[AM,hnil]) (by(repeat rw[AD _ _ (by omega)]);exact hJ.right) (by(repeat rw[AD _ _ (by omega)]);exact AC _ _ _) (by rw[qc,hEL];exact aL.push (j:=m+1+1) (m':=m+1+1+1) (AE.E.st _) (AE.E.len _) (by omega) (by omega)) (hJ.accR.mono (by omega)) (λj e=>.inr (by cases e;omega)) (λj e=>.inl e) (λj e g=>by cases e;have:=(hJ.accR.lt _ g).2;omega) (λj e=>by cases e;rw[qc,hEL,AD _ _ (by omega),AC];simp[qx,SV.cells,hnil]) (λj e=>by have:=hJ.accR.lt j e;(repeat rw[AD _ _ (by omega)]);exact hJ.objR j e) (λo g1 g2=>?_) _
      . have hD:¬((n<=o/\o<=n+3)\/none=some o\/oR=some o):=by have:=g1;rw[hJ.dom]at this;exact this
        have h3:¬(n<=o/\o<=n+3):=λg=>hD (.inl g)
        (repeat rw[AD _ _ (by omega)])
    . have oj:=oL' jL rfl;have jlt:=aL.lt jL rfl;have j0:jL≠m:=by omega
      have j1:jL≠m+1:=by omega
      have j2:jL≠m+1+1:=by omega
      have j3:jL≠n+3:=by omega
      have j4:jL≠n+1:=by omega
      have j5:n+1≠jL:=by omega
      have j6:n+2≠jL:=by omega
      have j7:n+3≠jL:=by omega
      have j8:jL≠n+2:=by omega
      have lt1:(EL.length:Int)<EL.length+1:=by omega
      have apS:∀(H:Hp) (p q:Nat),H jL=some (.cells (EL.flatMap SV.cells))->H q=some (.cells [.int .i64 0,.int .i64 0,.int .i64 0,.str .empty,.imm 0 [] true,.int .i64 0,.int .i64 0,.imm 0 [] true,.imm 0 [] true,.imm 0 [] true,.imm 0 [] true])->AU Tryz.prog H p .append [22,22] [.sl jL 0 11 EL.length false,.sl q 0 11 1 true]=some { val:=.sl p 0 11 (EL.length+1) false,upd:=some (jL,none),new:=some (.cells (EL.flatMap SV.cells++[.int .i64 0,.int .i64 0,.int .i64 0,.str .empty,.imm 0 [] true,.int .i64 0,.int .i64 0,.imm 0 [] true,.imm 0 [] true,.imm 0 [] true,.imm 0 [] true])) }:=λH p q h1 h2=>
       GL (P:=Tryz.prog) (es:=EL) (e:=.agg [.int .i64 0,.int .i64 0,.int .i64 0,.str .empty,.imm 0 [] true,.int .i64 0,.int .i64 0,.imm 0 [] true,.imm 0 [] true,.imm 0 [] true,.imm 0 [] true]) (t:=22) (t2:=22) (el:=70) (z:=11) (by simp[go_sem]) (by simp[go_sem]) (by simp[go_sem]) (by simp) (by simp[go_sem]) (by simp[go_sem]) (by simp[go_sem]) (by omega) aL rfl h2 h1 p rfl
      have dr:List.drop (EL.length*11+11) (EL.flatMap SV.cells++[.int .i64 0,.int .i64 0,.int .i64 0,.str .empty,.imm 0 [] true,.int .i64 0,.int .i64 0,.imm 0 [] true,.imm 0 [] true,.imm 0 [] true,.imm 0 [] true])=[]:=jF (by simp[flL]);simp[↓Ab,↓Ag,↓CO,go_sem,AC,AD,g0,gL,wpu,b1,AM,apS,oj,flL,lt1,dr,j0,j1,j3,j5,e0,e1,e3',e4]
      repeat first|refine nd (by simp[CM,Ex,DG,Aq,Region.binds]<;>omega) ?_|refine sq ?_|refine aq ?_
      refine hJ.fin hsucc (some (m+1+1)) oR (by omega) (by(repeat rw[AD _ _ (by omega)]);exact g0) (by rw[qc,hEL,AC];simp[AM]) (by(repeat rw[AD _ _ (by omega)]);exact hJ.right) (by(repeat rw[AD _ _ (by omega)]);exact AC _ _ _) (by rw[qc,hEL];exact aL.push (j:=m+1+1) (m':=m+1+1+1) (AE.E.st _) (AE.E.len _) (by omega) (by omega)) (hJ.accR.mono (by omega)) (λj e=>.inr (by cases e;omega)) (λj e=>.inl e) (λj e g=>by cases e;have:=(hJ.accR.lt _ g).2;omega) (λj e=>by cases e;rw[qc,hEL,AD _ _ (by omega),AC];simp[qx,SV.cells]) (λj e=>by have:=hJ.accR.lt j e;have hne:j≠jL:=(λg=>by exact hJ.ne jL rfl (by rw[<-g];exact e));(repeat rw[AD _ _ (by omega)]);exact hJ.objR j e) (λo g1 g2=>?_) _
      . have hD:¬((n<=o/\o<=n+3)\/some jL=some o\/oR=some o):=by have:=g1;rw[hJ.dom]at this;exact this
        have hne:o≠jL:=λg=>hD (by rw[g];simp);have h3:¬(n<=o/\o<=n+3):=λg=>hD (.inl g)
        (repeat rw[AD _ _ (by omega)])
  . by_cases b2:cu<=p
    . have hst:Cb cu (DJ l cu k) (p,y)=((DJ l cu k).1,(DJ l cu k).2++[y]):=by simp[Cb,b1,b2]
      rw[hst]at hsucc;rcases oR with _|jR
      . have hnil:=aR.none rfl;simp[↓Ab,↓Ag,↓CO,go_sem,AC,AD,g0,gR,wpu,b1,b2,AM,apN0,e0,e1,e2,e3']
        repeat first|refine nd (by simp[CM,Ex,DG,Aq,Region.binds]<;>omega) ?_|refine sq ?_|refine aq ?_
        refine hJ.fin hsucc oL (some (m+1+1)) (by omega) (by(repeat rw[AD _ _ (by omega)]);exact g0) (by(repeat rw[AD _ _ (by omega)]);exact hJ.left) (by rw[qc,hER,AC];simp[AM,hnil]) (by(repeat rw[AD _ _ (by omega)]);exact AC _ _ _) (hJ.accL.mono (by omega)) (by rw[qc,hER];exact aR.push (j:=m+1+1) (m':=m+1+1+1) (AE.E.st _) (AE.E.len _) (by omega) (by omega)) (λj e=>.inl e) (λj e=>.inr (by cases e;omega)) (λj e g=>by cases g;have:=(hJ.accL.lt _ e).2;omega) (λj e=>by have:=hJ.accL.lt j e;(repeat rw[AD _ _ (by omega)]);exact hJ.objL j e) (λj e=>by cases e;rw[qc,hER,AD _ _ (by omega),AC];simp[qx,SV.cells,hnil]) (λo g1 g2=>?_) _
        . have hD:¬((n<=o/\o<=n+3)\/oL=some o\/none=some o):=by have:=g1;rw[hJ.dom]at this;exact this
          have h3:¬(n<=o/\o<=n+3):=λg=>hD (.inl g)
          (repeat rw[AD _ _ (by omega)])
      . have oj:=oR' jR rfl;have jlt:=aR.lt jR rfl;have j0:jR≠m:=by omega
        have j1:jR≠m+1:=by omega
        have j2:jR≠m+1+1:=by omega
        have j3:jR≠n+3:=by omega
        have j4:jR≠n+1:=by omega
        have j5:n+1≠jR:=by omega
        have j6:n+2≠jR:=by omega
        have j7:n+3≠jR:=by omega
        have j8:jR≠n+2:=by omega
        have lt1:(ER.length:Int)<ER.length+1:=by omega
        have apS:∀(H:Hp) (p q:Nat),H jR=some (.cells (ER.flatMap SV.cells))->H q=some (.cells [.int .i64 0,.int .i64 0,.int .i64 0,.str .empty,.imm 0 [] true,.int .i64 0,.int .i64 0,.imm 0 [] true,.imm 0 [] true,.imm 0 [] true,.imm 0 [] true])->AU Tryz.prog H p .append [22,22] [.sl jR 0 11 ER.length false,.sl q 0 11 1 true]=some { val:=.sl p 0 11 (ER.length+1) false,upd:=some (jR,none),new:=some (.cells (ER.flatMap SV.cells++[.int .i64 0,.int .i64 0,.int .i64 0,.str .empty,.imm 0 [] true,.int .i64 0,.int .i64 0,.imm 0 [] true,.imm 0 [] true,.imm 0 [] true,.imm 0 [] true])) }:=λH p q h1 h2=>
         GL (P:=Tryz.prog) (es:=ER) (e:=.agg [.int .i64 0,.int .i64 0,.int .i64 0,.str .empty,.imm 0 [] true,.int .i64 0,.int .i64 0,.imm 0 [] true,.imm 0 [] true,.imm 0 [] true,.imm 0 [] true]) (t:=22) (t2:=22) (el:=70) (z:=11) (by simp[go_sem]) (by simp[go_sem]) (by simp[go_sem]) (by simp) (by simp[go_sem]) (by simp[go_sem]) (by simp[go_sem]) (by omega) aR rfl h2 h1 p rfl
        have dr:List.drop (ER.length*11+11) (ER.flatMap SV.cells++[.int .i64 0,.int .i64 0,.int .i64 0,.str .empty,.imm 0 [] true,.int .i64 0,.int .i64 0,.imm 0 [] true,.imm 0 [] true,.imm 0 [] true,.imm 0 [] true])=[]:=jF (by simp[flR]);simp[↓Ab,↓Ag,↓CO,go_sem,AC,AD,g0,gR,wpu,b1,b2,AM,apS,oj,flR,lt1,dr,j0,j1,j3,j6,e0,e1,e2,e3']
        repeat first|refine nd (by simp[CM,Ex,DG,Aq,Region.binds]<;>omega) ?_|refine sq ?_|refine aq ?_
        refine hJ.fin hsucc oL (some (m+1+1)) (by omega) (by(repeat rw[AD _ _ (by omega)]);exact g0) (by(repeat rw[AD _ _ (by omega)]);exact hJ.left) (by rw[qc,hER,AC];simp[AM]) (by(repeat rw[AD _ _ (by omega)]);exact AC _ _ _) (hJ.accL.mono (by omega)) (by rw[qc,hER];exact aR.push (j:=m+1+1) (m':=m+1+1+1) (AE.E.st _) (AE.E.len _) (by omega) (by omega)) (λj e=>.inl e) (λj e=>.inr (by cases e;omega)) (λj e g=>by cases g;have:=(hJ.accL.lt _ e).2;omega) (λj e=>by have:=hJ.accL.lt j e;have hne:j≠jR:=(λg=>by exact hJ.ne j e (by rw[g]));(repeat rw[AD _ _ (by omega)]);exact hJ.objL j e) (λj e=>by cases e;rw[qc,hER,AD _ _ (by omega),AC];simp[qx,SV.cells]) (λo g1 g2=>?_) _
        . have hD:¬((n<=o/\o<=n+3)\/oL=some o\/some jR=some o):=by have:=g1;rw[hJ.dom]at this;exact this
          have hne:o≠jR:=λg=>hD (by rw[g];simp);have h3:¬(n<=o/\o<=n+3):=λg=>hD (.inl g)
          (repeat rw[AD _ _ (by omega)])
    . have hst:Cb cu (DJ l cu k) (p,y)=((DJ l cu k).1++[y.setText (y.text.extract 0 (Cv y.text (cu-p)).1.toNat)],(DJ l cu k).2++[y.setText (y.text.extract (Cv y.text (cu-p)).1.toNat y.text.size)]):=by simp[Cb,b1,b2]
      rw[hst]at hsucc;have wcp:IntKind.i64.wrap (cu-p)=cu-p:=by rw[Cl]<;>omega
      simp[↓Ab,↓Ag,go_sem,AC,AD,g0,wpu,b1,b2,e0,e3',wcp];refine qw (ak _ _ hyt) ?_;have hcp:=Ok y.text (cu-p);generalize(Cv y.text (cu-p)).1=c at *;generalize(Cv y.text (cu-p)).2=c2 at *;have e8:n≠m+1+1+1+1:=by omega
      have e9:n≠m+1+1+1+1+1:=by omega
      rcases oL with _|jL
      . rcases oR with _|jR
        . have hnilL:=aL.none rfl;have apL:=apN [AA y.kind,AA y.code,AA y.id,.str (y.text.extract 0 c.toNat),Af y.head.props,AA y.head.ins,AA y.head.move,AP y.head.dels,AL y.head.layers,AG y.flow,A3 y.rows] rfl;have hnilR:=aR.none rfl;have apR:=apN [AA y.kind,AA y.code,AA y.id,.str (y.text.extract c.toNat y.text.size),Af y.head.props,AA y.head.ins,AA y.head.move,AP y.head.dels,AL y.head.layers,AG y.flow,A3 y.rows] rfl;simp[↓Ab,↓Ag,go_sem,AC,AD,gL,gR,AM,e0,e1,e2,e3',e4,e5,e6,e8,hcp.1,hcp.2,apL,apR]
          repeat first|refine nd (by simp[CM,Ex,DG,Aq,Region.binds]<;>omega) ?_|refine sq ?_|refine aq ?_
          refine hJ.fin hsucc (some (m+1+1+1)) (some (m+1+1+1+1+1)) (by omega) (by(repeat rw[AD _ _ (by omega)]);exact g0) (by rw[qc,hEL];(try rw[AD _ _ (by omega)]);rw[AC];(try simp[AM,hnilL])) (by rw[qc,hER];(try rw[AD _ _ (by omega)]);rw[AC];(try simp[AM,hnilR])) (by(repeat rw[AD _ _ (by omega)]);exact AC _ _ _) (by rw[qc,hEL];exact aL.push (j:=m+1+1+1) (m':=m+1+1+1+1+1+1) (AE.E.st _) (AE.E.len _) (by omega) (by omega)) (by rw[qc,hER];exact aR.push (j:=m+1+1+1+1+1) (m':=m+1+1+1+1+1+1) (AE.E.st _) (AE.E.len _) (by omega) (by omega)) (λj e=>.inr (by cases e;omega)) (λj e=>.inr (by cases e;omega)) (λj e g=>by cases e;injection g with g;omega) (λj e=>by cases e;rw[qc,hEL];(repeat rw[AD _ _ (by omega)]);rw[AC];(try simp[qx,AE.setText,AE.kind,AE.code,AE.id,AE.text,AE.head,AE.flow,AE.rows,SV.cells,hnilL])) (λj e=>by cases e;rw[qc,hER];(repeat rw[AD _ _ (by omega)]);rw[AC];(try simp[qx,AE.setText,AE.kind,AE.code,AE.id,AE.text,AE.head,AE.flow,AE.rows,SV.cells,hnilR])) (λo g1 g2=>?_) _
          . have hD:¬((n<=o/\o<=n+3)\/none=some o\/none=some o):=by have:=g1;rw[hJ.dom]at this;exact this
            have h3:¬(n<=o/\o<=n+3):=λg=>hD (.inl g)
            (repeat rw[AD _ _ (by omega)])
        . have hnilL:=aL.none rfl;have apL:=apN [AA y.kind,AA y.code,AA y.id,.str (y.text.extract 0 c.toNat),Af y.head.props,AA y.head.ins,AA y.head.move,AP y.head.dels,AL y.head.layers,AG y.flow,A3 y.rows] rfl;have ojR:=oR' jR rfl;have jltR:=aR.lt jR rfl;have jR0:jR≠m:=by omega
          have kR0:m≠jR:=by omega
          have jR1:jR≠m+1:=by omega
          have kR1:m+1≠jR:=by omega
          have jR2:jR≠m+1+1:=by omega
          have kR2:m+1+1≠jR:=by omega
          have jR3:jR≠m+1+1+1:=by omega
          have kR3:m+1+1+1≠jR:=by omega
          have jR4:jR≠m+1+1+1+1:=by omega
          have kR4:m+1+1+1+1≠jR:=by omega
          have jR5:jR≠m+1+1+1+1+1:=by omega
          have kR5:m+1+1+1+1+1≠jR:=by omega
          have pR0:jR≠n:=by omega
          have qR0:n≠jR:=by omega
          have pR1:jR≠n+1:=by omega
          have qR1:n+1≠jR:=by omega
          have pR2:jR≠n+2:=by omega
          have qR2:n+2≠jR:=by omega
          have pR3:jR≠n+3:=by omega
          have qR3:n+3≠jR:=by omega
          have apR:∀(H:Hp) (p q:Nat),H jR=some (.cells (ER.flatMap SV.cells))->H q=some (.cells [AA y.kind,AA y.code,AA y.id,.str (y.text.extract c.toNat y.text.size),Af y.head.props,AA y.head.ins,AA y.head.move,AP y.head.dels,AL y.head.layers,AG y.flow,A3 y.rows])->AU Tryz.prog H p .append [22,22] [.sl jR 0 11 ER.length false,.sl q 0 11 1 true]=some { val:=.sl p 0 11 (ER.length+1) false,upd:=some (jR,none),new:=some (.cells (ER.flatMap SV.cells++[AA y.kind,AA y.code,AA y.id,.str (y.text.extract c.toNat y.text.size),Af y.head.props,AA y.head.ins,AA y.head.move,AP y.head.dels,AL y.head.layers,AG y.flow,A3 y.rows])) }:=λH p q h1 h2=>
           GL (P:=Tryz.prog) (es:=ER) (e:=.agg [AA y.kind,AA y.code,AA y.id,.str (y.text.extract c.toNat y.text.size),Af y.head.props,AA y.head.ins,AA y.head.move,AP y.head.dels,AL y.head.layers,AG y.flow,A3 y.rows]) (t:=22) (t2:=22) (el:=70) (z:=11) (by simp[go_sem]) (by simp[go_sem]) (by simp[go_sem]) (by simp) (by simp[go_sem]) (by simp[go_sem]) (by simp[go_sem]) (by omega) aR rfl h2 h1 p rfl
          simp[↓Ab,↓Ag,go_sem,AC,AD,gL,gR,AM,e0,e1,e2,e3',e4,e5,e6,e8,hcp.1,hcp.2,apL,apR,ojR,jR0,jR1,jR2,jR3,jR4,qR1,qR2,pR3]
          repeat first|refine nd (by simp[CM,Ex,DG,Aq,Region.binds]<;>omega) ?_|refine sq ?_|refine aq ?_
          refine hJ.fin hsucc (some (m+1+1+1)) (some (m+1+1+1+1+1)) (by omega) (by(repeat rw[AD _ _ (by omega)]);exact g0) (by rw[qc,hEL];(try rw[AD _ _ (by omega)]);rw[AC];(try simp[AM,hnilL])) (by rw[qc,hER];(try rw[AD _ _ (by omega)]);rw[AC];(try simp[AM])) (by(repeat rw[AD _ _ (by omega)]);exact AC _ _ _) (by rw[qc,hEL];exact aL.push (j:=m+1+1+1) (m':=m+1+1+1+1+1+1) (AE.E.st _) (AE.E.len _) (by omega) (by omega)) (by rw[qc,hER];exact aR.push (j:=m+1+1+1+1+1) (m':=m+1+1+1+1+1+1) (AE.E.st _) (AE.E.len _) (by omega) (by omega)) (λj e=>.inr (by cases e;omega)) (λj e=>.inr (by cases e;omega)) (λj e g=>by cases e;injection g with g;omega) (λj e=>by cases e;rw[qc,hEL];(repeat rw[AD _ _ (by omega)]);rw[AC];(try simp[qx,AE.setText,AE.kind,AE.code,AE.id,AE.text,AE.head,AE.flow,AE.rows,SV.cells,hnilL])) (λj e=>by cases e;rw[qc,hER];(repeat rw[AD _ _ (by omega)]);rw[AC];(try simp[qx,AE.setText,AE.kind,AE.code,AE.id,AE.text,AE.head,AE.flow,AE.rows,SV.cells])) (λo g1 g2=>?_) _
          . have hD:¬((n<=o/\o<=n+3)\/none=some o\/some jR=some o):=by have:=g1;rw[hJ.dom]at this;exact this
            have hneR:o≠jR:=λg=>hD (by rw[g];simp);have h3:¬(n<=o/\o<=n+3):=λg=>hD (.inl g)
            (repeat rw[AD _ _ (by omega)])
      . rcases oR with _|jR
        . have ojL:=oL' jL rfl;have jltL:=aL.lt jL rfl;have jL0:jL≠m:=by omega
          have kL0:m≠jL:=by omega
          have jL1:jL≠m+1:=by omega
          have kL1:m+1≠jL:=by omega
          have jL2:jL≠m+1+1:=by omega
          have kL2:m+1+1≠jL:=by omega
          have jL3:jL≠m+1+1+1:=by omega
          have kL3:m+1+1+1≠jL:=by omega
          have jL4:jL≠m+1+1+1+1:=by omega
          have kL4:m+1+1+1+1≠jL:=by omega
          have jL5:jL≠m+1+1+1+1+1:=by omega
          have kL5:m+1+1+1+1+1≠jL:=by omega
          have pL0:jL≠n:=by omega
          have qL0:n≠jL:=by omega
          have pL1:jL≠n+1:=by omega
          have qL1:n+1≠jL:=by omega
          have pL2:jL≠n+2:=by omega
          have qL2:n+2≠jL:=by omega
          have pL3:jL≠n+3:=by omega
          have qL3:n+3≠jL:=by omega
          have apL:∀(H:Hp) (p q:Nat),H jL=some (.cells (EL.flatMap SV.cells))->H q=some (.cells [AA y.kind,AA y.code,AA y.id,.str (y.text.extract 0 c.toNat),Af y.head.props,AA y.head.ins,AA y.head.move,AP y.head.dels,AL y.head.layers,AG y.flow,A3 y.rows])->AU Tryz.prog H p .append [22,22] [.sl jL 0 11 EL.length false,.sl q 0 11 1 true]=some { val:=.sl p 0 11 (EL.length+1) false,upd:=some (jL,none),new:=some (.cells (EL.flatMap SV.cells++[AA y.kind,AA y.code,AA y.id,.str (y.text.extract 0 c.toNat),Af y.head.props,AA y.head.ins,AA y.head.move,AP y.head.dels,AL y.head.layers,AG y.flow,A3 y.rows])) }:=λH p q h1 h2=>
           GL (P:=Tryz.prog) (es:=EL) (e:=.agg [AA y.kind,AA y.code,AA y.id,.str (y.text.extract 0 c.toNat),Af y.head.props,AA y.head.ins,AA y.head.move,AP y.head.dels,AL y.head.layers,AG y.flow,A3 y.rows]) (t:=22) (t2:=22) (el:=70) (z:=11) (by simp[go_sem]) (by simp[go_sem]) (by simp[go_sem]) (by simp) (by simp[go_sem]) (by simp[go_sem]) (by simp[go_sem]) (by omega) aL rfl h2 h1 p rfl
          have hnilR:=aR.none rfl;have apR:=apN [AA y.kind,AA y.code,AA y.id,.str (y.text.extract c.toNat y.text.size),Af y.head.props,AA y.head.ins,AA y.head.move,AP y.head.dels,AL y.head.layers,AG y.flow,A3 y.rows] rfl;simp[↓Ab,↓Ag,go_sem,AC,AD,gL,gR,AM,e0,e1,e2,e3',e4,e5,e6,e8,hcp.1,hcp.2,apL,ojL,jL0,jL1,kL1,jL2,qL1,qL2,pL3,apR]
          repeat first|refine nd (by simp[CM,Ex,DG,Aq,Region.binds]<;>omega) ?_|refine sq ?_|refine aq ?_
          refine hJ.fin hsucc (some (m+1+1+1)) (some (m+1+1+1+1+1)) (by omega) (by(repeat rw[AD _ _ (by omega)]);exact g0) (by rw[qc,hEL];(try rw[AD _ _ (by omega)]);rw[AC];(try simp[AM])) (by rw[qc,hER];(try rw[AD _ _ (by omega)]);rw[AC];(try simp[AM,hnilR])) (by(repeat rw[AD _ _ (by omega)]);exact AC _ _ _) (by rw[qc,hEL];exact aL.push (j:=m+1+1+1) (m':=m+1+1+1+1+1+1) (AE.E.st _) (AE.E.len _) (by omega) (by omega)) (by rw[qc,hER];exact aR.push (j:=m+1+1+1+1+1) (m':=m+1+1+1+1+1+1) (AE.E.st _) (AE.E.len _) (by omega) (by omega)) (λj e=>.inr (by cases e;omega)) (λj e=>.inr (by cases e;omega)) (λj e g=>by cases e;injection g with g;omega) (λj e=>by cases e;rw[qc,hEL];(repeat rw[AD _ _ (by omega)]);rw[AC];(try simp[qx,AE.setText,AE.kind,AE.code,AE.id,AE.text,AE.head,AE.flow,AE.rows,SV.cells])) (λj e=>by cases e;rw[qc,hER];(repeat rw[AD _ _ (by omega)]);rw[AC];(try simp[qx,AE.setText,AE.kind,AE.code,AE.id,AE.text,AE.head,AE.flow,AE.rows,SV.cells,hnilR])) (λo g1 g2=>?_) _
          . have hD:¬((n<=o/\o<=n+3)\/some jL=some o\/none=some o):=by have:=g1;rw[hJ.dom]at this;exact this
            have hneL:o≠jL:=λg=>hD (by rw[g];simp);have h3:¬(n<=o/\o<=n+3):=λg=>hD (.inl g)
            (repeat rw[AD _ _ (by omega)])
        . have ojL:=oL' jL rfl;have jltL:=aL.lt jL rfl;have jL0:jL≠m:=by omega
          have kL0:m≠jL:=by omega
          have jL1:jL≠m+1:=by omega
          have kL1:m+1≠jL:=by omega
          have jL2:jL≠m+1+1:=by omega
          have kL2:m+1+1≠jL:=by omega
          have jL3:jL≠m+1+1+1:=by omega
          have kL3:m+1+1+1≠jL:=by omega
          have jL4:jL≠m+1+1+1+1:=by omega
          have kL4:m+1+1+1+1≠jL:=by omega
          have jL5:jL≠m+1+1+1+1+1:=by omega
          have kL5:m+1+1+1+1+1≠jL:=by omega
          have pL0:jL≠n:=by omega
          have qL0:n≠jL:=by omega
          have pL1:jL≠n+1:=by omega
          have qL1:n+1≠jL:=by omega
          have pL2:jL≠n+2:=by omega
          have qL2:n+2≠jL:=by omega
          have pL3:jL≠n+3:=by omega
          have qL3:n+3≠jL:=by omega
          have apL:∀(H:Hp) (p q:Nat),H jL=some (.cells (EL.flatMap SV.cells))->H q=some (.cells [AA y.kind,AA y.code,AA y.id,.str (y.text.extract 0 c.toNat),Af y.head.props,AA y.head.ins,AA y.head.move,AP y.head.dels,AL y.head.layers,AG y.flow,A3 y.rows])->AU Tryz.prog H p .append [22,22] [.sl jL 0 11 EL.length false,.sl q 0 11 1 true]=some { val:=.sl p 0 11 (EL.length+1) false,upd:=some (jL,none),new:=some (.cells (EL.flatMap SV.cells++[AA y.kind,AA y.code,AA y.id,.str (y.text.extract 0 c.toNat),Af y.head.props,AA y.head.ins,AA y.head.move,AP y.head.dels,AL y.head.layers,AG y.flow,A3 y.rows])) }:=λH p q h1 h2=>
           GL (P:=Tryz.prog) (es:=EL) (e:=.agg [AA y.kind,AA y.code,AA y.id,.str (y.text.extract 0 c.toNat),Af y.head.props,AA y.head.ins,AA y.head.move,AP y.head.dels,AL y.head.layers,AG y.flow,A3 y.rows]) (t:=22) (t2:=22) (el:=70) (z:=11) (by simp[go_sem]) (by simp[go_sem]) (by simp[go_sem]) (by simp) (by simp[go_sem]) (by simp[go_sem]) (by simp[go_sem]) (by omega) aL rfl h2 h1 p rfl
          have ojR:=oR' jR rfl;have jltR:=aR.lt jR rfl;have jR0:jR≠m:=by omega
          have kR0:m≠jR:=by omega
          have jR1:jR≠m+1:=by omega
          have kR1:m+1≠jR:=by omega
          have jR2:jR≠m+1+1:=by omega
          have kR2:m+1+1≠jR:=by omega
          have jR3:jR≠m+1+1+1:=by omega
          have kR3:m+1+1+1≠jR:=by omega
          have jR4:jR≠m+1+1+1+1:=by omega
          have kR4:m+1+1+1+1≠jR:=by omega
          have jR5:jR≠m+1+1+1+1+1:=by omega
          have kR5:m+1+1+1+1+1≠jR:=by omega
          have pR0:jR≠n:=by omega
          have qR0:n≠jR:=by omega
          have pR1:jR≠n+1:=by omega
          have qR1:n+1≠jR:=by omega
          have pR2:jR≠n+2:=by omega
          have qR2:n+2≠jR:=by omega
          have pR3:jR≠n+3:=by omega
          have qR3:n+3≠jR:=by omega
          have apR:∀(H:Hp) (p q:Nat),H jR=some (.cells (ER.flatMap SV.cells))->H q=some (.cells [AA y.kind,AA y.code,AA y.id,.str (y.text.extract c.toNat y.text.size),Af y.head.props,AA y.head.ins,AA y.head.move,AP y.head.dels,AL y.head.layers,AG y.flow,A3 y.rows])->AU Tryz.prog H p .append [22,22] [.sl jR 0 11 ER.length false,.sl q 0 11 1 true]=some { val:=.sl p 0 11 (ER.length+1) false,upd:=some (jR,none),new:=some (.cells (ER.flatMap SV.cells++[AA y.kind,AA y.code,AA y.id,.str (y.text.extract c.toNat y.text.size),Af y.head.props,AA y.head.ins,AA y.head.move,AP y.head.dels,AL y.head.layers,AG y.flow,A3 y.rows])) }:=λH p q h1 h2=>
           GL (P:=Tryz.prog) (es:=ER) (e:=.agg [AA y.kind,AA y.code,AA y.id,.str (y.text.extract c.toNat y.text.size),Af y.head.props,AA y.head.ins,AA y.head.move,AP y.head.dels,AL y.head.layers,AG y.flow,A3 y.rows]) (t:=22) (t2:=22) (el:=70) (z:=11) (by simp[go_sem]) (by simp[go_sem]) (by simp[go_sem]) (by simp) (by simp[go_sem]) (by simp[go_sem]) (by simp[go_sem]) (by omega) aR rfl h2 h1 p rfl
          have hLR:jL≠jR:=λg=>hJ.ne jL rfl (by rw[g]);have hRL:jR≠jL:=hLR.symm;simp[↓Ab,↓Ag,go_sem,AC,AD,gL,gR,AM,e0,e1,e2,e3',e4,e5,e6,e8,hcp.1,hcp.2,apL,ojL,jL0,jL1,kL1,jL2,qL1,qL2,pL3,apR,ojR,jR0,jR1,jR2,jR3,jR4,qR1,qR2,pR3,hRL]
          repeat first|refine nd (by simp[CM,Ex,DG,Aq,Region.binds]<;>omega) ?_|refine sq ?_|refine aq ?_
          refine hJ.fin hsucc (some (m+1+1+1)) (some (m+1+1+1+1+1)) (by omega) (by(repeat rw[AD _ _ (by omega)]);exact g0) (by rw[qc,hEL];(try rw[AD _ _ (by omega)]);rw[AC];(try simp[AM])) (by rw[qc,hER];(try rw[AD _ _ (by omega)]);rw[AC];(try simp[AM])) (by(repeat rw[AD _ _ (by omega)]);exact AC _ _ _) (by rw[qc,hEL];exact aL.push (j:=m+1+1+1) (m':=m+1+1+1+1+1+1) (AE.E.st _) (AE.E.len _) (by omega) (by omega)) (by rw[qc,hER];exact aR.push (j:=m+1+1+1+1+1) (m':=m+1+1+1+1+1+1) (AE.E.st _) (AE.E.len _) (by omega) (by omega)) (λj e=>.inr (by cases e;omega)) (λj e=>.inr (by cases e;omega)) (λj e g=>by cases e;injection g with g;omega) (λj e=>by cases e;rw[qc,hEL];(repeat rw[AD _ _ (by omega)]);rw[AC];(try simp[qx,AE.setText,AE.kind,AE.code,AE.id,AE.text,AE.head,AE.flow,AE.rows,SV.cells])) (λj e=>by cases e;rw[qc,hER];(repeat rw[AD _ _ (by omega)]);rw[AC];(try simp[qx,AE.setText,AE.kind,AE.code,AE.id,AE.text,AE.head,AE.flow,AE.rows,SV.cells])) (λo g1 g2=>?_) _
          . have hD:¬((n<=o/\o<=n+3)\/some jL=some o\/some jR=some o):=by have:=g1;rw[hJ.dom]at this;exact this
            have hneL:o≠jL:=λg=>hD (by rw[g];simp);have hneR:o≠jR:=λg=>hD (by rw[g];simp);have h3:¬(n<=o/\o<=n+3):=λg=>hD (.inl g)
            (repeat rw[AD _ _ (by omega)])
 refine kS (az l Y hl hs (λo=>n<=o/\o<=n+3) _ _ ⟨none,none,?_⟩) ?_;exact⟨by omega,by rw[AD _ _ (by omega)];exact h0,by rw[AD _ _ (by omega)];exact h1,by rw[AD _ _ (by omega)];exact h2,AC _ _ _,by simp[DJ];exact jK _ _ _,by simp[DJ];exact jK _ _ _,by simp,by simp,by simp,by simp⟩;rintro _ h' m' ⟨v,hm,D',hDD,hh,hv⟩;rcases hv with⟨rfl,oL,oR,hJ⟩|⟨rfl,hX⟩
 . refine⟨_,_,hJ.loop,by simp,?_⟩;have hD':∀o,o<n->h' o=h o:=λo g=>by rw[hh o (λg'=>by have:n<=o/\o<=n+3:=g';omega) (by omega),AD _ _ (by omega),BE o g]
   have fin:∀hp:Hp,(∀o,o<n->hp o=h o)->(∀j,oL=some j->hp j=h' j)->(∀j,oR=some j->hp j=h' j)->B8 n hp m' (.tup [AM 11 oL ((DJ l cu l.length).1.map AE.enc),AM 11 oR ((DJ l cu l.length).2.map AE.enc)]) (Is (.tup [AG (Bj l cu).1,AG (Bj l cu).2]) h n):=λhp g1 g2 g3=>by
    refine Dy 2 ho (λo y e=>by rw[g1 o (ho o y e).1];exact e) (.inr ⟨?_,?_,trivial⟩) (by simp[closed,closedL,AE.E.closedL]);refine AM.fz ho (n:=n) (m:=m') ⟨hJ.accL.none,λj e=>⟨by have:=(hJ.accL.lt j e).1;omega,(hJ.accL.lt j e).2⟩,hJ.accL.size⟩ λj y e=>?_;cases hoL:oL with
    | none=>rw[hoL]at e;have:=(ho j y e).1;rw[g1 j this];exact e
    | some i=>
     rw[hoL]at e;simp only[AN]at e;by_cases e1:j=i;subst e1;rw[AC]at e;rw[g2 j hoL,hJ.objL j hoL];exact e;rw[AD _ _ e1]at e;have:=(ho j y e).1;rw[g1 j this];exact e
    refine AM.fz ho (n:=n) (m:=m') ⟨hJ.accR.none,λj e=>⟨by have:=(hJ.accR.lt j e).1;omega,(hJ.accR.lt j e).2⟩,hJ.accR.size⟩ λj y e=>?_;cases hoR:oR with
    | none=>rw[hoR]at e;have:=(ho j y e).1;rw[g1 j this];exact e
    | some i=>
     rw[hoR]at e;simp only[AN]at e;by_cases e1:j=i;subst e1;rw[AC]at e;rw[g3 j hoR,hJ.objR j hoR];exact e;rw[AD _ _ e1]at e;have:=(ho j y e).1;rw[g1 j this];exact e
   have gL:=hJ.left;have gR:=hJ.right;have ltL:=hJ.accL.lt;have ltR:=hJ.accR.lt;generalize(DJ l cu l.length).1.map AE.enc=EL at *;generalize(DJ l cu l.length).2.map AE.enc=ER at *;rcases oL with _|jL<;>rcases oR with _|jR
   all_goals
    simp[go_sem,AC,AD,gL,gR,AM]
    repeat first|refine nd (by simp[CM,Ex,DG,Aq,Region.binds];done) ?_|refine sq ?_|refine aq ?_
    refine fin _ (λo g=>?_) (λj e=>?_) (λj e=>?_);rw[AD _ _ (by omega),AD _ _ (by omega),AD _ _ (by omega)];exact hD' o g;have:=(ltL j e).1;rw[AD _ _ (by omega),AD _ _ (by omega),AD _ _ (by omega)];have:=(ltR j e).1;rw[AD _ _ (by omega),AD _ _ (by omega),AD _ _ (by omega)]
 exact hX.elim
end Go.Proofs.YtgakninlhfkkmaaGreat.Sh
