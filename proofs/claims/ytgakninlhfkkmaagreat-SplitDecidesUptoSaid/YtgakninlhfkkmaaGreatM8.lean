/- A part of the proof (part 8 of 17). -/
import Derived.Test.YtgakninlhfkkmaaGreatM7
namespace Go.Proofs.YtgakninlhfkkmaaGreat.Sh
open Proofs
set_option maxRecDepth 10000
theorem AB.setText_sized {y:AB} (h:y.sized) (a b:Nat):(y.setText (y.text.extract a b)).sized:=by
 cases y with
 | mk k c i t hd f r=>
  simp only[AB.setText,AB.sized,AB.text,AB.kind,AB.code,AB.id,AB.head,AB.flow,AB.rows]at h ⊢;refine⟨?_,h.2⟩;have:=h.1;simp;omega
theorem Of (cu:Int) (s:List AB×List AB) (p:Int×AB) (hp:p.2.sized) (h1:∀x∈s.1,x.sized) (h2:∀x∈s.2,x.sized):(∀x∈(B7 cu s p).1,x.sized)/\∀x∈(B7 cu s p).2,x.sized:=by
 unfold B7;split;refine⟨λx a=>?_,h2⟩;rcases qd.1 a with a|a;exact h1 x a;rw[qy.1 a];exact hp;split;refine⟨h1,λx a=>?_⟩;rcases qd.1 a with a|a;exact h2 x a;rw[qy.1 a];exact hp;refine⟨λx a=>?_,λx a=>?_⟩;rcases qd.1 a with a|a;exact h1 x a;rw[qy.1 a];exact AB.setText_sized hp _ _;rcases qd.1 a with a|a;exact h2 x a;rw[qy.1 a];exact AB.setText_sized hp _ _
theorem J8 (l:List AB) (cu:Int) (a:∀x∈l,x.sized):∀k,k<=l.length->(∀x∈(CV l cu k).1,x.sized)/\∀x∈(CV l cu k).2,x.sized
 | 0,_=>by simp[CV]
 | k+1,h=>by
  rw[Fx l cu k h];have h2:=J8 l cu a k (by omega);exact Of _ _ _ (a _ (qi _)) h2.1 h2.2
theorem IX (l:List AB) (cu:Int) (a:AB.sizedL l):AB.sizedL (Ad l cu).1/\AB.sizedL (Ad l cu).2:=
 ⟨ww (J8 l cu (vq a) _ (qa _)).1,ww (J8 l cu (vq a) _ (qa _)).2⟩
theorem D9 (l:List AB) (cu:Int):(Ad l cu).1.length<=l.length/\(Ad l cu).2.length<=l.length:=NZ l cu _ (qa _)
theorem AB.sizedL_text {l:List AB} (h:AB.sizedL l):∀x∈l,x.text.size<=1048576:=λx a=>by
 have:=vq h x a;cases x;simp only[AB.sized,AB.text]at this ⊢;exact this.1
def Ab (l:List AB) (a b:Int):List AB×Int:=if DL l a b=0 then(AO (Ad (Ad l b).1 a).2,0)else([],DL l a b)
theorem Zr (l:List AB) (a b:Int) (hl:l.length<=1048576) (c:AB.sizedL l):PC 180 [AK l,AA a,AA b] (.tup [AK (Ab l a b).1,AA (Ab l a b).2]):=by
 intro h n;refine gq Tryz.func180 rfl λd=>?_;simp[go_sem];refine(gE l a b hl (AB.sizedL_text c)).use ?_;by_cases hc:DL l a b=0;have s1:=(IX l b c).1;have l1:=(D9 l b).1;have s2:=(IX _ a s1).2;have l2:=(D9 (Ad l b).1 a).2;simp[go_sem,hc];refine(br l b hl (AB.sizedL_text c)).use ?_;simp[go_sem];refine(br _ a (by omega) (AB.sizedL_text s1)).use ?_;simp[go_sem];refine(c73 _ (by omega) s2).use ?_;simp[go_sem];refine As d (by simp[closed,closedL,AB.E.closedL]) ?_;simp[Ab,hc];simp[go_sem,hc];have e:Ab l a b=([],DL l a b):=by simp[Ab,hc]
 rw[e];exact Dj 2 d AC (.inr ⟨Bj (by simp),IO,trivial⟩) (by simp[closed,closedL])
def AF.revs (h:AF):List Int:=(if h.ins=0 then[]else[h.ins])++h.dels.map (·.rev)++h.layers.map (·.rev)
def AF.revsK (h:AF) (i j:Nat):List Int:=(if h.ins=0 then[]else[h.ins])++(h.dels.take i).map (·.rev)++(h.layers.take j).map (·.rev)
theorem AF.revsK_len (h:AF) (i j:Nat) (hi:i<=h.dels.length) (hj:j<=h.layers.length):(h.revsK i j).length<=1+i+j:=by
 unfold AF.revsK;split<;>simp<;>omega
theorem Mq {H:Hp} {n m k p:Nat} {es:List Int} {x:Int} {o:Option Nat} (a:BR n m 1 o (es.map AA)) (hl:es.length<=1073741823) (h1:H k=some (.cells [AA x])) (h2:∀j,o=some j->H j=some (.cells (es.map AA))):
 Al Tryz.prog H p .append [61,61] [AW 1 o (es.map AA),.sl k 0 1 1 true]=some { val:=.sl p 0 1 (es.length+1) false,upd:=o.map λj=>(j,none),new:=some (.cells (es.map AA++[AA x])) }:=by
 have:=Fa (P:=Tryz.prog) (H:=H) (t:=61) (t2:=61) (el:=3) (by simp[go_sem]) (by simp[go_sem]) (by simp[go_sem]) (by simp) (by simp[go_sem]) (by simp[go_sem]) (by simp[go_sem]) (by simp;omega) a (e:=AA x) rfl h1 (λj e=>by rw[h2 j e,EU]) p;rw[this,EU];simp[SV.cells]
theorem Kf (o:Option Nat) (l:List Int) (h:Hp):AV o (l.map AA) h=match o with|none=>h|some j=>hset h j (some (.cells (l.map AA))):=by
 cases o<;>simp[AV,EU]
theorem eo (a:AF) (B:a.sized) (u:a.revs.length<=1048576):PC 114 [a.enc] (.imm 1 ((C9 (Cr a.revs)).map AA) false):=by
 intro h n;refine DO Tryz.func114 rfl λg=>?_;have w:=g.none (qa n);refine By 2 [(1,.iptr a.flat)] h (λm=>m=n+1) ?_ (λm t=>?_);simp[go_sem,AF.enc];exact⟨AZ w (by simp[AD]),AR g (qa _) AC⟩;subst t;refine B8 1 (α:=Unit) (λ_=>[(1,.iptr a.flat),(3,AW 1 none [])]) (λ_=>h) (λ_ m=>m=n+1) (by simp[go_sem,AW]) (λ_ m t=>?_);subst t;refine B8 1 (α:=Option Nat) (λo=>[(1,.iptr a.flat),(3,AW 1 o ((a.revsK 0 0).map AA))]) (λo=>AV o ((a.revsK 0 0).map AA) h) (λo m=>n<m/\BR (n+1) m 1 o ((a.revsK 0 0).map AA)) ?_ (λo m t=>?_);by_cases e:a.ins=0;simp[go_sem,AF.flat,e,AF.revsK];exact⟨none,vA _ _ _,IO,AC⟩;have s:=λ(H:Hp) (k p:Nat) (h1:H k=some (.cells [AA a.ins]))=>Mq (H:=H) (k:=k) (p:=p) (es:=[]) (x:=a.ins) (vA 0 0 1) (by simp) h1 (by simp);simp only[kE,vI,vH,qE]at s;simp[go_sem,AF.flat,e,AF.revsK];rw[s _ _ _ (by simp[AD])];simp[go_sem];refine⟨some (n+1+1),?_,?_,?_⟩;exact(vA (n+1) (n+1) 1).push (e:=AA a.ins) rfl rfl (by omega) (by omega);simp[AW,IO];intro j y;have:=g j y;simp only[AV,hset,SV.cells,jx,vn,kv];grind;obtain⟨f,b⟩:=t;refine AJ ?_;simp[go_sem,AF.flat];refine Av 1 (α:=Nat×Option Nat) (λq=>[(1,.iptr a.flat),(3,AW 1 q.2 ((a.revsK q.1 0).map AA)),(20,Ax a.dels),(21,AA a.dels.length),(22,AA q.1)]) (λq=>AV q.2 ((a.revsK q.1 0).map AA) h)
  (λq m=>q.1<=a.dels.length/\n<m/\BR (n+1) m 1 q.2 ((a.revsK q.1 0).map AA)) (λq=>a.dels.length-q.1) (0,o) ?_ ?_ AC ?_
 exact⟨qg _,f,b⟩;simp[Ao,AF.flat];clear b f;rintro⟨i,o⟩ m ⟨hi,f,b⟩;dsimp only at hi b ⊢;have hsd:=B.dels;have hsl:=B.layers;have l:=a.revsK_len i 0 hi (qg _);have c:∀j,o=some j->n<j/\j<m:=λj e=>by have:=b.lt j e;omega
 by_cases r:i<a.dels.length;have w1:=wS i (by omega);obtain⟨x,v⟩:∃x,a.dels[i]=x:=⟨_,rfl⟩
 have d:a.revsK (i+1) 0=a.revsK i 0++[x.rev]:=by
  unfold AF.revsK;rw[qb r,v];simp
 simp[go_sem,r,v,Bs.enc,AD,Ah,AF.flat];rw[Mq (x:=x.rev) b (by omega) (by simp[AD]) (by
  intro j e;have:=c j e;subst e;simp only[Kf,hset];grind)]
 simp[go_sem,w1,-Int.natCast_add];refine⟨i+1,by omega,some (m+1+1),⟨by omega,by omega,?_⟩,⟨?_,IO⟩,?_⟩;rw[d,qc];exact b.push rfl rfl (by omega) (by omega);rw[d];simp[AW,IO];rw[d];intro j y;have:=g j y;have:=c j;simp only[Kf];simp only[hset,qc,qr,kE];cases o<;>simp only[vH,qO,hset]<;>grind;have:i=a.dels.length:=by omega
 subst this;simp[go_sem,AF.flat];refine Av 1 (α:=Nat×Option Nat) (λq=>[(1,.iptr a.flat),(3,AW 1 q.2 ((a.revsK a.dels.length q.1).map AA)),(34,Ai a.layers),(35,AA a.layers.length),(36,AA q.1)]) (λq=>AV q.2 ((a.revsK a.dels.length q.1).map AA) h)
  (λq m=>q.1<=a.layers.length/\n<m/\BR (n+1) m 1 q.2 ((a.revsK a.dels.length q.1).map AA)) (λq=>a.layers.length-q.1) (0,o) ?_ ?_ AC ?_
 exact⟨qg _,f,b⟩;simp[Ao,AF.flat];clear b f l c;rintro⟨i,o⟩ m ⟨hi,f,b⟩;dsimp only at hi b ⊢;have l:=a.revsK_len a.dels.length i (qa _) hi;have c:∀j,o=some j->n<j/\j<m:=λj e=>by have:=b.lt j e;omega
 by_cases r:i<a.layers.length;have w1:=wS i (by omega);obtain⟨x,v⟩:∃x,a.layers[i]=x:=⟨_,rfl⟩
 have d:a.revsK a.dels.length (i+1)=a.revsK a.dels.length i++[x.rev]:=by
  unfold AF.revsK;rw[qb r,v];simp
 simp[go_sem,r,v,AM.enc,AD,Ah,AF.flat];rw[Mq (x:=x.rev) b (by omega) (by simp[AD]) (by
  intro j e;have:=c j e;subst e;simp only[Kf,hset];grind)]
 simp[go_sem,w1,-Int.natCast_add];refine⟨i+1,by omega,some (m+1+1),⟨by omega,by omega,?_⟩,⟨?_,IO⟩,?_⟩;rw[d,qc];exact b.push rfl rfl (by omega) (by omega);rw[d];simp[AW,IO];rw[d];intro j y;have:=g j y;have:=c j;simp only[Kf];simp only[hset,qc,qr,kE];cases o<;>simp only[vH,qO,hset]<;>grind;have:i=a.layers.length:=by omega
 subst this;have C:a.revsK a.dels.length a.layers.length=a.revs:=by simp[AF.revsK,AF.revs]
 rw[C]at b l ⊢;cases o with
 | none=>
  have A:=b.none rfl;simp only[vO]at A;simp[go_sem,AF.flat,AW,AV];refine wn (bs:=[.imm 1 [.imm 1 (a.revs.map AA) false] false]) (h2:=h) 2 (AR g (by omega) AC) ⟨?_,trivial⟩ ((bc a.revs u).use ?_);rw[A];refine .inr ⟨g.none (show n<=m by omega),by simp,rfl,rfl,[.imm 0 [] true],[.imm 0 [] true],AD _ _ _,by simp[Bz],by simp[SV.storable,SV.cells],?_⟩;exact⟨Bj (by simp),trivial⟩;simp[go_sem];exact As g (by simp[closed,Ns.closedL]) rfl
 | some q=>
  have hq:=c q rfl;simp[go_sem,AF.flat,AW];refine wn (bs:=[.imm 1 [.imm 1 (a.revs.map AA) false] false]) (h2:=h) 2 (by intro j y;have:=g j y;simp only[AV,hset];grind) ⟨?_,trivial⟩ ((bc a.revs u).use ?_);refine .inr ⟨g.none (show n<=m by omega),by simp,rfl,rfl,_,_,AD _ _ _,by simp[Bz];rfl,by simp[SV.storable,SV.cells],?_⟩;refine⟨?_,trivial⟩;have:=Cz (h':=hset (AV (some q) (a.revs.map AA) h) m (some (.cells [.sl q 0 1 a.revs.length false]))) (h:=h) (k:=0) (z:=1) (o:=q) (es:=a.revs.map AA) (full:=false) (full':=false) (g.none (by omega)) (by simp) (by rw[AE _ _ (by omega)];simp[AV,hset]) (Ns.size _);simpa using this;simp[go_sem];exact As g (by simp[closed,Ns.closedL]) rfl
theorem U7 (l:List Int) (x:Int):x∈C9 l↔x∈l:=(List.mergeSort_perm l _).mem_iff
theorem Px (l:List Int):(Cr l).length<=l.length:=by have:=JO l l.length (qa _);simpa using this
def AF.uses (h:AF) (rev:Int):Bool:=decide (rev∈h.revs)
theorem c38 (a:AF) (d:a.sized) (b:a.revs.length<=1048576) (rev:Int):PC 38 [a.enc,AA rev] (.bool (a.uses rev)):=by
 intro h n;refine gq Tryz.func38 rfl λc=>?_;simp[go_sem,AF.enc,AF.flat,AD];refine qz (by simpa[AF.enc,AF.flat]using eo a d b) ?_;simp[go_sem];have hl:(C9 (Cr a.revs)).length<=1048576:=by
  have h1:(C9 (Cr a.revs)).length=(Cr a.revs).length:=List.length_mergeSort _;have:=Px a.revs;omega
 refine(bQ _ rev hl).use ?_;simp[go_sem];exact A3 c (AR c (qa _) AC) (by simp[AF.uses,U7,Ux]) rfl
def Fd (out:List Int) (x:Int):List Int:=if x∈out then out else out++[x]
def BU (out l:List Int):List Int:=l.foldl Fd out
theorem CR (out a b:List Int):BU out (a++b)=BU (BU out a) b:=jw
theorem Id (x:Int):∀(l out:List Int),x∈BU out l↔x∈out\/x∈l
 | [],out=>by simp[BU]
 | a::l,out=>by
  have b:=Id x l (Fd out a);have e:BU out (a::l)=BU (Fd out a) l:=rfl;rw[e,b];unfold Fd;split;rename_i h;constructor;rintro(h1|h1);exact .inl h1;exact .inr (qC _ h1);rintro(h1|h1);exact .inl h1;rcases qt.1 h1 with rfl|h1;exact .inl h;exact .inr h1;simp only[qd,qt,List.not_mem_nil,or_false,or_assoc]
theorem J2:∀(l out:List Int),out.Nodup->(BU out l).Nodup
 | [],_,h=>h
 | a::l,out,h=>by
  have e:BU out (a::l)=BU (Fd out a) l:=rfl;rw[e];refine J2 l _ ?_;unfold Fd;split;exact h;rename_i hn;rw[List.nodup_append];refine⟨h,by simp,λx c y b=>?_⟩;simp at b;rintro rfl;subst b;exact hn c
theorem NL:∀(l out:List Int),(BU out l).length<=out.length+l.length
 | [],out=>by simp[BU]
 | a::l,out=>by
  have e:BU out (a::l)=BU (Fd out a) l:=rfl;rw[e];have:=NL l (Fd out a);have h2:(Fd out a).length<=out.length+1:=by unfold Fd;split<;>simp
  simp;omega
theorem To (out:List Int) (x:Int):
 (∃i v,DT (AA x) (FC out) 0=some (some (i,v))/\(FC out).modify i (λ_=>(AA x,.bool true))=FC (Fd out x))\/(DT (AA x) (FC out) 0=some none/\FC out++[(AA x,.bool true)]=FC (Fd out x)):=by
 by_cases a:x∈out;obtain⟨j,h1,h2⟩:=Da 0 a;refine .inl ⟨0+j,_,h1,?_⟩;have:=KX h2;rw[qU,Fd,if_pos a];exact this;refine .inr ⟨ET 0 a,?_⟩;rw[Fd,if_neg a];simp[FC]
def AF.all (h:AF):List Int:=h.ins::(h.dels.map (·.rev)++h.layers.map (·.rev))
theorem YI (a:AF) (r:a.sized) (out:List Int) {H:Hp} {n p s:Nat} (hp:H p=some (.cells [.map s])) (g:H s=some (.map (FC out))):
 BL Tryz.prog 137 [a.enc,.ptr p 0] H n (λv h' n'=>v=.tup []/\h'=hset H s (some (.map (FC (BU out a.all))))/\n'=n):=by
 refine DO Tryz.func137 rfl λf=>?_;have hpn:=(f p _ hp).1;have b:=(f s _ g).1;have q:p≠s:=by rintro rfl;rw[hp]at g;cases g
 have e1:p≠n:=by omega
 have e2:s≠n:=by omega
 have hsd:=r.dels;have hsl:=r.layers;have A:∀l:List Int,a.all=a.ins::l->BU out a.all=BU (Fd out a.ins) l:=λl e=>by rw[e];rfl
 refine By 2 [(1,.ptr p 0),(2,.iptr a.flat)] H (λm=>m=n+1) ?_ (λm z=>?_);simp[go_sem,AF.enc,IO];exact⟨AZ (f.none (qa n)) (by simp[AD]),AR f (qa _) AC⟩;subst z;refine By 1 [(1,.ptr p 0),(2,.iptr a.flat)] (hset H s (some (.map (FC (Fd out a.ins))))) (λm=>m=n+1) ?_ (λm z=>?_);rcases To out a.ins with⟨i,v,h1,h2⟩|⟨h1,h2⟩<;>simp[go_sem,AF.flat,hp,g,h1,h2,Cc];subst z;refine AJ ?_;simp[go_sem,AF.flat];refine Av 1 (α:=Nat) (λi=>[(1,.ptr p 0),(2,.iptr a.flat),(13,Ax a.dels),(14,AA a.dels.length),(15,AA i)]) (λi=>hset H s (some (.map (FC (BU (Fd out a.ins) ((a.dels.take i).map (·.rev)))))))
  (λi m=>i<=a.dels.length/\n<m) (λi=>a.dels.length-i) 0 ?_ ?_ ?_ ?_
 exact⟨qg _,qY n⟩;simp[Ao,AF.flat];exact AC;rintro i m ⟨hi,d⟩;have u:p≠m:=by omega
 have w:s≠m:=by omega
 by_cases c:i<a.dels.length
 . have w1:=wS i (by omega);obtain⟨x,t⟩:∃x,a.dels[i]=x:=⟨_,rfl⟩
   have b:BU (Fd out a.ins) ((a.dels.take (i+1)).map (·.rev))=Fd (BU (Fd out a.ins) ((a.dels.take i).map (·.rev))) x.rev:=by
    rw[qb c,t,qc,CR];rfl
   generalize BU (Fd out a.ins) ((a.dels.take i).map (·.rev))=o2 at b ⊢;rcases To o2 x.rev with⟨k,v,h1,h2⟩|⟨h1,h2⟩<;>simp[go_sem,AF.flat,c,t,Bs.enc,hp,h1,h2,Cc,w1,AD,AE,u,w,q,-Int.natCast_add]
   all_goals
    refine⟨i+1,by omega,⟨by omega,by omega⟩,IO,?_⟩;rw[<-vp,b];intro j y;have:=f j y;simp only[hset];grind
 . have:i=a.dels.length:=by omega
   subst this;rw[qm];generalize B:BU (Fd out a.ins) (a.dels.map (·.rev))=out1;simp[go_sem,AF.flat];refine Av 1 (α:=Nat) (λi=>[(1,.ptr p 0),(2,.iptr a.flat),(25,Ai a.layers),(26,AA a.layers.length),(27,AA i)]) (λi=>hset H s (some (.map (FC (BU out1 ((a.layers.take i).map (·.rev)))))))
    (λi m=>i<=a.layers.length/\n<m) (λi=>a.layers.length-i) 0 ?_ ?_ ?_ ?_
   exact⟨qg _,d⟩;simp[Ao,AF.flat];exact AC;clear hi d u w m c;rintro i m ⟨hi,d⟩;have u:p≠m:=by omega
   have w:s≠m:=by omega
   by_cases c:i<a.layers.length
   . have w1:=wS i (by omega);obtain⟨x,t⟩:∃x,a.layers[i]=x:=⟨_,rfl⟩
     have b:BU out1 ((a.layers.take (i+1)).map (·.rev))=Fd (BU out1 ((a.layers.take i).map (·.rev))) x.rev:=by
      rw[qb c,t,qc,CR];rfl
     generalize BU out1 ((a.layers.take i).map (·.rev))=o2 at b ⊢;rcases To o2 x.rev with⟨k,v,h1,h2⟩|⟨h1,h2⟩<;>simp[go_sem,AF.flat,c,t,AM.enc,hp,h1,h2,Cc,w1,AD,AE,u,w,q,-Int.natCast_add]
     all_goals
      refine⟨i+1,by omega,⟨by omega,by omega⟩,IO,?_⟩;rw[<-vp,b];intro j y;have:=f j y;simp only[hset];grind
   have:i=a.layers.length:=by omega
   subst this;rw[qm];simp[go_sem,AF.flat];have h:BU out1 (a.layers.map (·.rev))=BU out a.all:=by
    rw[<-B,<-CR];exact(A _ rfl).symm
   rw[h];refine .inr ⟨0,.tup [],_,IO,by simp[closed,closedL],λo x e=>⟨e,?_⟩,rfl,rfl,rfl⟩;have:=f o x;simp only[hset]at e;split at e;subst_vars;cases e;refine⟨b,?_⟩;simp[BW,FC,closed];exact this e
mutual
def AB.us:AB->List Int
 | .mk k _ _ _ h f r=>h.all++(if k=6 then AB.usL f else if k=7 then AP.usL r else[])
def AB.usL:List AB->List Int
 | []=>[]
 | x::l=>x.us++AB.usL l
def AP.us:AP->List Int
 | .mk h c=>h.all++AH.usL c
def AP.usL:List AP->List Int
 | []=>[]
 | x::l=>x.us++AP.usL l
def AH.us:AH->List Int
 | .mk _ h f=>h.all++AB.usL f
def AH.usL:List AH->List Int
 | []=>[]
 | x::l=>x.us++AH.usL l
end
theorem AB.usL_append:∀a b:List AB,AB.usL (a++b)=AB.usL a++AB.usL b
 | [],b=>by simp[AB.usL]
 | x::a,b=>by rw[qx,AB.usL,AB.usL_append a b,AB.usL,qj]
theorem AP.usL_append:∀a b:List AP,AP.usL (a++b)=AP.usL a++AP.usL b
 | [],b=>by simp[AP.usL]
 | x::a,b=>by rw[qx,AP.usL,AP.usL_append a b,AP.usL,qj]
theorem AH.usL_append:∀a b:List AH,AH.usL (a++b)=AH.usL a++AH.usL b
 | [],b=>by simp[AH.usL]
 | x::a,b=>by rw[qx,AH.usL,AH.usL_append a b,AH.usL,qj]
theorem Yr {H h':Hp} {n n' s:Nat} {y:Bb} (c:Gm H n) (a:s<n) (hc:BW n y=true) (b:∀j z,hset H s (some y) j=some z->h' j=some z):
 CO n h' n' (.tup []) (λv h2 d=>v=.tup []/\h2=hset H s (some y)/\d=n):=by
 refine .inr ⟨0,.tup [],_,IO,by simp[closed,closedL],λo x e=>⟨b o x e,?_⟩,rfl,rfl,rfl⟩;simp only[hset]at e;split at e;subst_vars;cases e;exact⟨a,hc⟩;exact c o x e
theorem IJ (n:Nat) (out:List Int):BW n (.map (FC out))=true:=by simp[BW,FC,closed]
theorem iP:∀(N:Nat) (l:List AB),SizeOf.sizeOf l<N->l.length<=1048576->AB.sizedL l->∀(out:List Int) (H:Hp) (n p s:Nat),H p=some (.cells [.map s])->H s=some (.map (FC out))->
 BL Tryz.prog 138 [AK l,.fn (.func 137) [] [.ptr p 0]] H n (λv h' n'=>v=.tup []/\h'=hset H s (some (.map (FC (BU out (AB.usL l)))))/\n'=n):=by
 intro N
 induction N with
 | zero=>intro l h;omega
 | succ N ih=>
 intro l hN hl hs out H n p s hp A;refine gq Tryz.func138 rfl λo=>?_;have hpn:=(o p _ hp).1;have T:=(o s _ A).1;have f:p≠s:=by rintro rfl;rw[hp]at A;cases A
 simp[go_sem];refine Av 1 (α:=Nat) (λi=>[(1,.fn (.func 137) [] [.ptr p 0]),(10,AK l),(11,AA l.length),(12,AA i)]) (λi=>hset H s (some (.map (FC (BU out (AB.usL (l.take i)))))))
  (λi m=>i<=l.length/\n<=m) (λi=>l.length-i) 0 ?_ ?_ ?_ ?_
 exact⟨qg _,qa n⟩;simp[Ao];intro j y;simp only[hset,vE,AB.usL,BU,List.foldl_nil];grind;rintro i m ⟨hi,g⟩;have d:p≠m:=by omega
 have a:s≠m:=by omega
 by_cases u:i<l.length;have w1:=wS i (by omega);obtain⟨x,V⟩:∃x,l[i]=x:=⟨_,rfl⟩
 have C:x∈l:=by rw[<-V];exact qi u
 have b:=vq hs x C;have W:=EY b;have U:AB.usL (l.take (i+1))=AB.usL (l.take i)++x.us:=by
  rw[qb u,V,AB.usL_append];simp[AB.usL]
 have K:BU out (AB.usL (l.take (i+1)))=BU (BU out (AB.usL (l.take i))) x.us:=by rw[U,CR]
 generalize BU out (AB.usL (l.take i))=o2 at K ⊢;simp[go_sem,u,V,qw,AD];refine qP (by simpa[AF.enc,AF.flat]using YI x.head W.1 o2 (p:=p) (s:=s) (by simp[hset,d,f,hp]) (by simp[hset,a])) ?_;rintro v h' n' ⟨rfl,rfl,rfl⟩;have k:x.us=x.head.all++(if x.kind=6 then AB.usL x.flow else if x.kind=7 then AP.usL x.rows else[]):=by cases x;rfl
 by_cases k6:x.kind=6;have J:x.flow.length<=1048576/\AB.sizedL x.flow:=by cases x;rw[AB.sized]at b;exact⟨b.2.2.1,b.2.2.2.2.1⟩
 simp[go_sem,AD,AE,a.symm,k6];refine qP (ih x.flow (by have:=PG C;omega) J.1 J.2 (BU o2 x.head.all) _ _ p s (by simp[hset,d,f,hp]) (by simp[hset])) ?_;rintro v h' n' ⟨rfl,rfl,rfl⟩;simp[go_sem,w1,-Int.natCast_add];refine⟨i+1,by omega,⟨by omega,by omega⟩,IO,?_⟩;rw[K,k,if_pos k6,CR];intro j y;have:=o j y;simp only[hset];grind;by_cases k7:x.kind=7;have X:x.rows.length<=1048576/\AP.sizedL x.rows:=by cases x;rw[AB.sized]at b;exact⟨b.2.2.2.1,b.2.2.2.2.2⟩
 rw[if_neg k6,if_pos k7]at k;simp[go_sem,AD,AE,a.symm,k7];generalize L:BU o2 x.head.all=o3;refine Av 1 (α:=Nat) (λq=>[(1,.fn (.func 137) [] [.ptr p 0]),(10,AK l),(11,AA l.length),(12,AA i),(31,Aw x.rows),(32,AA x.rows.length),(33,AA q)]) (λq=>hset H s (some (.map (FC (BU o3 (AP.usL (x.rows.take q)))))))
  (λq m=>q<=x.rows.length/\n<=m) (λq=>x.rows.length-q) 0 ?_ ?_ ?_ ?_
 exact⟨qg _,by omega⟩;simp[Ao];intro j y;have:=o j y;simp only[hset,vE,AP.usL,BU,List.foldl_nil];grind;clear d a g m;rintro q m ⟨hq,g⟩;have d:p≠m:=by omega
 have a:s≠m:=by omega
 by_cases z:q<x.rows.length;have w2:=wS q (by omega);obtain⟨r,Q⟩:∃r,x.rows[q]=r:=⟨_,rfl⟩
 have G:r∈x.rows:=by rw[<-Q];exact qi z
 have I:=AP.sizedL_mem X.2 r G;have R:AP.usL (x.rows.take (q+1))=AP.usL (x.rows.take q)++r.us:=by
  rw[qb z,Q,AP.usL_append];simp[AP.usL]
 have Y:BU o3 (AP.usL (x.rows.take (q+1)))=BU (BU o3 (AP.usL (x.rows.take q))) r.us:=by rw[R,CR]
 have S:r.us=r.head.all++AH.usL r.cells:=by cases r;rfl
 have F:r.head.sized/\r.cells.length<=1048576/\AH.sizedL r.cells:=by cases r;rw[AP.sized]at I;exact I
 generalize BU o3 (AP.usL (x.rows.take q))=o4 at Y ⊢;simp[go_sem,z,Q,kl,AD];refine qP (by simpa[AF.enc,AF.flat]using YI r.head F.1 o4 (p:=p) (s:=s) (by simp[hset,d,f,hp]) (by simp[hset,a])) ?_;rintro v h' n' ⟨rfl,rfl,rfl⟩;simp[go_sem,AD,AE,a.symm];generalize M:BU o4 r.head.all=o5;refine Av 1 (α:=Nat) (λw=>[(1,.fn (.func 137) [] [.ptr p 0]),(10,AK l),(11,AA l.length),(12,AA i),(31,Aw x.rows),(32,AA x.rows.length),(33,AA q),(42,BZ r.cells),(43,AA r.cells.length),(44,AA w)]) (λw=>hset H s (some (.map (FC (BU o5 (AH.usL (r.cells.take w)))))))
  (λw m=>w<=r.cells.length/\n<=m) (λw=>r.cells.length-w) 0 ?_ ?_ ?_ ?_
 exact⟨qg _,by omega⟩;simp[Ao];intro j y;have:=o j y;simp only[hset,vE,AH.usL,BU,List.foldl_nil];grind;clear d a g m;rintro w m ⟨hw,g⟩;have d:p≠m:=by omega
 have a:s≠m:=by omega
 by_cases B:w<r.cells.length;have w3:=wS w (by omega);obtain⟨c,hc⟩:∃c,r.cells[w]=c:=⟨_,rfl⟩
 have D:c∈r.cells:=by rw[<-hc];exact qi B
 have E:=AH.sizedL_mem F.2.2 c D;have O:AH.usL (r.cells.take (w+1))=AH.usL (r.cells.take w)++c.us:=by
  rw[qb B,hc,AH.usL_append];simp[AH.usL]
 have Z:BU o5 (AH.usL (r.cells.take (w+1)))=BU (BU o5 (AH.usL (r.cells.take w))) c.us:=by rw[O,CR]
 have P:c.us=c.head.all++AB.usL c.flow:=by cases c;rfl
 have t:c.head.sized/\c.flow.length<=1048576/\AB.sizedL c.flow:=by cases c;rw[AH.sized]at E;exact E
 generalize BU o5 (AH.usL (r.cells.take w))=o6 at Z ⊢;simp[go_sem,B,hc,kO,AD];refine qP (by simpa[AF.enc,AF.flat]using YI c.head t.1 o6 (p:=p) (s:=s) (by simp[hset,d,f,hp]) (by simp[hset,a])) ?_;rintro v h' n' ⟨rfl,rfl,rfl⟩;simp[go_sem,AD,AE,a.symm];refine qP (ih c.flow (by have:=O4 C G D;omega) t.2.1 t.2.2 (BU o6 c.head.all) _ _ p s (by simp[hset,d,f,hp]) (by simp[hset])) ?_;rintro v h' n' ⟨rfl,rfl,rfl⟩;simp[go_sem,w3,-Int.natCast_add];refine⟨w+1,by omega,⟨by omega,by omega⟩,IO,?_⟩;rw[Z,P,CR];intro j y;have:=o j y;simp only[hset];grind;have:w=r.cells.length:=by omega
 subst this;rw[qm];simp[go_sem,w2,-Int.natCast_add];refine⟨q+1,by omega,⟨by omega,by omega⟩,IO,?_⟩;rw[Y,S,CR,M];exact AC;have:q=x.rows.length:=by omega
 subst this;rw[qm];simp[go_sem,w1,-Int.natCast_add];refine⟨i+1,by omega,⟨by omega,by omega⟩,IO,?_⟩;rw[K,k,CR,L];exact AC;simp[go_sem,AD,AE,a.symm,k6,k7,w1,-Int.natCast_add];refine⟨i+1,by omega,⟨by omega,by omega⟩,IO,?_⟩;rw[K,k,if_neg k6,if_neg k7,kv];intro j y;have:=o j y;simp only[hset];grind;have:i=l.length:=by omega
 subst this;rw[qm];simp[go_sem];exact Yr o T (IJ _ _) λ_ _ e=>e
section
variable {P : Program} {E : CC} {evs : Operand → SV} {o : Oper} {h : Hp} {n : Nat} {K : SV → Hp → Nat → Prop}
theorem Kt {α:Type} (f:α->Nat):∀(L:List α),(L.map f).Nodup->∀(i:Nat) (hi:i<L.length),L.filter (λx=>f x !=f L[i])=L.eraseIdx i
 | a :: L, hn, 0, hi => by
  rw[qr,vd]at hn;rw[List.filter_cons];simp only[List.getElem_cons_zero,bne_self_eq_false,qn,if_false,List.eraseIdx_cons_zero];exact kQ.2 λx c=>by
   simp only[bne_iff_ne,ne_eq];intro e;exact hn.1 (e▸ql.2 ⟨x,c,rfl⟩)
 | a :: L, hn, i + 1, hi => by
  rw[qr,vd]at hn;rw[List.filter_cons];simp only[vB,List.eraseIdx_cons_succ];have b:(f a !=f (L[i]'(by simpa using hi)))=true:=by
   simp only[bne_iff_ne,ne_eq];intro e;exact hn.1 (e▸ql.2 ⟨_,qi _,rfl⟩)
  rw[if_pos b,Kt f L hn.2 i (by simpa using hi)]
theorem Lv {t:TypeId} {x:Operand} {m:Nat} {es:List (SV×SV)} (A:o.op=.range t x) (ht:(Mk P t).isSome=true) (L:evs x=.map m) (z:h m=some (.map es))
 (H:K (.ptr n 0) (hset (hset h m none) n (some (.iter es none))) (n+1)):DS E P evs o h n K:=by
 refine⟨by rw[A];simp,λc ev _ _ R F J=>?_⟩;have l:=J x;rw[L,V]at l;obtain⟨f,hρ,s⟩:=l;obtain⟨b',d,a,y,r,g3,D⟩:=R.obj _ _ z;rw[hρ]at y;cases y;obtain⟨⟨kt,e⟩,ht⟩:=kI.1 ht;have I:=Ep ht;have u:(getObj f).run P c.w=.ok (.map d a) c.w:=by simp[getObj,Sem.run,r]
 have k:(execOp ev o).run P c.w=.ok (.value (.pointer (some ⟨c.w.heap.size,0,none⟩))) (c.w.alloc (.mapIter (some f) a #[] a)):=by
  simp[execOp,A,Instr.range,AN I,s,u]
 have B:=R.kill m z;have i:(c.kill m).ρ n=none:=F n (qa _);have p:=c.kill_ext m;have v:f<c.w.heap.size:=(qp.1 r).1;have q:=(c.kill m).alloc_ext n (.mapIter (some f) a #[] a) i;have C:=B.alloc i (x:=.iter es none) (b:=.mapIter (some f) a #[] a) ⟨c.w.heap.size,f,d,a,#[],by simp[Cx.alloc,Cx.kill],by simp[Cx.alloc,Cx.kill,Bu],
  by simp[Cx.alloc,Cx.kill,Bu,kK,vM v,r],by
   simp only[Cx.alloc,Cx.kill];rintro(h1|h1);exact h1.2 0 hρ;omega,D,by
   have:(d.toList.filter λe=>!(#[]:Array Nat).contains e.born)=d.toList:=kQ.2 λ_ _=>by simp
   rw[this];exact wv (λ_ _ g=>⟨wc (p.trans q) g.1,wc (p.trans q) g.2⟩) g3,by simp⟩
 refine⟨_,.ptr n 0,_,n+1,(c.kill m).alloc n (.mapIter (some f) a #[] a),by rw[k];rfl,?_,C,λj G=>?_,⟨p.trans q,kz n,λj G=>?_⟩,H⟩;rw[V];exact⟨c.w.heap.size,0,by simp[Cx.alloc,Cx.kill],rfl⟩;simp only[Cx.alloc,Cx.kill];rw[if_neg (by omega)];exact F j (by omega);simp only[Cx.alloc,Cx.kill];rw[if_neg (by omega)]
theorem Pc {x:Operand} {q:Nat} {left:List (SV×SV)} {p:SV×SV} (v:o.op=.entry x) (G:evs x=.ptr q 0) (C:h q=some (.iter left (some p)))
 (B:K (.tup [p.1,p.2]) h n):DS E P evs o h n K:=by
 refine⟨by rw[v];simp,λc ev _ _ R F D=>?_⟩;have i:=D x;rw[G,V]at i;obtain⟨b,st,hρ,m⟩:=i;obtain⟨b',t,f,d,j,u,z,g3,g4,A,g6,g7⟩:=R.obj _ _ C;rw[hρ]at u;cases u;obtain⟨e,H,I,k3,J⟩:=g7 p rfl;have s:(getObj b).run P c.w=.ok (.mapIter (some t) d j d) c.w:=by simp[getObj,Sem.run,z]
 have r:(getObj t).run P c.w=.ok (.map f d) c.w:=by simp[getObj,Sem.run,g3]
 have g:f.find? (λy=>y.born==e.born)=some e:=by
  rw[<-Array.find?_toList];have:∀l:List MapEntry,(l.map (·.born)).Nodup->e∈l->l.find? (λy=>y.born==e.born)=some e:=by
   intro l
   induction l with
   | nil=>intro _ h;cases h
   | cons a l ih=>
    intro hn k;rw[qr,vd]at hn;rw[List.find?_cons];rcases qt.1 k with rfl|k;simp;have:(a.born==e.born)=false:=by
     simp only[beq_eq_false_iff_ne,ne_eq];intro h2;exact hn.1 (h2▸ql.2 ⟨e,k,rfl⟩)
    rw[this];exact ih hn.2 k
  exact this _ A.2 H
 refine⟨.tuple #[e.key,e.val],.tup [p.1,p.2],h,n,c,?_,by simp only[V,VL];exact⟨_,rfl,_,_,rfl,k3,_,_,rfl,J,rfl⟩,R,F,vm n c,B⟩;simp[execOp,v,Instr.entry,m,s,I,r,g]
theorem OG {x:Operand} {q:Nat} {left:List (SV×SV)} {last:Option (SV×SV)} (ho:o.op=.next x false) (hx:evs x=.ptr q 0) (hq:h q=some (.iter left last))
 (hk:∀(i:Nat) (hi:i<left.length),K (.tup [.bool true,left[i].1,left[i].2]) (hset h q (some (.iter (left.eraseIdx i) (some left[i])))) n) (h0:left=[]->K (.tup [.bool false]) h n):DS E P evs o h n K:=by
 refine⟨by rw[ho];simp,λc ev _ _ R F hv=>?_⟩;have hvx:=hv x;rw[hx,V]at hvx;obtain⟨b,st,hρ,hev⟩:=hvx;obtain⟨b',bm,ents,clock,seen,g1,g2,g3,g4,g5,g6,g7⟩:=R.obj _ _ hq;rw[hρ]at g1;cases g1;have hgo:(getObj b).run P c.w=.ok (.mapIter (some bm) clock seen clock) c.w:=by simp[getObj,Sem.run,g2]
 have hgm:(getObj bm).run P c.w=.ok (.map ents clock) c.w:=by simp[getObj,Sem.run,g3]
 have hgone:(!seen.isEmpty && !ents.isEmpty&&ents.all λy=>decide (y.born ≥ clock))=false:=by
  cases he:ents.isEmpty with
  | true=>simp
  | false =>
   have hne:0<ents.size:=by rcases Nat.eq_zero_or_pos ents.size with h|h;simp[Array.isEmpty,h]at he;exact h
   have:(ents.all λy=>decide (y.born ≥ clock))=false:=by
    rw[Array.all_eq_false];refine⟨0,hne,?_⟩;have:=g5.1 ents[0] (by simp);simp;exact this
   simp[this]
 generalize hL:ents.filter (λy=>!seen.contains y.born)=L;have hLl:L.toList=ents.toList.filter λe=>!seen.contains e.born:=by rw[<-hL];simp
 have BV:L.filter (λy=>decide (y.born<clock))=L:=by
  apply Array.ext';rw[Array.toList_filter];exact kQ.2 λy hy=>by
   rw[hLl]at hy;simpa using g5.1 y (kD.1 hy).1
 have hnew:L.filter (λy=>decide (y.born ≥ clock)) = #[]:=by
  apply Array.ext';rw[Array.toList_filter];exact List.filter_eq_nil_iff.2 λy hy=>by
   rw[hLl]at hy;simpa using g5.1 y (kD.1 hy).1
 rw[<-hLl]at g6;have hlen:left.length=L.size:=by have:=g6.length;simpa using this
 by_cases hz:L.size=0
 . have hl0:left=[]:=vu (by omega);have hL0:L = #[]:=Array.eq_empty_of_size_eq_zero hz;refine⟨.tuple #[.bool false],.tup [.bool false],h,n,c,?_,by simp[V,VL],R,F,vm n c,h0 hl0⟩;subst hL0;simp only[execOp,ho,Instr.next,hev,kP,Sem.run_bind,Sem.run_pure,hgo,Result.andThen_ok,hgm,hgone,qn,if_false,hL,BV,hnew];simp[Question.forced]
 . have hch:∃i w1,(choose (.mapNext L.size)).run P c.w=.ok i w1/\i<L.size/\(w1=c.w\/w1=c.w.drew):=by
    rw[run_choose_drew];by_cases hf:(Question.mapNext L.size).forced=true;rw[if_pos hf];exact⟨0,_,rfl,by omega,.inl rfl⟩;rw[if_neg hf];exact⟨_,_,rfl,Nat.mod_lt _ (by omega),.inr rfl⟩
   obtain⟨i,w1,hch,hi,hw1⟩:=hch;obtain⟨c1,hc1,X1,R1,F1,hρ1⟩:∃c1:Cx,c1.w=w1/\EH c c1/\CF h c1/\Fr n c1/\c1.ρ=c.ρ:=by
    rcases hw1 with rfl|rfl;exact⟨c,rfl,wp c,R,F,rfl⟩;exact⟨c.drew,rfl,c.drew_ext,R.drew,λj hj=>F j hj,rfl⟩
   subst hc1;have hh1:c1.w.heap=c.w.heap:=by rcases hw1 with e|e<;>rw[e]<;>rfl
   have hil:i<left.length:=by omega
   obtain⟨e,he,hr1,hr2⟩:=g6.get (i:=i) (a:=left[i]) (by simp[hil]);have heL:L[i]? = some e:=by simpa using he
   have hemem:e∈ents.toList:=by
    have:=kC he;rw[hLl]at this;exact(kD.1 this).1
   have hisE:L.isEmpty=false:=by cases hb:L.isEmpty with|false=>rfl|true=>(simp at hb;subst hb;simp at hz)
   have hblt:b<c.w.heap.size:=(qp.1 g2).1;have hset':∀ob:Obj,(setObj b ob).run P c1.w=.ok () { c1.w with heap:=c1.w.heap.setIfInBounds b ob }:=λob=>by simp[setObj,Sem.run,hh1,g2]
   have hrun:(execOp ev o).run P c.w=.ok (.value (.tuple #[.bool true,e.key,e.val])) { c1.w with heap:=c1.w.heap.setIfInBounds b (.mapIter (some bm) clock (seen.push e.born) clock) }:=by
    have hcand:((if L.isEmpty then #[none]else #[])++(L ++ #[]).map some:Array (Option MapEntry))=L.map some:=by simp[hisE]
    simp only[execOp,ho,Instr.next,hev,kP,Sem.run_bind,Sem.run_pure,hgo,Result.andThen_ok,hgm,hgone,qn,if_false,hL,BV,hnew,hcand,Array.size_map,hch];simp[heL,hset']
   have hbm:bm≠b:=by rintro rfl;rw[g2]at g3;cases g3
   obtain⟨R2,X2⟩:=R1.write (w':={ c1.w with heap:=c1.w.heap.setIfInBounds b (.mapIter (some bm) clock (seen.push e.born) clock) }) (y:=.iter (left.eraseIdx i) (some left[i])) hq (by rw[hρ1];exact hρ) (by simp)
    (λb' hb'=>by simp[kU (Ne.symm hb')]) (by simp[rm,hh1,g2]) rfl rfl (λX=>by
      have XX:=X1.trans X;refine⟨b,bm,ents,clock,seen.push e.born,by show c1.ρ q=_;rw[hρ1];exact hρ,by simp[hh1,hblt],?_,?_,g5,?_,?_⟩;show(c1.w.heap.setIfInBounds b _)[bm]? = _;rw[kU hbm.symm,hh1];exact g3;exact λhb=>(XX.keep bm (qp.1 g3).1 g4).1 hb;have hnd:(L.toList.map (·.born)).Nodup:=by rw[hLl];exact g5.2.sublist (List.filter_sublist.map _)
      have hee:L.toList[i]'(by simpa using hi)=e:=by
       have:=(qh.1 he).2;exact this
      have h1:=Kt (λx:MapEntry=>x.born) L.toList hnd i (by simpa using hi);rw[hee]at h1;have h2:(ents.toList.filter λx=>!(seen.push e.born).contains x.born)=L.toList.filter λx=>x.born !=e.born:=by
       rw[hLl,List.filter_filter];congr 1;funext x;by_cases hx:x.born=e.born<;>simp[hx]
      rw[h2,h1];exact wv (λ_ _ g=>⟨wc XX g.1,wc XX g.2⟩) (Ag.eraseIdx i g6);intro p hp;cases hp;exact⟨e,hemem,by simp,wc XX hr1,wc XX hr2⟩)
   exact⟨_,.tup [.bool true,left[i].1,left[i].2],_,n,_,hrun,by
    have XX:=X1.trans X2;simp only[V,VL];exact⟨_,rfl,_,_,rfl,rfl,_,_,rfl,wc XX hr1,_,_,rfl,wc XX hr2,rfl⟩,R2,λj hj=>F1 j hj,⟨X1.trans X2,qa _,λj _=>by show c1.ρ j=_;rw[hρ1]⟩,hk i hil⟩
end
structure YK (E:CC) (l:Nat) (ks0:List Int) (J:List Int->(Nat->Prop)->Hp->Nat->Prop):Prop where
 step:∀ks x D h m,(∃rest,(ks++[x]++rest).Perm ks0)->J ks D h m->FV E Tryz.prog l [AA x] h m (HN (J (ks++[x])) (λ_ _ _=>False) D h m)
 keep:∀ks D h m h' m',J ks D h m->m<=m'->(∀o,D o->h' o=h o)->J ks D h' m'
 lt:∀ks D h m,J ks D h m->∀o,D o->o<m
theorem IE {α β:Type} (f:α->β):∀(l:List α) (i:Nat),(l.eraseIdx i).map f=(l.map f).eraseIdx i
 | [],_=>by simp
 | a::l,0=>by simp
 | a::l,i+1=>by simp[IE f l i]
theorem MP {α:Type}:∀(l:List α) (i:Nat) (hi:i<l.length),(l[i]::l.eraseIdx i).Perm l
 | a::l,0,_=>by simp
 | a::l,i+1,hi=>by
  have b:=MP l i (by simpa using hi);simp only[vB,List.eraseIdx_cons_succ];exact(List.Perm.swap _ _ _).trans (b.cons a)
theorem N5 {c b a:List Int} (h:(c++b).Perm a) {i:Nat} (hi:i<b.length):(c++[b[i]]++b.eraseIdx i).Perm a:=by
 refine List.Perm.trans ?_ h;rw[qj];refine List.Perm.append_left c ?_;exact MP b i hi
section
variable {E : CC} {yl : Nat} {J : List Int → (Nat → Prop) → Hp → Nat → Prop}
theorem fV {d:List Int} (Y:YK E yl d J) (es:List (SV×SV)) (Q:es.map (·.1)=d.map AA) {H:Hp} {n q s:Nat} {D:Nat->Prop} (M:H q=some (.cells [.map s])) (N:H s=some (.map es)) (B:¬D s) (K:J [] D H n):
 Ap E Tryz.prog 198 [.fn (.yield yl) [] [],.ptr q 0] H n (λ_ h' m'=>∃k D',k.Perm d/\n<=m'/\(∀o,D' o->D o\/(n<=o/\o<m'))/\(∀o,¬D o->o<n->o≠s->h' o=H o)/\J k D' h' m'):=by
 refine gq Tryz.func198 rfl λL=>?_;have hqn:=(L q _ M).1;have hsn:=(L s _ N).1;have r:=Y.lt _ _ _ _ K;simp[go_sem,M];refine Lv (m:=s) (es:=es) rfl (by simp[go_sem]) (by simp[go_sem]) N ?_;simp[go_sem];refine Av 1 (α:=(List Int×List Int)×(List (SV×SV)×Option (SV×SV))×(Nat->Prop)×Hp) (λa=>[(0,.fn (.yield yl) [] []),(5,.ptr n 0)]) (λa=>a.2.2.2)
  (λa m=>n<m/\a.2.2.2 n=some (.iter a.2.1.1 a.2.1.2)/\a.2.1.1.map (·.1)=a.1.2.map AA/\(a.1.1++a.1.2).Perm d/\J a.1.1 a.2.2.1 a.2.2.2 m/\(∀o,a.2.2.1 o->D o\/(n<o/\o<m))/\(∀o,¬D o->o<n->o≠s->a.2.2.2 o=H o)) (λa=>a.1.2.length)
  (([],d),(es,none),D,hset (hset H s none) n (some (.iter es none))) ?_ ?_ AC ?_
 refine⟨qY n,AD _ _ _,Q,List.Perm.refl _,Y.keep _ _ _ _ _ _ K (kz n) λo g=>?_,λo g=>.inl g,λo z I g3=>?_⟩;have:=r o g;show hset (hset H s none) n _ o=H o;rw[AE _ _ (by omega),AE _ _ (by rintro rfl;exact B g)];show hset (hset H s none) n _ o=H o;rw[AE _ _ (by omega),AE _ _ g3];simp[Ao];rintro⟨⟨k,j⟩,⟨left,last⟩,y,h2⟩ m ⟨G,u,f,b,h,c,BV⟩;dsimp only at u f b h c BV ⊢;have x:¬y n:=λg=>by rcases c n g with g|g;have:=r n g;omega;omega
 have F:left.length=j.length:=by have:=congrArg List.length f;simpa using this
 simp[go_sem];refine OG (q:=n) (left:=left) (last:=last) rfl (by simp[go_sem]) u (λi hi=>?_) λh0=>?_;have e:i<j.length:=by omega
 have R:left[i].1=AA j[i]:=by
  have:=congrArg (λl=>l[i]?) f;simpa[hi,e]using this
 simp[go_sem];refine Pc (q:=n) (left:=left.eraseIdx i) (p:=left[i]) rfl (by simp[go_sem]) (AD _ _ _) ?_;simp[go_sem,R];refine FV.mono (Y.step k j[i] y _ _ ⟨_,N5 b e⟩ (Y.keep _ _ _ _ _ _ h (qa m) λo g=>AE _ _ (by rintro rfl;exact x g))) ?_;rintro v P m3 ⟨hm3,O,A,t,⟨rfl,C⟩|⟨_,C⟩⟩;simp[go_sem];refine⟨k++[j[i]],j.eraseIdx i,by rw[List.length_eraseIdx];simp[e];omega,left.eraseIdx i,some left[i],O,P,⟨by omega,?_,?_,?_,C,λo g=>?_,λo z I g3=>?_⟩,AC⟩;rw[t n x G];exact AD _ _ _;rw[IE,IE,f];exact N5 b e;rcases A o g with g|g;rcases c o g with g|g;exact .inl g;exact .inr (by omega);exact .inr (by omega);have:¬y o:=λg=>by rcases c o g with g|g;exact z g;omega
 rw[t o this (by omega),AE _ _ (by omega)];exact BV o z I g3;exact C.elim;have w:j=[]:=vu (by rw[<-F,h0];rfl);subst w;simp[go_sem];refine .inl ⟨k,by simpa using b,by omega,y,λo g=>?_,BV,h⟩;rcases c o g with g|g;exact .inl g;exact .inr (by omega)
end
theorem ia (es:List (SV×SV)) (d:List Int) (N:es.map (·.1)=d.map AA) (hlen:d.length<=1048576) {H:Hp} {n q s:Nat} (E:H q=some (.cells [.map s])) (u:H s=some (.map es)):
 BL Tryz.prog 260 [.imm 0 [] true,.fn (.func 198) [] [.ptr q 0]] H n (λv h' n'=>∃a:List Int,a.Perm d/\Qo 1 (a.map AA) (hset H s none) n v h' n'):=by
 refine jE Tryz.func260 rfl (by kernel_rfl) (by kernel_rfl) (by simp[go_sem]) λC B=>?_;have hqn:=(C q _ E).1;have hsn:=(C s _ u).1;have hqs:q≠s:=by rintro rfl;rw[E]at u;cases u
 simp[go_sem];refine Et rfl rfl rfl λE1 l R L=>?_;let J:List Int->(Nat->Prop)->Hp->Nat->Prop:=λa D f m=>∃o:Option Nat,D=(λj=>j=n\/j=n+1\/o=some j)/\n+1<m/\f n=some (.cells [AW 1 o (a.map AA)])/\f (n+1)=some (.loop (R .ready none))/\BR (n+2) m 1 o (a.map AA)/\∀j,o=some j->f j=some (.cells (a.map AA));have Y:YK E1 l d J:=by
  refine⟨?_,?_,?_⟩
  . rintro a x D f m ⟨rest,hp⟩ ⟨o,A,z,b,c,g3,k⟩;have hkl:a.length+1<=1048576:=by have:=hp.length_eq;simp at this;omega
    refine L _ _ _ _ c rfl (Je ?_);have F:n≠m:=by omega
    have e2:n+1≠m:=by omega
    have G:n≠m+1:=by omega
    have r:∀j,o=some j->n+2<=j/\j<m:=λj e=>g3.lt j e;simp[go_sem,J0,AE,b,c];rw[Mq (x:=x) g3 (by omega) (by simp[hset]) (by
     intro j e;have:=r j e;have:=k j e;simp only[hset];grind)]
    have done:∀(i:Hp) (w:Nat),w=m+1->(∀j,¬(j=n\/j=n+1\/o=some j)->j<m->i j=f j)->i n=some (.cells [.sl w 0 1 (a.length+1) false])->i w=some (.cells (a.map AA++[AA x]))->i (n+1)=some (.loop (R .busy none))->
     ∀sa,Hg (n+1) R (HN (J (a++[x])) (λ_ _ _=>False) D f m) .normal sa i (m+1+1):=by
     rintro i w rfl O P Q k3 sa;subst A;refine⟨k3,by omega,λj=>j=n\/j=n+1\/some (m+1)=some j,λj g=>?_,λj b c=>?_,.inl ⟨rfl,some (m+1),rfl,by omega,?_,AD _ _ _,?_,λj e=>?_⟩⟩;rcases g with g|g|g;exact .inl (.inl g);exact .inl (.inr (.inl g));cases g;exact .inr (by omega);rw[AE _ _ (λe=>b (.inr (.inl e)))];exact O j b c;rw[AE _ _ (by omega),P];simp[AW];rw[qc];exact g3.push rfl rfl (by omega) (by omega);cases e;rw[AE _ _ (by omega),Q,qc];rfl
    cases o with
    | none=>
     simp[go_sem,AE,b,F,G,AW];refine done _ _ rfl (λj h1 h2=>?_) ?_ ?_ ?_ _;simp only[hset];grind;simp only[hset];grind;simp only[hset];grind;simp only[hset];grind
    | some j=>
     have hj:=r j rfl;have K:n≠j:=by omega
     simp[go_sem,AE,b,F,K,G,AW];refine done _ _ rfl (λj h1 h2=>?_) ?_ ?_ ?_ _;simp only[hset];grind;simp only[hset];grind;simp only[hset];grind;simp only[hset];grind
  rintro a D f m h' m' ⟨o,rfl,z,b,c,g3,k⟩ I t;exact⟨o,rfl,by omega,by rw[t _ (.inl rfl)];exact b,by rw[t _ (.inr (.inl rfl))];exact c,g3.mono I,λj e=>by rw[t _ (.inr (.inr e))];exact k j e⟩;rintro a D f m ⟨o,rfl,z,b,c,g3,k⟩ j (rfl|rfl|e);omega;omega;exact(g3.lt j e).2
 refine we (fV Y es N (D:=λj=>j=n\/j=n+1) (s:=s) ?_ ?_ ?_ ?_) ?_;simp[hset];rw[if_neg (by omega),if_neg (by omega)];exact E;simp[hset];rw[if_neg (by omega),if_neg (by omega)];exact u;omega;exact⟨none,by simp,by omega,by simp[hset,AW],by simp[hset],vA _ _ _,by simp⟩;rintro _ h' m' ⟨a,D',h,I,t,BV,o,rfl,z,b,c,g3,k⟩;refine⟨_,_,c,by simp,?_⟩;simp[go_sem,AE,b];refine .inl ⟨a,h,by omega,λj y e=>?_,?_⟩;have p:j≠s:=by rintro rfl;simp[hset]at e
 rw[AE _ _ p]at e;have:=(C j y e).1;rw[AE _ _ (by omega),BV j (by omega) (by omega) p,AE _ _ (by omega),AE _ _ (by omega),e];cases o with
 | none=>
  have M:=g3.none rfl;exact .inl ⟨M,0,true,rfl⟩
 | some j=>
  have:=g3.lt j rfl;exact .inr ⟨j,false,by omega,by omega,by simp[AW],by rw[AE _ _ (by omega),EU];exact k j rfl⟩
theorem iT (es:List (SV×SV)) (a:List Int) (d:es.map (·.1)=a.map AA) (b:a.length<=1048576) {H:Hp} {n q s:Nat} (e:H q=some (.cells [.map s])) (f:H s=some (.map es)):
 BL Tryz.prog 196 [.fn (.func 198) [] [.ptr q 0]] H n (λv h' n'=>∃c:List Int,c.Perm a/\Qo 1 (c.map AA) (hset H s none) n v h' n'):=by
 refine gq Tryz.func196 rfl λho=>?_;simp[go_sem];refine qP (ia es a d b e f) ?_;rintro v h' n' ⟨c,hp,hn⟩;simp[go_sem];exact .inl ⟨c,hp,hn⟩
theorem ON {a b:List Int} (h:a.Perm b):C9 a=C9 b:=by
 have c:∀x y z:Int,decide (x<=y)=true->decide (y<=z)=true->decide (x<=z)=true:=λx y z h1 h2=>by simp only[decide_eq_true_eq]at *;exact Int.le_trans h1 h2
 have to:∀x y:Int,(decide (x<=y)||decide (y<=x))=true:=λx y=>by simp only[vJ,decide_eq_true_eq];exact Int.le_total x y
 refine List.Perm.eq_of_pairwise (le:=λx y=>decide (x<=y)=true) (λx y _ _ h1 h2=>?_) (List.pairwise_mergeSort c to a) (List.pairwise_mergeSort c to b) (((List.mergeSort_perm a _).trans h).trans (List.mergeSort_perm b _).symm);simp only[decide_eq_true_eq]at h1 h2;exact Int.le_antisymm h1 h2
theorem iQ (es:List (SV×SV)) (a:List Int) (p:es.map (·.1)=a.map AA) (c:a.length<=1048576) {H:Hp} {n q s:Nat} (r:H q=some (.cells [.map s])) (k:H s=some (.map es)):
 BL Tryz.prog 139 [.fn (.func 198) [] [.ptr q 0]] H n (Qo 1 ((C9 a).map AA) (hset H s none) n):=by
 refine gq Tryz.func139 rfl λi=>?_;simp[go_sem];refine qP (iT es a p c r k) ?_;rintro v h' n' ⟨l,hp,b,BV,t⟩;have hkl:=hp.length_eq;rcases t with⟨h,m,full,rfl⟩|⟨o,full,h1,h2,rfl,g⟩
 simp[go_sem];refine(ZC m full).use ?_;simp[go_sem];simp only[vO]at h;subst h;have:a=[]:=by simpa using hp.symm
 subst this;exact .inl ⟨b,BV,.inl ⟨by simp[C9],m,full,rfl⟩⟩;simp[go_sem];rw[EU]at g;refine qP (cI l (by omega) g) ?_;rintro v h4 n4 ⟨rfl,rfl,rfl⟩;simp[go_sem];have hos:o≠s:=by have:=(i s _ k).1;omega
 refine .inl ⟨b,λj y e=>?_,.inr ⟨o,full,h1,h2,?_,?_⟩⟩;have d:j≠s:=by rintro rfl;simp[hset]at e
 have f:=e;rw[AE _ _ d]at f;have:=(i j y f).1;rw[AE _ _ (by omega)];exact BV j y e;have:(C9 a).length=l.length:=by rw[<-ON hp];exact List.length_mergeSort _
 simp[this];rw[AD,ON hp,EU]
theorem cD {H:Hp} {n s:Nat}:BL Tryz.prog 140 [.map s] H n (λv h' n'=>v=.fn (.func 198) [] [.ptr n 0]/\h'=hset H n (some (.cells [.map s]))/\n'=n+1):=by
 refine gq Tryz.func140 rfl λho=>?_;simp[go_sem];exact .inl ⟨rfl,rfl,rfl⟩
def Gc (d:AG):List Int:=C9 ((BU [] (AB.usL d.flow++d.«end».all)).filter λx=>decide (x≠0))
theorem Wv:∀{l:List Int} (x:Int),l.Nodup->∀(_i j:Nat),l[j]? = some x->(FC l).eraseIdx j=FC (l.filter λy=>decide (y≠x))
 | [],x,_,i,j,h=>by simp at h
 | a :: l, x, hn, i, 0, h => by
  rw[vd]at hn;simp only[vw,qk]at h;subst h;have:(a::l).filter (λy=>decide (y≠a))=l:=by
   rw[List.filter_cons];simp only[ne_eq,not_true,decide_false,qn,if_false];exact kQ.2 λy e=>by simp only[decide_eq_true_eq];rintro rfl;exact hn.1 e
  rw[this];simp[FC]
 | a::l,x,hn,i,j+1,h=>by
  rw[vd]at hn;have c:l[j]? = some x:=by simpa using h
  have b:a≠x:=by rintro rfl;exact hn.1 (kC c)
  have d:=Wv x hn.2 i j c;rw[List.filter_cons];simp only[ne_eq,b,not_false_eq_true,decide_true,if_true];simp only[FC,qr,List.eraseIdx_cons_succ]at d ⊢;rw[d]
theorem Ww {l:List Int} {x:Int} (h:x∉l):(l.filter λy=>decide (y≠x))=l:=kQ.2 λy a=>by simp only[decide_eq_true_eq];rintro rfl;exact h a
theorem c74 (d:AG) (hl:d.flow.length<=1048576) (z:AB.sizedL d.flow) (u:d.«end».sized) (A:(BU [] (AB.usL d.flow++d.«end».all)).length<=1048576):PC 74 [d.enc] (.imm 1 ((Gc d).map AA) false):=by
 intro h n;refine gq Tryz.func74 rfl λi=>?_;have e1:n+1+1≠n:=by omega
 have e2:n+1≠n:=by omega
 have e3:n+1+1≠n+1:=by omega
 simp[go_sem,AG.enc,AF.flat,AI.flat,AD,AE,qu];refine qP (iP (SizeOf.sizeOf d.flow+1) d.flow (qY _) hl z [] _ _ (n+2) (n+1) (by simp[hset]) (by simp[hset,FC])) ?_;rintro v h' n' ⟨rfl,rfl,rfl⟩;simp[go_sem,AD,AE];refine qP (by simpa[AF.enc,AF.flat]using YI d.«end» u (BU [] (AB.usL d.flow)) (p:=n+2) (s:=n+1) (by simp[hset]) (by simp[hset])) ?_;rintro v h' n' ⟨rfl,rfl,rfl⟩;rw[<-CR];have c:=J2 (AB.usL d.flow++d.«end».all) [] List.nodup_nil;have l:Gc d=C9 ((BU [] (AB.usL d.flow++d.«end».all)).filter λx=>decide (x≠0)):=rfl;generalize BU [] (AB.usL d.flow++d.«end».all)=out at c A l ⊢;have fin:∀(b:Hp),b (n+2)=some (.cells [.map (n+1)])->b (n+1)=some (.map (FC (out.filter λx=>decide (x≠0))))->(∀j,j<n->b j=h j)->(∀K:SV->Hp->Nat->Prop,(∀v h' n',CO n h' n' v (Is (.imm 1 ((Gc d).map AA) false) h n)->K v h' n')->
  Ap (CC.plain.call false 0) Tryz.prog 139 [.fn (.func 198) [] [.ptr (n+3) 0]] (hset b (n+3) (some (.cells [.map (n+1)]))) (n+4) K):=λb a1 a2 a3 K t=>by
  have f:(out.filter λx=>decide (x≠0)).length<=1048576:=by have:=kr (λx=>decide (x≠0)) out;omega
  refine qP (iQ (FC (out.filter λx=>decide (x≠0))) (out.filter λx=>decide (x≠0)) (by simp[FC]) f (s:=n+1) (by simp[hset]) (by rw[AE _ _ (show n+1≠n+3 by omega)];exact a2)) ?_;rintro v h' n' ⟨hle,BV,q⟩;rw[<-l]at q;have m:∀j y,h j=some y->h' j=some y:=λj y e=>by
   have:=(i j y e).1;refine BV j y ?_;rw[AE _ _ (by omega),AE _ _ (by omega),a3 j this,e]
  refine t _ _ _ ?_;rcases q with⟨h1,z',full,rfl⟩|⟨o,full,h1,h2,rfl,r⟩
  rw[h1];exact LH i m (by simp) rfl;exact XK Ns (full:=full) i m (show n<=o by omega) (by simp) r
 by_cases g:(0:Int)∈out;obtain⟨j,h1,h2⟩:=Da 0 g;rw[qU]at h1;have a:=Wv 0 c 0 j h2;simp[go_sem,AD,AE,h1,Cc];refine qP cD ?_;rintro v h' n' ⟨rfl,rfl,rfl⟩;simp[go_sem];refine fin _ ?_ ?_ ?_ _ ?_;simp[hset];rw[<-a];simp[hset];intro j w;simp only[hset];grind;intro v h' n' k;simp[go_sem];exact k;have h1:=ET 0 g;have a:=Ww g;simp[go_sem,AD,AE,h1,Cc];refine qP cD ?_;rintro v h' n' ⟨rfl,rfl,rfl⟩;simp[go_sem];refine fin _ ?_ ?_ ?_ _ ?_;simp[hset];rw[a];simp[hset];intro j w;simp only[hset];grind;intro v h' n' k;simp[go_sem];exact k
def H6 (z:Nat) (es:List SV) (v:SV) (o:Option Nat) (n m:Nat):Prop:=
 (o=none/\es=[]/\∃z' f,v=.imm z' [] f)\/∃j f,o=some j/\n<=j/\j<m/\v=.sl j 0 z es.length f
def Ea (es:List SV) (o:Option Nat) (h:Hp):Hp:=match o with|none=>h|some j=>hset h j (some (.cells (es.flatMap SV.cells)))
theorem H6.st {z:Nat} {es:List SV} {v:SV} {o:Option Nat} {n m:Nat} (H:H6 z es v o n m):v.storable=true/\v.cells=[v]:=by
 rcases H with⟨_,_,z',f,rfl⟩|⟨j,f,_,_,_,rfl⟩<;>exact⟨rfl,rfl⟩
theorem Qo.own {z:Nat} {es:List SV} {h h':Hp} {n n':Nat} {v:SV} (H:Qo z es h n v h' n'):∃o,H6 z es v o n n'/\(∀j y,h j=some y->h' j=some y)/\∀j,o=some j->h' j=some (.cells (es.flatMap SV.cells)):=by
 obtain⟨h1,h2,⟨rfl,d,f,rfl⟩|⟨o,f,a,b,rfl,c⟩⟩:=H;exact⟨none,.inl ⟨rfl,rfl,d,f,rfl⟩,h2,by simp⟩;exact⟨some o,.inr ⟨o,f,rfl,a,b,rfl⟩,h2,by rintro j e;cases e;exact c⟩
theorem H6.mono {z:Nat} {es:List SV} {v:SV} {o:Option Nat} {n n' m m':Nat} (H:H6 z es v o n m) (hn:n'<=n) (hm:m<=m'):H6 z es v o n' m':=by
 rcases H with⟨h1,h2,c,f,a⟩|⟨j,f,h1,h2,a,b⟩
 exact .inl ⟨h1,h2,c,f,a⟩;exact .inr ⟨j,f,h1,by omega,by omega,b⟩
theorem H6.lt {z:Nat} {es:List SV} {v:SV} {o:Option Nat} {n m:Nat} (H:H6 z es v o n m):∀j,o=some j->n<=j/\j<m:=by
 rcases H with⟨rfl,_⟩|⟨j,f,rfl,h2,a,_⟩
 simp;rintro i e;cases e;exact⟨h2,a⟩
theorem Mv {z k i:Nat} {es:List SV} {e c:SV} (d:∀e∈es,e.storable=true/\e.cells.length=z) (h:es[i]? = some e) (b:e.cells[k]? = some c):
 i*z+k+1<=(es.flatMap SV.cells).length/\((es.flatMap SV.cells).drop (i*z+k)).take 1=[c]:=by
 obtain⟨g1,f⟩:=Nh d h;have he:=(d e (kC h)).2;have a:=(qh.1 b).1;refine⟨by omega,?_⟩;have h1:(((es.flatMap SV.cells).drop (i*z)).take z).drop k=e.cells.drop k:=by rw[f]
 rw[List.drop_take,vF]at h1;have h2:(((es.flatMap SV.cells).drop (i*z+k)).take (z-k)).take 1=(e.cells.drop k).take 1:=by rw[h1]
 rw[List.take_take,kL (by omega)]at h2;rw[h2,qQ a];simp only[kn,vE];rw[(qh.1 b).2]
theorem MW {cs:List SV} {off:Nat} {c:SV} (h1:off+1<=cs.length) (h2:(cs.drop off).take 1=[c]):cs.take off++c::cs.drop (off+1)=cs:=by
 have:cs.drop off=c::cs.drop (off+1):=by
  rw[qQ (by omega)]at h2 ⊢;simp only[kn,vE,List.cons.injEq,and_true]at h2;rw[h2]
 rw[<-this,qM]
def trC:Tr:=.pure 0<|.pure 1<|.pure 3<|.pure 4<|.pure 6<|.pure 7<|.pure 9<|.pure 10 <|
 .two 2 13
  (.two 5 13 (.two 8 13 (.two 11 13 (.two 12 13 (.one 13 (.one 14 .nil)) (.one 12 (.one 14 .nil))) (.one 11 (.one 12 (.one 14 .nil)))) (.one 8 (.one 11 (.one 12 (.one 14 .nil))))) (.one 5 (.one 8 (.one 11 (.one 12 (.one 14 .nil))))))
  (.one 2 (.one 5 (.one 8 (.one 11 (.one 12 (.one 14 .nil))))))
set_option maxHeartbeats 2000000 in
theorem fF (s:AI) (h1:s.styles.length<=1048576) (h2:s.lists.length<=1048576) (h3:s.comments.length<=1048576) (h4:s.vars.length<=1048576) (h5:∀x∈s.styles,x.props.length<=1048576) (h6:∀x∈s.lists,x.levels.length<=1048576):
 PC 144 [s.enc] s.enc:=by
 intro h n;refine DO Tryz.func144 rfl λI=>?_;refine By 2 [(1,.iptr s.flat),(2,.ptr (n+1) 0)] (hset h (n+1) (some (.cells [.imm 0 [] true,.imm 0 [] true,.imm 0 [] true,.imm 0 [] true]))) (λm=>m=n+2) ?_ (λm hm=>?_);simp[go_sem,AI.enc,qu,IO];refine⟨AZ (by rw[AE _ _ (by omega)];exact I.none (qa n)) (by simp[hset]),λj y=>?_⟩;have:=I j y;simp only[hset];grind;subst hm;refine AX 1 (α:=SV×Option Nat×SV×Option Nat×Nat) (λa=>[(2,.ptr (n+1) 0),(3,.ptr a.2.2.2.2 0)])
  (λa=>hset (Ea (s.styles.map A7.enc) a.2.1 (Ea (s.lists.map GQ.enc) a.2.2.2.1 (hset h (n+1) (some (.cells [.imm 0 [] true,.imm 0 [] true,.imm 0 [] true,.imm 0 [] true]))))) a.2.2.2.2 (some (.cells [a.1,a.2.2.1,Bd s.comments,Fs s.vars])))
  (λa m=>H6 6 (s.styles.map A7.enc) a.1 a.2.1 (n+2) m/\H6 2 (s.lists.map GQ.enc) a.2.2.1 a.2.2.2.1 (n+2) m/\n+2<=a.2.2.2.2/\a.2.2.2.2<m/\a.2.1≠some a.2.2.2.2/\a.2.2.2.1≠some a.2.2.2.2/\(∀j,a.2.1=some j->a.2.2.2.1≠some j)) (CK trC rfl (by kernel_rfl) (by kernel_rfl) ?_) ?_
 . simp[go_sem,trC,AI.flat]
   iterate 14 (all_goals (try first
    | (refine wq (jP _ h1) ?_;intro N H1 m1 Z;have lt1:=Z.1;obtain⟨o1,a1,b1,c1⟩:=Z.own;obtain⟨s1,D⟩:=a1.st;simp only[SV.storable,SV.cells]at s1 D;simp[go_sem])
    | (refine wq (jQ _ h2) ?_;intro O H2 m2 W2;have M8:=W2.1;obtain⟨C,a2,P,c2⟩:=W2.own;obtain⟨s2,t2⟩:=a2.st;simp only[SV.storable,SV.cells]at s2 t2;simp[go_sem])
    | (refine(fX _ h3).use ?_;simp[go_sem])
    | (refine(fY _ h4).use ?_;simp[go_sem,s1,D,s2,t2])
    | refine⟨?_,?_⟩))
   all_goals
    have L:=a1.lt;have M:=a2.lt;have ZZ:Bb:=.cells [.imm 0 [] true,.imm 0 [] true,.imm 0 [] true,.imm 0 [] true]
    first
     | (have hq:=P (n+2) _ (b1 (n+2) _ (AD _ _ _));simp[go_sem,hq])
     | (have hq:=P m1 _ (AD _ _ _);simp[go_sem,hq])
     | simp[go_sem,AD]
    refine⟨N,o1,O,C,_,⟨a1.mono (by omega) (by omega),a2.mono (by omega) (by omega),?_,?_,λe=>?_,λe=>?_,λj e e'=>?_⟩,IO,λj y=>?_⟩;omega;omega;have:=L _ e;omega;have:=M _ e;omega;have:=L _ e;have:=M _ e';omega;intro hy;have q1:=b1 j y;have q2:=P j y;have q3:=c1 j;have q4:=c2 j;have r1:=L j;have r2:=M j;have q5:=P j (.cells ((s.styles.map A7.enc).flatMap SV.cells));have q6:=I j y;clear b1 P c1 c2 L M Z W2 a1 a2;simp only[hset]at *;cases o1<;>cases C<;>simp only[Ea,hset]at hy<;>grind
 rintro⟨N,o1,O,C,q⟩ m ⟨a1,a2,hq1,hq2,U,V,w⟩;dsimp only at a1 a2 hq1 hq2 U V w ⊢;have L:=a1.lt;have M:=a2.lt;obtain⟨s1,D⟩:=a1.st;obtain⟨s2,t2⟩:=a2.st;simp only[SV.storable,SV.cells]at s1 D s2 t2;generalize R:Ea (s.styles.map A7.enc) o1 (Ea (s.lists.map GQ.enc) C (hset h (n+1) (some (.cells [.imm 0 [] true,.imm 0 [] true,.imm 0 [] true,.imm 0 [] true]))))=B;have B1:∀j,o1=some j->B j=some (.cells ((s.styles.map A7.enc).flatMap SV.cells)):=λj e=>by subst e;rw[<-R];simp[Ea,hset]
 have B2:∀j,C=some j->B j=some (.cells ((s.lists.map GQ.enc).flatMap SV.cells)):=λj e=>by
  subst e;rw[<-R];cases o1 with
  | none=>simp[Ea,hset]
  | some i=>have:=w i rfl;simp only[Ea,hset];grind
 have B3:B (n+1)=some (.cells [.imm 0 [] true,.imm 0 [] true,.imm 0 [] true,.imm 0 [] true]):=by
  rw[<-R];cases o1<;>cases C<;>simp only[Ea,hset]<;>grind
 have B4:∀j y,h j=some y->B j=some y:=λj y e=>by
  have:=I j y e;rw[<-R];cases o1<;>cases C<;>simp only[Ea,hset]<;>grind
 have W:∀j,o1=some j->j≠q:=λj e e'=>U (by rw[e,e']);have A:∀j,C=some j->j≠q:=λj e e'=>V (by rw[e,e']);clear R;refine CW 1 [(2,.ptr (n+1) 0),(3,.ptr q 0)] (hset B q (some (.cells [N,O,Bd s.comments,Fs s.vars]))) m (AJ ?_) (λm' d=>?_)
 . rcases a1 with⟨_,he,Y,f,rfl⟩|⟨j,f,rfl,S,T,rfl⟩
   simp[go_sem,AD];refine Av 1 (α:=Unit) (λ_=>[(2,.ptr (n+1) 0),(3,.ptr q 0),(21,AA 0),(22,AA 0)]) (λ_=>hset B q (some (.cells [.imm Y [] f,O,Bd s.comments,Fs s.vars]))) (λ_ m'=>m<=m') (λ_=>0) () (qa _) (by simp[Ao]) AC ?_;intro _ m' d;simp[go_sem];exact d
   . have b:=W j rfl;have G:=B1 j rfl;simp[go_sem,AD];refine Av 1 (α:=Nat) (λi=>[(2,.ptr (n+1) 0),(3,.ptr q 0),(21,AA s.styles.length),(22,AA i)]) (λ_=>hset B q (some (.cells [.sl j 0 6 s.styles.length f,O,Bd s.comments,Fs s.vars]))) (λi m'=>i<=s.styles.length/\m<=m') (λi=>s.styles.length-i) 0 ?_ ?_ ?_ ?_;exact⟨qg _,qa _⟩;simp[Ao];simp;rintro i m' ⟨hi,d⟩;by_cases l:i<s.styles.length
     . have w1:=wS i (by omega);obtain⟨x,X⟩:∃x,s.styles[i]=x:=⟨_,rfl⟩
       have J:(s.styles.map A7.enc)[i]? = some x.enc:=by simp[l,X]
       obtain⟨t,u⟩:=Mv (A7.E.size s.styles) J (k:=5) (c:=AU x.props) rfl;have g3:=MW t u;have K:=h5 x (by rw[<-X];exact qi l);have p:j<m':=by omega
       have r:q<m':=by omega
       have g:=G;generalize(s.styles.map A7.enc).flatMap SV.cells=F at g t u g3;simp[go_sem,AD,AE,b,g,l,t,u,p,r]
       repeat first|refine nd (by simp[Bo,DZ,CU,Aq,Region.binds]<;>omega) ?_|refine sq ?_|refine aq ?_
       refine kc _ _ _ _ _ _ (YC x.props K) ?_;simp[go_sem,AE,b,g,l,t,g3,p,w1,-Int.natCast_add]
       repeat first|refine nd (by simp[Bo,DZ,CU,Aq,Region.binds,b]<;>omega) ?_|refine sq ?_|refine aq ?_
       refine⟨i+1,by omega,⟨by omega,d⟩,IO,λo y=>?_⟩;simp only[hset];grind
     have:i=s.styles.length:=by omega
     subst this;simp[go_sem];exact d
 refine CW 1 [(2,.ptr (n+1) 0),(3,.ptr q 0)] (hset B q (some (.cells [N,O,Bd s.comments,Fs s.vars]))) m (AJ ?_) (λm2 hm2=>?_)
 . rcases a2 with⟨_,he,Y,f,rfl⟩|⟨j,f,rfl,S,T,rfl⟩
   simp[go_sem,AD];refine Av 1 (α:=Unit) (λ_=>[(2,.ptr (n+1) 0),(3,.ptr q 0),(40,AA 0),(41,AA 0)]) (λ_=>hset B q (some (.cells [N,.imm Y [] f,Bd s.comments,Fs s.vars]))) (λ_ m'=>m<=m') (λ_=>0) () d (by simp[Ao]) AC ?_;intro _ m' d;simp[go_sem];exact d
   . have b:=A j rfl;have G:=B2 j rfl;simp[go_sem,AD];refine Av 1 (α:=Nat) (λi=>[(2,.ptr (n+1) 0),(3,.ptr q 0),(40,AA s.lists.length),(41,AA i)]) (λ_=>hset B q (some (.cells [N,.sl j 0 2 s.lists.length f,Bd s.comments,Fs s.vars]))) (λi m'=>i<=s.lists.length/\m<=m') (λi=>s.lists.length-i) 0 ?_ ?_ ?_ ?_;exact⟨qg _,d⟩;simp[Ao];simp;rintro i m' ⟨hi,d⟩;by_cases l:i<s.lists.length
     . have w1:=wS i (by omega);obtain⟨x,X⟩:∃x,s.lists[i]=x:=⟨_,rfl⟩
       have J:(s.lists.map GQ.enc)[i]? = some x.enc:=by simp[l,X]
       obtain⟨t,u⟩:=Mv (GQ.E.size s.lists) J (k:=1) (c:=DV x.levels) rfl;have g3:=MW t u;have K:=h6 x (by rw[<-X];exact qi l);have p:j<m':=by omega
       have r:q<m':=by omega
       have g:=G;generalize(s.lists.map GQ.enc).flatMap SV.cells=F at g t u g3;simp[go_sem,AD,AE,b,g,l,t,u,p,r]
       repeat first|refine nd (by simp[Bo,DZ,CU,Aq,Region.binds]<;>omega) ?_|refine sq ?_|refine aq ?_
       refine kc _ _ _ _ _ _ (fZ x.levels K) ?_;simp[go_sem,AE,b,g,l,t,g3,p,w1,-Int.natCast_add]
       repeat first|refine nd (by simp[Bo,DZ,CU,Aq,Region.binds,b]<;>omega) ?_|refine sq ?_|refine aq ?_
       refine⟨i+1,by omega,⟨by omega,d⟩,IO,λo y=>?_⟩;simp only[hset];grind
     have:i=s.lists.length:=by omega
     subst this;simp[go_sem];exact d
 have enq:n+1≠q:=by omega
 have Q:∀(z:Nat) (es:List SV) (v:SV) (o:Option Nat) (H:Hp),(∀e∈es,e.storable=true/\e.cells.length=z)->H6 z es v o (n+2) m->(∀j,o=some j->H j=some (.cells (es.flatMap SV.cells)))->Fz H h 1 v (.imm z es false):=λz es v o H hsz ha hH=>by
  rcases ha with⟨_,he,Y,f,rfl⟩|⟨j,f,rfl,S,T,rfl⟩
  rw[he];exact Bj (by simp);exact Cz (I.none (by omega)) (by simp) (hH j rfl) hsz
 refine AJ ?_;simp[go_sem,AD,AE,enq,B3];refine Dj (v:=s.enc) 2 I (λj y e=>?_) (.inr ⟨Q _ _ _ _ _ (A7.E.size _) a1 λj e=>?_,Q _ _ _ _ _ (GQ.E.size _) a2 λj e=>?_,IO,IO,trivial⟩) ?_;have:=I j y e;have:=B4 j y e;simp only[hset];grind;have:=L j e;have:=B1 j e;have:=W j e;simp only[hset];grind;have:=M j e;have:=B2 j e;have:=A j e;simp only[hset];grind;simp[AI.enc,AI.flat,closed,closedL,A7.E.closedL,GQ.E.closedL,A9.E.closedL,GY.E.closedL]
structure AI.sized (s:AI):Prop where
 styles:s.styles.length<=1048576
 lists:s.lists.length<=1048576
 comments:s.comments.length<=1048576
 vars:s.vars.length<=1048576
 props:∀x∈s.styles,x.props.length<=1048576
 levels:∀x∈s.lists,x.levels.length<=1048576
structure AG.sized (d:AG):Prop where
 len:d.flow.length<=1048576
 flow:AB.sizedL d.flow
 «end» : d.«end».sized
 revs:d.revs.length<=1048576
 set:d.settings.sized
theorem c79 (d:AG) (b:d.sized):PC 79 [d.enc] d.enc:=by
 intro h n;refine gq Tryz.func79 rfl λc=>?_;have a:=b.set;simp[go_sem,AG.enc,AF.flat,AI.flat,AD,AE,qu]
 repeat first|refine nd (by simp[Bo,DZ,CU,Aq,Region.binds]<;>omega) ?_|refine sq ?_|refine aq ?_
 refine kc _ _ _ _ _ _ (bP d.flow b.len b.flow) ?_;simp[go_sem,AD,AE]
 repeat first|refine nd (by simp[Bo,DZ,CU,Aq,Region.binds]<;>omega) ?_|refine sq ?_|refine aq ?_
 refine kc _ _ _ _ _ _ (by simpa[AF.enc,AF.flat]using So d.«end» b.end) ?_;simp[go_sem,AD,AE]
 repeat first|refine nd (by simp[Bo,DZ,CU,Aq,Region.binds]<;>omega) ?_|refine sq ?_|refine aq ?_
 refine kc _ _ _ _ _ _ (c76 d.revs b.revs) ?_;simp[go_sem,AD,AE]
 repeat first|refine nd (by simp[Bo,DZ,CU,Aq,Region.binds]<;>omega) ?_|refine sq ?_|refine aq ?_
 refine kc _ _ _ _ _ _ (by simpa[AI.enc,AI.flat]using fF d.settings a.styles a.lists a.comments a.vars a.props a.levels) ?_;simp[go_sem,AD]
 repeat first|refine nd (by simp[Bo,DZ,CU,Aq,Region.binds]<;>omega) ?_|refine sq ?_|refine aq ?_
 exact A3 c (λj y=>by have:=c j y;simp only[hset];grind) rfl (by simp[closed,closedL,AB.E.closedL,Bi.E.closedL,Bs.E.closedL,AM.E.closedL,BC.E.closedL,A7.E.closedL,GQ.E.closedL,A9.E.closedL,GY.E.closedL])
theorem fD (a b:Int):PC 142 [AA a,AA b] (.bool (decide (a<b))):=by
 intro h n;refine gq Tryz.func142 rfl λc=>?_;simp[go_sem];refine(Zq _).use ?_;simp[go_sem];exact As c rfl rfl
theorem fE (a:Int):PC 143 [AA a] (.bool false):=by
 intro h n;refine gq Tryz.func143 rfl λb=>?_;simp[go_sem];exact As b rfl rfl
def Js (l:List Int) (x:Int) (i:Nat):Int:=match l[i]? with|some a=>if a<x then -1 else if a=x then 0 else 1|none=>0
theorem c78 (l:List Int) (x:Int) (hl:l.length<=1048576):PC 78 [.imm 1 (l.map AA) false,AA x] (.tup [AA (Az (Js l x) l.length).1,.bool (Az (Js l x) l.length).2]):=by
 intro h n;refine gq Tryz.func78 rfl λr=>?_;simp[go_sem];generalize hc:Js l x=c;refine Av 1 (α:=Nat×Nat) (λq=>[(0,.imm 1 (l.map AA) false),(1,AA x),(6,AA l.length),(7,AA q.1),(8,AA q.2)]) (λ_=>h) (λq m=>q.1<=q.2/\q.2<=l.length/\n<=m/\EI c 0 l.length=EI c q.1 q.2) (λq=>q.2-q.1) (0,l.length) ?_ ?_ AC ?_;simp;simp[Ao];rintro⟨i,j⟩ m ⟨o,s,k,d⟩;dsimp only at o s d;by_cases a:i<j;have t:(i+j) / 2<l.length:=by omega
 have w1:IntKind.i64.wrap ((i:Int)+j)=((i+j:Nat):Int):=by rw[DA]<;>omega
 have w2:IntKind.u64.wrap ((i+j:Nat):Int)=((i+j:Nat):Int):=by rw[Un]<;>omega
 have w3:(((i+j:Nat):Int)).fdiv 2=(((i+j) / 2:Nat):Int):=by rw[Int.fdiv_eq_ediv_of_nonneg _ (by omega)];omega
 have u:IntKind.i64.wrap (((i+j) / 2:Nat):Int)=(((i+j) / 2:Nat):Int):=by rw[DA]<;>omega
 have v:IntKind.i64.wrap ((((i+j) / 2:Nat):Int)+1)=(((i+j) / 2+1:Nat):Int):=by rw[DA]<;>omega
 rw[EI.eq_def c i j]at d;have b:c ((i+j) / 2)=if l[(i+j) / 2]<x then -1 else if l[(i+j) / 2]=x then 0 else 1:=by rw[<-hc];simp[Js,t]
 simp[go_sem,a,w1,w2,w3,u,t,-Int.natCast_add,-Int.natCast_ediv];refine qz (fD _ _) ?_;by_cases hb:l[(i+j) / 2]<x;have F8:c ((i+j) / 2)<0:=by rw[b,if_pos hb];omega
 simp[a,F8]at d;simp[go_sem,hb,v,-Int.natCast_add,-Int.natCast_ediv];exact⟨(i+j) / 2+1,j,by omega,⟨by omega,s,k,d⟩,IO,IO⟩;have F8:¬c ((i+j) / 2)<0:=by rw[b,if_neg hb];split<;>omega
 simp[a,F8]at d;simp[go_sem,hb,-Int.natCast_add,-Int.natCast_ediv];exact⟨i,(i+j) / 2,by omega,⟨by omega,by omega,k,d⟩,IO,IO⟩;have e:EI c 0 l.length=i:=by rw[d,EI.eq_def];simp[a]
 by_cases hi:i<l.length;have b:c i=if l[i]<x then -1 else if l[i]=x then 0 else 1:=by rw[<-hc];simp[Js,hi]
 by_cases f:l[i]=x;simp[go_sem,a,hi,f];exact As r rfl (by simp[Az,e,hi,b,f]);have g:(l[i]==x)=false:=by simpa using f
 simp[go_sem,a,hi,g];refine(fE _).use ?_;simp[go_sem];have p:¬c i=0:=by rw[b,if_neg f];split<;>omega
 exact As r rfl (by simp[Az,e,hi,p]);simp[go_sem,a,hi];exact As r rfl (by simp[Az,e,hi])
theorem c77 (l:List Int) (hl:l.length<=1048576) (r:BC):PC 77 [r.enc,.iptr [.imm 1 (l.map AA) false]] (.bool (!(Az (Js l r.id) l.length).2)):=by
 intro h n;refine gq Tryz.func77 rfl λa=>?_;simp[go_sem,BC.enc,AD];refine(c78 l r.id hl).use ?_;simp[go_sem];exact A3 a (AR a (qa _) AC) rfl rfl
theorem iK (z:Nat) (full:Bool) (g:FuncId) (a b:List SV):PC 75 [.imm z [] full,.fn (.func g) a b] (.imm 3 [] false):=by
 intro h n;refine gq Tryz.func75 rfl λc=>?_;simp[go_sem];have hI:=(bU [] (by simp) g a b (λ_=>false) (by simp)).wk (us:=[.imm z [] full,.fn (.func g) a b]) 1 ⟨Bj (by simp),IO,trivial⟩;refine qz hI ?_;have e:BI (λ_=>false) 0 0 = -1:=by rw[BI];simp
 simp[go_sem,e];exact LH c AC (by simp) rfl
def AG.norm1 (d:AG):AG:=⟨AO d.flow,d.«end»,d.revs,d.settings⟩
def AG.normal (d:AG):AG:=⟨AO d.flow,d.«end»,d.revs.filter λr=>(Az (Js (Gc d.norm1) r.id) (Gc d.norm1).length).2,d.settings⟩
theorem c21 (d:AG) (g:d.sized) (hn:d.normal.sized) (C:(BU [] (AB.usL (AO d.flow)++d.«end».all)).length<=1048576):PC 21 [d.enc] d.normal.enc:=by
 intro h n;refine gq Tryz.func21 rfl λz=>?_;have hs:=g.set;simp[go_sem,AG.enc,AF.flat,AI.flat,AD,AE,qu];refine(c73 d.flow g.len g.flow).use ?_;simp[go_sem,AD,AE];refine qz (by simpa[AG.enc,AG.norm1,AF.flat,AI.flat]using c74 d.norm1 hn.len hn.flow g.end C) ?_;simp[go_sem,AD,AE,Ah];have l:(Gc d.norm1).length<=1048576:=by
  have h1:(Gc d.norm1).length=((BU [] (AB.usL d.norm1.flow++d.norm1.«end».all)).filter λx=>decide (x≠0)).length:=List.length_mergeSort _;have h2:=kr (λx=>decide (x≠0)) (BU [] (AB.usL d.norm1.flow++d.norm1.«end».all));have h4:(BU [] (AB.usL d.norm1.flow++d.norm1.«end».all)).length<=1048576:=C;omega
 generalize A:Gc d.norm1=us at l;refine wq (dA _ g.revs) ?_;rintro M f m1 ⟨hle,BV,L⟩;have D:=BV n (.cells ([AK (AO d.flow)]++d.«end».flat++[BE d.revs]++d.settings.flat)) (by simp[AD,AE,AF.flat,AI.flat]);obtain⟨p,t,G⟩:∃p:List SV,p.length=11/\f (n+1)=some (.cells p):=⟨_,rfl,BV (n+1) (.cells _) (by simp[AD,AE];rfl)⟩
 have F:=BV (n+2) (.cells [.imm 1 (us.map AA) false]) (by simp[AD,<-A,AG.norm1]);have H:∀j y,h j=some y->f j=some y:=λj y e=>BV j y (by have:=z j y e;simp only[hset];grind);clear BV;have k:∀(b:Hp),(∀j,j=n\/j=n+1\/j<n->b j=f j)->CO n (hset (hset b n (some (.cells d.normal.enc.cells))) (n+1) (some (.cells d.normal.enc.cells))) m1 d.normal.enc (Is d.normal.enc h n):=λb a=>by
  refine A3 z (λj y e=>?_) rfl ?_;have h1:=(z j y e).1;have h2:=H j y e;rw[AE _ _ (by omega),AE _ _ (by omega),a j (by omega),h2];simp[AG.enc,AF.flat,AI.flat,closed,closedL,AB.E.closedL,Bi.E.closedL,Bs.E.closedL,AM.E.closedL,BC.E.closedL,A7.E.closedL,GQ.E.closedL,A9.E.closedL,GY.E.closedL]
 have c:d.normal.revs=d.revs.filter λr=>!(!(Az (Js us r.id) us.length).2):=by simp[AG.normal,A]
 have m:∀(K:SV->Hp->Nat->Prop),(∀b:Hp,(∀j,j=n\/j=n+1\/j<n->b j=f j)->K (.imm 3 (d.normal.revs.map BC.enc) false) b m1)->Ap (CC.plain.call false 0) Tryz.prog 75 [M,.fn (.func 77) [] [.ptr (n+2) 0]] f m1 K:=λK q=>by
  rcases L with⟨B,N,full,rfl⟩|⟨o,full,h1,h2,rfl,I⟩
  have J:d.normal.revs=[]:=by rw[c];simp only[vO]at B;rw[B];rfl
  rw[J]at q;exact(iK N full 77 [] [.ptr (n+2) 0]).use (q f λ_ _=>rfl);rw[c]at q;simp only[qf];refine wn (bs:=[.sl o 0 3 d.revs.length full,.fn (.func 77) [] [.iptr [.imm 1 (us.map AA) false]]]) (h2:=hset f (n+2) none) 2 (λj y e=>?_) ⟨IO,.inr ⟨rfl,trivial,AZ (AD _ _ _) F,trivial⟩,trivial⟩ ?_;simp only[hset]at e;split at e;cases e;exact e;refine qP (d75 d.revs g.revs 77 [] [.iptr [.imm 1 (us.map AA) false]] (λr=>!(Az (Js us r.id) us.length).2) (λx _=>c77 us l x) (by rw[AE _ _ (by omega)];exact I)) ?_;rintro v h' n' ⟨rfl,rfl,rfl⟩;refine q _ λj hj=>?_;rw[AE _ _ (by omega),AE _ _ (by omega)]
 simp[go_sem];refine m _ λb a=>?_;have i:b n=_:=(a n (.inl rfl)).trans D;have s:b (n+1)=_:=(a (n+1) (.inr (.inl rfl))).trans G;have w:n+1≠n:=by omega
 simp only[AF.flat,AI.flat]at i;simp[go_sem,i,AD];refine qz (by simpa[AG.enc,AG.normal,AF.flat,AI.flat]using c79 d.normal hn) ?_;have u:p.drop 11=[]:=kj (by omega);simp[go_sem,AE,s,t,AD,u];have:=k b a;simpa[AG.enc,AG.normal,AF.flat,AI.flat,SV.cells]using this
theorem aI {h:Hp} {n:Nat} (k:Nat) (h0:0<k) (h1:k<=1073741824):Al Tryz.prog h n .append [22,3] [.imm 0 [] true,.int .i64 k]=some { val:=.sl n 0 11 k false,new:=some (.cells (List.replicate k (BK Tryz.prog 70).cells).flatten) }:=by
 have b:BA Tryz.prog 22=some 70:=by simp[go_sem]
 have a:Br Tryz.prog 70=11:=by simp[go_sem]
 have c:(BK Tryz.prog 70).storable=true:=by simp[go_sem]
 have d:(BK Tryz.prog 70).cells.length=11:=by simp[go_sem]
 have e:Bw Tryz.prog 70<=65536:=by simp[go_sem]
 have f:BA Tryz.prog 3=none:=by simp[go_sem]
 have g:Tryz.prog.underlying 3=some (.int .i64):=by kernel_rfl
 simp only[Al,f,Option.isSome_none,qn,if_false,Fu,b,g];rw[if_pos ⟨⟨by omega,by omega⟩,by rw[a];omega,e,c,by rw[d,a]⟩,a];simp
theorem iY (k:Nat) (hk:k<=1048576) {h:Hp} {n:Nat}:BL Tryz.prog 256 [.imm 0 [] true,AA k] h n (λv h' n'=>(k=0/\v=.imm 0 [] true/\h'=h/\n'=n)\/(0<k/\∃cs,v=.sl n 0 11 0 false/\h'=hset h n (some (.cells cs))/\n'=n+1)):=by
 refine gq Tryz.func256 rfl λho=>?_;have h0:¬((k:Int)<0):=by omega
 have w0:IntKind.i64.wrap ((k:Int))=k:=by rw[DA]<;>omega
 have w1:IntKind.i64.wrap 0=0:=by decide
 by_cases b:k=0;subst b;simp[go_sem,w1];exact .inl ⟨rfl,rfl,rfl⟩;have hp:0<k:=by omega
 have hb:(k:Int)<=1073741824:=by omega
 have a:=λh n=>aI (h:=h) (n:=n) k hp (by omega);simp[go_sem,h0,w0,w1,hp,a];exact .inl (.inr ⟨rfl,⟨_,rfl⟩,rfl⟩)
theorem Tz {H:Hp} {p len m:Nat} {s x:SV} {xs ys:List SV} {upd:Option (Nat×Option Bb)} (l:(s=.imm 0 [] true/\xs=[]/\len=0/\upd=none)\/∃j cs,s=.sl j 0 11 len false/\H j=some (.cells cs)/\Bz cs 0 (len*11)=some xs/\upd=some (j,none))
 (n:LT 11 x=true) (k:GW x=some m) (o:flat H x=some ys) (a:m≠0) (hroom:len+m<=1073741824):
 Al Tryz.prog H p .append [22,22] [s,x]=some { val:=.sl p 0 11 (len+m) false,upd:=upd,new:=some (.cells (xs++ys)) }:=by
 have d:BA Tryz.prog 22=some 70:=by simp[go_sem]
 have e:Br Tryz.prog 70=11:=by simp[go_sem]
 have f:(BK Tryz.prog 70).storable=true:=by simp[go_sem]
 have g:(BK Tryz.prog 70).cells.length=11:=by simp[go_sem]
 have h:Bw Tryz.prog 70<=65536:=by simp[go_sem]
 have c:EF (len+m) (Bw Tryz.prog 70)=true:=by simp only[EF,qo,decide_eq_true_eq];exact⟨by omega,h⟩
 simp only[Al,d,vG,if_true,Ec,k,o,e,n,f,g];have b:Ib 70=none:=by rfl
 rcases l with⟨rfl,rfl,rfl,rfl⟩|⟨j,cs,rfl,i,ht,rfl⟩
 simp[LT,a,b];simpa using c;simp[LT,a,flat,i,ht,c,Kb b]
theorem V0 {H:Hp} {p len:Nat} {s:SV} (e:s=.imm 0 [] true\/∃j,s=.sl j 0 11 len false):
 Al Tryz.prog H p .append [22,22] [s,AK []]=some { val:=s }:=by
 have a:BA Tryz.prog 22=some 70:=by simp[go_sem]
 have b:Br Tryz.prog 70=11:=by simp[go_sem]
 have c:(BK Tryz.prog 70).storable=true:=by simp[go_sem]
 have d:(BK Tryz.prog 70).cells.length=11:=by simp[go_sem]
 simp only[Al,a,vG,if_true,Ec,b,c,d];rcases e with rfl|⟨j,rfl⟩<;>simp[LT,GW,flat,E8]
def Db (Ls:List (List AB)) (i:Nat):List AB:=(Ls.take i).flatten
theorem Ng {a:List (List AB)} {i:Nat} {x:List AB} (h:i<a.length) (b:a[i]=x):Db a (i+1)=Db a i++x:=by
 unfold Db;rw[qb h,b];simp
theorem WZ (a:List (List AB)) (i:Nat):(Db a i).length<=a.flatten.length:=by
 have:a.flatten=(a.take i).flatten++(a.drop i).flatten:=by rw[<-List.flatten_append,qM]
 rw[this,Db];simp
theorem PF (a:List (List AB)):Db a a.length=a.flatten:=by unfold Db;rw[qm]
theorem fT (b:List (List AB)) (hL:b.length<=1048576) (N:b.flatten.length<=1048576):PC 189 [.imm 1 (b.map AK) false] (AK b.flatten):=by
 intro h n;refine gq Tryz.func189 rfl λA=>?_;simp[go_sem];have u:=WZ b;refine Av 1 (α:=Nat) (λi=>[(0,.imm 1 (b.map AK) false),(3,AA (Db b i).length),(9,.imm 1 (b.map AK) false),(10,AA b.length),(11,AA i)]) (λ_=>h) (λi m=>i<=b.length/\n<=m) (λi=>b.length-i) 0 ?_ ?_ AC ?_;exact⟨qg _,qa n⟩;simp[Ao,Db];rintro i m ⟨hi,f⟩;by_cases d:i<b.length;have w1:=wS i (by omega);obtain⟨x,w⟩:∃x,b[i]=x:=⟨_,rfl⟩
 have c:=Ng d w;have h1:=u i;have h2:=u (i+1);have J:¬((((Db b (i+1)).length:Nat):Int)<0):=by omega
 have w2:IntKind.i64.wrap (((Db b i).length:Int)+(x.length:Int))=(((Db b (i+1)).length:Nat):Int):=by
  have:(Db b (i+1)).length=(Db b i).length+x.length:=by rw[c,qq]
  rw[DA]<;>omega
 simp[go_sem,d,w,w2,J,w1,-Int.natCast_add];exact⟨i+1,by omega,⟨by omega,f⟩,IO,IO⟩;have:i=b.length:=by omega
 subst this;rw[PF];generalize M:b.flatten=F at N;simp[go_sem];refine qP (iY F.length N) ?_;intro v h' n' r;have L:∃o:Option Nat,(∀j,o=some j->n<=j/\j<n')/\n<=n'/\(∀j y,h j=some y->h' j=some y)/\((o=none/\v=.imm 0 [] true)\/∃j cs,o=some j/\v=.sl j 0 11 0 false/\h' j=some (.cells cs)):=by
  rcases r with⟨_,rfl,rfl,rfl⟩|⟨_,cs,rfl,rfl,rfl⟩
  exact⟨none,by simp,f,λ_ _ e=>e,.inl ⟨rfl,rfl⟩⟩;exact⟨some m,by rintro j e;cases e;omega,by omega,AR A f AC,.inr ⟨m,cs,rfl,rfl,AD _ _ _⟩⟩
 clear r;obtain⟨o0,t,C,B,D⟩:=L;simp[go_sem];refine Av 1 (α:=Nat×Option Nat×SV×Hp) (λa=>[(6,a.2.2.1),(25,.imm 1 (b.map AK) false),(26,AA b.length),(27,AA a.1)]) (λa=>a.2.2.2)
  (λa m=>a.1<=b.length/\n<=m/\(∀j,a.2.1=some j->n<=j/\j<m)/\(∀j y,h j=some y->a.2.2.2 j=some y)/\((a.2.1=none/\a.2.2.1=.imm 0 [] true/\Db b a.1=[])\/∃j cs,a.2.1=some j/\a.2.2.1=.sl j 0 11 (Db b a.1).length false/\a.2.2.2 j=some (.cells cs)/\Bz cs 0 ((Db b a.1).length*11)=some (((Db b a.1).map AB.enc).flatMap SV.cells)))
  (λa=>b.length-a.1) (0,o0,v,h') ?_ ?_ AC ?_
 refine⟨qg _,C,t,B,?_⟩;rcases D with⟨h1,h2⟩|⟨j,cs,h1,h2,J⟩
 exact .inl ⟨h1,h2,rfl⟩;exact .inr ⟨j,cs,h1,h2,J,by simp[Bz,Db]⟩;simp[Ao];clear D B t C h' v f m hi d n' o0;rintro⟨i,o,v,h'⟩ m ⟨hi,f,k,BV,r⟩;dsimp only at hi k BV r ⊢;by_cases d:i<b.length;have w1:=wS i (by omega);obtain⟨x,w⟩:∃x,b[i]=x:=⟨_,rfl⟩
 have c:=Ng d w;have h2:=u (i+1);rw[M,c,qq]at h2;have hbt:BA Tryz.prog 22=some 70:=by simp[go_sem]
 by_cases G:x=[];subst G;have g:=λ(H:Hp) (p:Nat)=>V0 (H:=H) (p:=p) (len:=(Db b i).length) (s:=v) (by
  rcases r with⟨_,h1,_⟩|⟨j,cs,_,h1,_⟩
  exact .inl h1;exact .inr ⟨j,h1⟩)
 simp[go_sem,d,w,g,w1,-Int.natCast_add];exact⟨i+1,by omega,o,v,h',⟨by omega,f,k,BV,by simpa[Bz,c]using r⟩,⟨IO,IO⟩,AC⟩;have I:x.length≠0:=by cases x<;>simp at G ⊢
 have hxn:∀z:List SV,z=x.map AB.enc->GW (.imm 11 z false)=some x.length:=by rintro z rfl;simp[GW]
 rcases r with⟨rfl,rfl,h0⟩|⟨j,cs,rfl,rfl,K,ht⟩
 rw[h0,qE]at c;have g:=λ(p:Nat)=>Tz (H:=h') (p:=p) (len:=0) (m:=x.length) (s:=.imm 0 [] true) (x:=AK x) (xs:=[]) (ys:=(x.map AB.enc).flatMap SV.cells) (upd:=none) (.inl ⟨rfl,rfl,rfl,rfl⟩) (by simp[LT]) (by simp[GW]) rfl I (by omega);simp[go_sem,d,w,g,w1,-Int.natCast_add];refine⟨i+1,by omega,some m,.sl m 0 11 x.length false,hset h' m (some (.cells ((x.map AB.enc).flatMap SV.cells))),⟨by omega,by omega,by rintro j e;cases e;omega,?_,.inr ⟨m,rfl,by rw[c],_,AD _ _ _,?_⟩⟩,⟨IO,IO⟩,AC⟩;exact λj y e=>by rw[AE _ _ (by have:=(A j y e).1;omega)];exact BV j y e
 rw[c];have:=BO (AB.E.size x);rw[qf]at this;exact⟨by omega,by rw[<-this,qm]⟩;have hjm:=k j rfl;have g:=λ(p:Nat)=>Tz (H:=h') (p:=p) (len:=(Db b i).length) (m:=x.length) (s:=.sl j 0 11 (Db b i).length false) (x:=AK x) (ys:=(x.map AB.enc).flatMap SV.cells) (upd:=some (j,none)) (.inr ⟨j,cs,rfl,K,ht,rfl⟩) (by simp[LT]) (by simp[GW]) rfl I (by omega);simp[go_sem,d,w,g,w1,-Int.natCast_add];refine⟨i+1,by omega,some m,.sl m 0 11 ((Db b i).length+x.length) false,hset (hset h' j none) m (some (.cells (((Db b i).map AB.enc).flatMap SV.cells++(x.map AB.enc).flatMap SV.cells))),⟨by omega,by omega,by rintro j e;cases e;omega,?_,.inr ⟨m,rfl,by rw[c,qq],_,AD _ _ _,?_⟩⟩,⟨IO,IO⟩,AC⟩;exact λq y e=>by have:=(A q y e).1;rw[AE _ _ (by omega),AE _ _ (by omega)];exact BV q y e
 rw[c,qc,ko];have a1:=BO (AB.E.size (Db b i));have a2:=BO (AB.E.size x);rw[qf]at a1 a2;have a3:(((Db b i).map AB.enc).flatMap SV.cells++(x.map AB.enc).flatMap SV.cells).length=(Db b i++x).length*11:=by rw[qq,a1,a2,qq,kN]
 exact⟨by omega,by rw[<-a3,qm]⟩;have:i=b.length:=by omega
 subst this;rw[PF,M]at r;simp[go_sem];rcases r with⟨rfl,rfl,rfl⟩|⟨j,cs,rfl,rfl,h1,h2⟩
 exact LH A BV (by simp) rfl;have K:=k j rfl;have hn:=A.none K.1;have P:=AB.E.size F;have O:∀l:List SV,Ag (Fz h' h 0) l l:=by
  intro l;induction l with
  | nil=>trivial
  | cons a l ih=>exact⟨IO,ih⟩
 refine Dj (v:=AK F) 1 A BV ?_ (AB.E.imm _ _ _ _);exact .inr ⟨hn,by simp,by simp,rfl,cs,_,h1,h2,P,O _⟩
def Ak (l:List AB):Nat:=(l.map λx=>x.text.size).sum
def Dq (hp:AF->Prop) (K:Nat):Nat->List AB->Prop
 | 0,_=>False
 | N+1,l=>l.length<=K/\Ak l<=K/\∀x∈l,hp x.head/\Dq hp K N x.flow/\x.rows.length<=K/\∀r∈x.rows,hp r.head/\r.cells.length<=K/\∀c∈r.cells,hp c.head/\Dq hp K N c.flow
theorem Dq.mono {hp hp':AF->Prop} (f:∀x,hp x->hp' x) {K K':Nat} (h:K<=K'):∀{N:Nat} {l:List AB},Dq hp K N l->Dq hp' K' N l
 | N+1,l,H=>⟨by have:=H.1;omega,by have:=H.2.1;omega,λx j=>by
  obtain⟨a,b,c,d⟩:=H.2.2 x j;exact⟨f _ a,b.mono f h,by omega,λr g=>⟨f _ (d r g).1,by have:=(d r g).2.1;omega,λe i=>⟨f _ ((d r g).2.2 e i).1,((d r g).2.2 e i).2.mono f h⟩⟩⟩⟩
theorem Bn (a b:List AB):Ak (a++b)=Ak a+Ak b:=by simp[Ak]
theorem OU {l:List AB} {x:AB} (h:x∈l):x.text.size<=Ak l:=by
 induction l with
 | nil=>cases h
 | cons a l ih=>
  have e:Ak (a::l)=a.text.size+Ak l:=by simp[Ak]
  rcases qt.1 h with rfl|h;omega;have:=ih h;omega
theorem Dq.sized {hp:AF->Prop} (i:∀x,hp x->x.sized) {K:Nat} (h:K<=1048576):∀{N:Nat} {l:List AB},Dq hp K N l->l.length<=1048576/\AB.sizedL l
 | N + 1, l, H => ⟨by have := H.1; omega, ww fun x hx => by
  obtain⟨a,b,c,d⟩:=H.2.2 x hx;have ht:=OU hx;have ht2:=H.2.1;have k:=Dq.sized i h b;have j:AP.sizedL x.rows:=AP.sizedL_of λr j=>by
   obtain⟨e,f,g⟩:=d r j;have hc:AH.sizedL r.cells:=AH.sizedL_of λq n=>by
    obtain⟨u,v⟩:=g q n;have m:=Dq.sized i h v;cases q;rw[AH.sized];exact⟨i _ u,m.1,m.2⟩
   cases r;rw[AP.sized];exact⟨i _ e,by simp only[AP.cells]at f;omega,hc⟩
  cases x;rw[AB.sized];exact⟨by simp only[AB.text]at ht;omega,i _ a,k.1,by simp only[AB.rows]at c;omega,k.2,j⟩⟩
def QB (hp:AF->Prop) (K N:Nat) (x:AB):Prop:=hp x.head/\Dq hp K N x.flow/\x.rows.length<=K/\∀r∈x.rows,hp r.head/\r.cells.length<=K/\∀c∈r.cells,hp c.head/\Dq hp K N c.flow
theorem Ci {hp:AF->Prop} {K N:Nat} {l:List AB}:Dq hp K (N+1) l↔l.length<=K/\Ak l<=K/\∀x∈l,QB hp K N x:=Iff.rfl
theorem PO {hp:AF->Prop} {K N:Nat} {x:AB} (H:QB hp K N x) (t:ByteArray):QB hp K N (.mk x.kind x.code x.id t x.head x.flow x.rows):=by cases x;exact H
theorem Oj (out:List AB) (x:AB):Ak (AQ out x)<=Ak out+x.text.size:=by
 unfold AQ;split;omega;split;rename_i y a;obtain⟨ys,rfl⟩:∃ys,out=ys++[y]:=by
  rcases List.eq_nil_or_concat out with rfl|⟨ys,z,rfl⟩
  simp at a;simp only[List.concat_eq_append]at a ⊢;rw[vg]at a;cases a;exact⟨ys,rfl⟩
 split;simp[Ak,AB.addText,AB.text];omega;simp[Ak];omega;simp[Ak]
theorem QE {p:AB->Prop} (hp:∀x t,p x->p (.mk x.kind x.code x.id t x.head x.flow x.rows)) {out:List AB} {x:AB} (h1:∀y∈out,p y) (h2:p x):∀y∈AQ out x,p y:=λy a=>by
 rcases LA a with h|h|⟨z,b,h⟩
 exact h1 y h;rw[h];exact h2;rw[h];exact hp z _ (h1 z b)
theorem KG (l:List AB) (out:List AB):Ak (l.foldl AQ out)<=Ak out+Ak l:=by
 induction l generalizing out with
 | nil=>simp[Ak]
 | cons a l ih=>
  have h1:=ih (AQ out a);have h2:=Oj out a;have e:Ak (a::l)=a.text.size+Ak l:=by simp[Ak]
  simp only[jy];omega
theorem KE (l:List AB) (out:List AB):(l.foldl AQ out).length<=out.length+l.length:=by
 induction l generalizing out with
 | nil=>simp
 | cons a l ih=>
  have h1:=ih (AQ out a);have h2:=K9 out a;simp only[jy,qJ];omega
theorem Gr {p:AB->Prop} (hp:∀x t,p x->p (.mk x.kind x.code x.id t x.head x.flow x.rows)) (l:List AB) (out:List AB) (h1:∀y∈out,p y) (h2:∀y∈l,p y):∀y∈l.foldl AQ out,p y:=by
 induction l generalizing out with
 | nil=>exact h1
 | cons a l ih=>exact ih (AQ out a) (QE hp h1 (h2 a (by simp))) λy hy=>h2 y (by simp[hy])
theorem FD {hp:AF->Prop} {K:Nat}:∀{N:Nat} {l:List AB},Dq hp K N l->Dq hp K N (AO l)
 | N+1,l,H=>by
  rw[Ci]at H ⊢;unfold AO Cy;rw[kM];refine⟨?_,?_,?_⟩;have:=KE (l.map AB.nrm) [];simp at this;omega;have:=KG (l.map AB.nrm) [];have e:Ak (l.map AB.nrm)=Ak l:=by simp only[Ak,ke];congr 1;exact qL λx _=>by simp only[Function.comp_apply,(kB x).2.2.2.1]
  have k:Ak []=0:=rfl;rw[e,k]at this;omega;refine Gr (p:=QB hp K N) (λx t h=>PO h t) _ _ (λy g=>by cases g) λy g=>?_;obtain⟨x,q,rfl⟩:=ql.1 g;obtain⟨a,b,c,d⟩:=H.2.2 x q;obtain⟨_,_,_,_,m,n,i⟩:=kB x;refine⟨by rw[m];exact a,by rw[n];exact FD b,?_,?_⟩;rw[i];have:=kr (λr=>!decide (r.cells.length=0)) (x.rows.map AP.nrm);simp only[qf]at this;omega;rw[i];intro r o;obtain⟨r0,h0,rfl⟩:=ql.1 (kD.1 o).1;obtain⟨u,v,w⟩:=d r0 h0;have f:(AP.nrm r0).head=r0.head/\(AP.nrm r0).cells=r0.cells.map AH.nrm:=by cases r0;rw[AP.nrm,vY];exact⟨rfl,rfl⟩
  refine⟨by rw[f.1];exact u,by rw[f.2,qf];exact v,?_⟩;rw[f.2];intro c hc;obtain⟨c0,h1,rfl⟩:=ql.1 hc;obtain⟨s,z⟩:=w c0 h1;have j:(AH.nrm c0).head=c0.head/\(AH.nrm c0).flow=AO c0.flow:=by cases c0;rw[AH.nrm];exact⟨rfl,rfl⟩
  exact⟨by rw[j.1];exact s,by rw[j.2];exact FD z⟩
theorem OI {y:AB} {a b:Nat}:(y.setText (y.text.extract a b)).text.size<=y.text.size:=by
 cases y;simp[AB.setText,AB.text];omega
theorem Py (cu:Int) (s:List AB×List AB) (p:Int×AB):Ak (B7 cu s p).1<=Ak s.1+p.2.text.size/\Ak (B7 cu s p).2<=Ak s.2+p.2.text.size:=by
 unfold B7;split;exact⟨by simp[Bn];simp[Ak],by simp⟩;split;exact⟨by simp,by simp[Bn];simp[Ak]⟩;dsimp only;simp only[Bn];constructor;have:∀x:AB,Ak [x]=x.text.size:=by simp[Ak]
 rw[this];have:=@OI p.2;exact Nat.add_le_add_left (this) _;have:∀x:AB,Ak [x]=x.text.size:=by simp[Ak]
 rw[this];have:=@OI p.2;exact Nat.add_le_add_left (this) _
theorem Lc (l:List AB) (cu:Int):∀k,k<=l.length->Ak (CV l cu k).1<=Ak (l.take k)/\Ak (CV l cu k).2<=Ak (l.take k)
 | 0,_=>by simp[CV,Ak]
 | k+1,h=>by
  rw[Fx l cu k h,qb h,Bn];have h1:=Lc l cu k (by omega);have h2:=Py cu (CV l cu k) (BQ (l.take k),l[k]);have h3:Ak [l[k]]=l[k].text.size:=by simp[Ak]
  dsimp only at h2;omega
theorem RA {p:AB->Prop} (hp:∀x t,p x->p (.mk x.kind x.code x.id t x.head x.flow x.rows)) (cu:Int) (s:List AB×List AB) (q:Int×AB) (h1:∀y∈s.1,p y) (h2:∀y∈s.2,p y) (d:p q.2):(∀y∈(B7 cu s q).1,p y)/\∀y∈(B7 cu s q).2,p y:=by
 have c:∀(a:List AB) (y:AB),(∀z∈a,p z)->p y->∀z∈a++[y],p z:=λa y h h' z b=>by
  rcases qd.1 b with b|b;exact h z b;rw[qy.1 b];exact h'
 unfold B7;split;exact⟨c _ _ h1 d,h2⟩;split;exact⟨h1,c _ _ h2 d⟩;exact⟨c _ _ h1 (hp _ _ d),c _ _ h2 (hp _ _ d)⟩
theorem Hk {p:AB->Prop} (hp:∀x t,p x->p (.mk x.kind x.code x.id t x.head x.flow x.rows)) (l:List AB) (cu:Int) (h:∀y∈l,p y):∀k,k<=l.length->(∀y∈(CV l cu k).1,p y)/\∀y∈(CV l cu k).2,p y
 | 0,_=>by simp[CV]
 | k+1,hk=>by
  rw[Fx l cu k hk];have h1:=Hk hp l cu h k (by omega);exact RA hp _ _ _ h1.1 h1.2 (h _ (qi _))
theorem Nz {hp:AF->Prop} {K N:Nat} {l:List AB} (cu:Int) (H:Dq hp K (N+1) l):Dq hp K (N+1) (Ad l cu).1/\Dq hp K (N+1) (Ad l cu).2:=by
 rw[Ci]at H;have h1:=D9 l cu;have h2:=Lc l cu _ (qa _);have a:=Hk (p:=QB hp K N) (λx t h=>PO h t) l cu H.2.2 _ (qa _);rw[qm]at h2;exact⟨⟨by omega,by have:=h2.1;unfold Ad;omega,a.1⟩,⟨by omega,by have:=h2.2;unfold Ad;omega,a.2⟩⟩
theorem Gu {hp:AF->Prop} {K N:Nat} {l:List AB} (a b:Int) (H:Dq hp K (N+1) l):Dq hp K (N+1) (Ab l a b).1:=by
 unfold Ab;split;exact FD (Nz a (Nz b H).1).2;exact⟨by simp,by simp[Ak],by simp⟩
theorem Oo (l:List AB):(AO l).length<=l.length:=by
 have:=KE (AB.nrmL l) [];rw[kM]at this;unfold AO Cy;rw[kM];simpa using this
theorem IR (l:List AB) (a b:Int):(Ab l a b).1.length<=l.length:=by
 unfold Ab;split;have h1:=D9 l b;have h2:=D9 (Ad l b).1 a;have h3:=Oo (Ad (Ad l b).1 a).2;dsimp only;omega;simp
structure CI where
 head:AF
 mid:Bool
 units:Int
def CI.enc (p:CI):SV:=.agg (p.head.flat++[.bool p.mid,AA p.units])
structure BH where
 id:Int
 a:Int
 b:Int
def BH.enc (s:BH):SV:=.agg [AA s.id,AA s.a,AA s.b]
def AB.put (x:AB) (h:AF) (f:List AB) (r:List AP):AB:=.mk x.kind x.code x.id x.text h f r
section
variable {σ : Type} (f : σ → CI → AF × Bool × σ) (it : Int → List AB → Bool → σ → List AB × σ) (mid : Bool)
def DH (q:List AH×σ) (c:AH):List AH×σ:=
 if(f q.2 ⟨c.head,mid,1⟩).2.1 then(q.1++[.mk c.id (f q.2 ⟨c.head,mid,1⟩).1 (it c.id c.flow mid (f q.2 ⟨c.head,mid,1⟩).2.2).1],(it c.id c.flow mid (f q.2 ⟨c.head,mid,1⟩).2.2).2)
 else(q.1,(f q.2 ⟨c.head,mid,1⟩).2.2)
def Er (l:List AH) (s:σ):List AH×σ:=l.foldl (DH f it mid) ([],s)
def EG (q:List AP×σ) (r:AP):List AP×σ:=
 if(f q.2 ⟨r.head,mid,1⟩).2.1 then(q.1++[.mk (f q.2 ⟨r.head,mid,1⟩).1 (Er f it mid r.cells (f q.2 ⟨r.head,mid,1⟩).2.2).1],(Er f it mid r.cells (f q.2 ⟨r.head,mid,1⟩).2.2).2)
 else(q.1,(f q.2 ⟨r.head,mid,1⟩).2.2)
def HY (l:List AP) (s:σ):List AP×σ:=l.foldl (EG f it mid) ([],s)
def Cm (x:AB) (s:σ):(List AB×List AP)×σ:=
 if x.kind=6 then(((it x.id x.flow mid s).1,x.rows),(it x.id x.flow mid s).2)
 else if x.kind=7 then((x.flow,(HY f it mid x.rows s).1),(HY f it mid x.rows s).2)
 else((x.flow,x.rows),s)
def CL (q:List AB×σ) (x:AB):List AB×σ:=
 let r:=f q.2 ⟨x.head,mid,(BF [x]).1⟩
 if r.2.1 then(q.1++[x.put r.1 (Cm f it mid x r.2.2).1.1 (Cm f it mid x r.2.2).1.2],(Cm f it mid x r.2.2).2)
 else(q.1,r.2.2)
def A8 (l:List AB) (s:σ):List AB×σ:=l.foldl (CL f it mid) ([],s)
end
section
variable {σ : Type} (f : σ → CI → AF × Bool × σ) (sc : BH)
def F9 (id:Int) (l:List AB) (mid:Bool):Bool:=decide (id=sc.id) && !mid&&decide (0<=sc.a)&&decide (sc.a<=sc.b)&&decide (sc.b<=(BF l).1)
def AT:Nat->Int->List AB->Bool->σ->List AB×σ
 | 0,_,_,_,s=>([],s)
 | N + 1, id, l, mid, s =>
  if F9 sc id l mid then
   let p1:=A8 f (AT N) false (Ab l 0 sc.a).1 s
   let p2:=A8 f (AT N) true (Ab l sc.a sc.b).1 p1.2
   let p3:=A8 f (AT N) false (Ab l sc.b (BF l).1).1 p2.2
   (p1.1++p2.1++p3.1,p3.2)
  else A8 f (AT N) mid l s
end
theorem KH {α β:Type} (g:β->α->β) (b:β) (l:List α) (i:Nat) (x:α) (h:i<l.length) (a:l[i]=x):(l.take (i+1)).foldl g b=g ((l.take i).foldl g b) x:=by
 rw[qb h,jw,a];rfl
section
variable {σ : Type} {f : σ → CI → AF × Bool × σ} {it : Int → List AB → Bool → σ → List AB × σ} {mid : Bool}
theorem NQ (l:List AH) (z:List AH×σ):(l.foldl (DH f it mid) z).1.length<=z.1.length+l.length:=by
 induction l generalizing z with
 | nil=>simp
 | cons a l ih=>
  have:=ih (DH f it mid z a);have h2:(DH f it mid z a).1.length<=z.1.length+1:=by unfold DH;split<;>simp
  simp only[jy,qJ];omega
theorem PZ (l:List AP) (z:List AP×σ):(l.foldl (EG f it mid) z).1.length<=z.1.length+l.length:=by
 induction l generalizing z with
 | nil=>simp
 | cons a l ih=>
  have:=ih (EG f it mid z a);have h2:(EG f it mid z a).1.length<=z.1.length+1:=by unfold EG;split<;>simp
  simp only[jy,qJ];omega
theorem HF (l:List AB) (z:List AB×σ):(l.foldl (CL f it mid) z).1.length<=z.1.length+l.length:=by
 induction l generalizing z with
 | nil=>simp
 | cons a l ih=>
  have:=ih (CL f it mid z a);have h2:(CL f it mid z a).1.length<=z.1.length+1:=by unfold CL;dsimp only;split<;>simp
  simp only[jy,qJ];omega
end
section
variable {hp : AF → Prop} {σ : Type} {f : σ → CI → AF × Bool × σ} {it : Int → List AB → Bool → σ → List AB × σ} {mid : Bool} {K N : Nat}
theorem JS {α β:Type} (g:β->α->β) (I:β->Prop):∀(l:List α) (b:β),I b->(∀b x,x∈l->I b->I (g b x))->I (l.foldl g b)
 | [],_,h,_=>h
 | x::l,b,h,H=>JS g I l _ (H b x (by simp) h) λb y a=>H b y (by simp[a])
theorem Eu {α:Type} {p:α->Prop} {l:List α} {x:α} (h:∀y∈l,p y) (b:p x):∀y∈l++[x],p y:=λy a=>by
 rcases qd.1 a with a|a;exact h y a;rw[qy.1 a];exact b
theorem IH {sc:BH} (k:∀s p,hp p.head->hp (f s p).1):∀(N:Nat) (id:Int) (l:List AB) (mid:Bool) (s:σ),Dq hp K N l->Dq hp (3*K) N (AT f sc N id l mid s).1/\(AT f sc N id l mid s).1.length<=3*K
 | 0,_,_,_,_,h=>h.elim
 | N + 1, id, l, mid, s, h => by
  have d:∀mid l s,Dq hp K (N+1) l->(A8 f (AT f sc N) mid l s).1.length<=K/\Ak (A8 f (AT f sc N) mid l s).1<=K/\∀x∈(A8 f (AT f sc N) mid l s).1,QB hp (3*K) N x:=by
   clear h;intro mid l s h;obtain⟨h1,h2,w⟩:=Ci.1 h;have cells:∀(cs:List AH) s,cs.length<=K->(∀c∈cs,hp c.head/\Dq hp K N c.flow)->(Er f (AT f sc N) mid cs s).1.length<=3*K/\∀c∈(Er f (AT f sc N) mid cs s).1,hp c.head/\Dq hp (3*K) N c.flow:=λcs s hl hc=>by
    refine⟨by have:=NQ (f:=f) (it:=AT f sc N) (mid:=mid) cs ([],s);simp at this;unfold Er;omega,?_⟩;refine JS _ (λq:List AH×σ=>∀c∈q.1,hp c.head/\Dq hp (3*K) N c.flow) cs _ (by simp) λq c g i=>?_;unfold DH;split;exact Eu i ⟨k _ _ (hc c g).1,(IH k N _ _ _ _ (hc c g).2).1⟩;exact i
   have rows:∀(rs:List AP) s,rs.length<=K->(∀r∈rs,hp r.head/\r.cells.length<=K/\∀c∈r.cells,hp c.head/\Dq hp K N c.flow)->(HY f (AT f sc N) mid rs s).1.length<=3*K/\∀r∈(HY f (AT f sc N) mid rs s).1,hp r.head/\r.cells.length<=3*K/\∀c∈r.cells,hp c.head/\Dq hp (3*K) N c.flow:=λrs s hl hc=>by
    refine⟨by have:=PZ (f:=f) (it:=AT f sc N) (mid:=mid) rs ([],s);simp at this;unfold HY;omega,?_⟩;refine JS _ (λq:List AP×σ=>∀r∈q.1,hp r.head/\r.cells.length<=3*K/\∀c∈r.cells,hp c.head/\Dq hp (3*K) N c.flow) rs _ (by simp) λq r g i=>?_;unfold EG;split;exact Eu i ⟨k _ _ (hc r g).1,cells _ _ (hc r g).2.1 (hc r g).2.2⟩;exact i
   refine⟨by have:=HF (f:=f) (it:=AT f sc N) (mid:=mid) l ([],s);simp at this;unfold A8;omega,?_,?_⟩;have:∀(l:List AB) (q:List AB×σ),Ak (l.foldl (CL f (AT f sc N) mid) q).1<=Ak q.1+Ak l:=by
    intro l
    induction l with
    | nil=>intro q;simp
    | cons a l ih =>
     intro q;have e:Ak (a::l)=a.text.size+Ak l:=by simp[Ak]
     have h1:=ih (CL f (AT f sc N) mid q a);have h2:Ak (CL f (AT f sc N) mid q a).1<=Ak q.1+a.text.size:=by
      unfold CL;dsimp only;split;rw[Bn];simp[Ak,AB.put,AB.text];dsimp only;omega
     simp only[jy];omega
   have:=this l ([],s);have v:Ak []=0:=rfl;unfold A8;simp only[v]at this;omega;refine JS _ (λq:List AB×σ=>∀x∈q.1,QB hp (3*K) N x) l _ (by simp) λq x g i=>?_;obtain⟨a1,a2,a3,a4⟩:=w x g;unfold CL;dsimp only;split;refine Eu i ?_;have o:K<=3*K:=by omega
   have up:Dq hp (3*K) N x.flow:=a2.mono (λ_ h=>h) o;have up2:x.rows.length<=3*K/\∀r∈x.rows,hp r.head/\r.cells.length<=3*K/\∀c∈r.cells,hp c.head/\Dq hp (3*K) N c.flow:=⟨by omega,λr m=>⟨(a4 r m).1,by have:=(a4 r m).2.1;omega,λc hc=>⟨((a4 r m).2.2 c hc).1,((a4 r m).2.2 c hc).2.mono (λ_ h=>h) o⟩⟩⟩
   unfold Cm;split;exact⟨k _ _ a1,(IH k N _ _ _ _ a2).1,up2⟩;split;exact⟨k _ _ a1,up,rows _ _ a3 a4⟩;exact⟨k _ _ a1,up,up2⟩;exact i
  rw[AT];split;have n:=d false _ s (Gu 0 sc.a h);generalize A8 f (AT f sc N) false (Ab l 0 sc.a).1 s=q1 at n ⊢;have t:=d true _ q1.2 (Gu sc.a sc.b h);dsimp only;generalize A8 f (AT f sc N) true (Ab l sc.a sc.b).1 q1.2=q2 at t ⊢;have u:=d false _ q2.2 (Gu sc.b (BF l).1 h);generalize A8 f (AT f sc N) false (Ab l sc.b (BF l).1).1 q2.2=q3 at u ⊢;refine⟨Ci.2 ⟨by simp;omega,by simp only[Bn];omega,λx j=>?_⟩,by simp;omega⟩;simp only[qd]at j;rcases j with(j|j)|j;exact n.2.2 x j;exact t.2.2 x j;exact u.2.2 x j;have n:=d mid _ s h;exact⟨Ci.2 ⟨by omega,by omega,n.2.2⟩,by omega⟩
end
theorem TM {hp:AF->Prop} {L:List Int} (d:∀h,hp h->∀u∈h.all,u∈L) {K:Nat}:∀{N:Nat} {l:List AB},Dq hp K N l->∀u∈AB.usL l,u∈L
 | N + 1, l, H => by
  obtain⟨n,o,b⟩:=Ci.1 H;clear H n o
  induction l with
  | nil=>simp[AB.usL]
  | cons x l ih=>
   intro u a;rw[AB.usL,qd]at a;rcases a with a|a;obtain⟨a1,a2,a3,a4⟩:=b x (by simp);cases x with
   | mk k c i t h f r=>
    simp only[AB.us,qd,AB.head,AB.flow,AB.rows]at *;rcases a with a|a;exact d h a1 u a;split at a;exact TM d a2 u a;split at a;clear a3 b
    induction r with
    | nil=>simp[AP.usL]at a
    | cons r rs ihr=>
     rw[AP.usL,qd]at a;rcases a with a|a;obtain⟨b1,g,e⟩:=a4 r (by simp);cases r with
     | mk h2 cs=>
      simp only[AP.us,qd,AP.head,AP.cells]at *;rcases a with a|a;exact d h2 b1 u a;clear a4 ihr g
      induction cs with
      | nil=>simp[AH.usL]at a
      | cons q cs ihc=>
       rw[AH.usL,qd]at a;rcases a with a|a;obtain⟨j,m⟩:=e q (by simp);cases q with
       | mk i3 b f3=>
        simp only[AH.us,qd,AH.head,AH.flow]at *;rcases a with a|a;exact d b j u a;exact TM d m u a
       exact ihc (λc hc=>e c (by simp[hc])) a
     exact ihr (λr p=>a4 r (by simp[p])) a
    cases a
   exact ih (λx s=>b x (by simp[s])) u a
theorem Rb:∀{l L:List Int},l.Nodup->(∀u∈l,u∈L)->l.length<=L.length
 | [],_,_,_=>by simp
 | a::l,L,h,H=>by
  rw[vd]at h;have b:=H a (by simp);have:=Rb (l:=l) (L:=L.erase a) h.2 λu c=>(List.mem_erase_of_ne (by rintro rfl;exact h.1 c)).2 (H u (by simp[c]));rw[List.length_erase_of_mem b]at this;have hp:0<L.length:=List.length_pos_of_mem b;simp only[qJ];omega
theorem Xx {X L:List Int} (h:∀u∈X,u∈L):(BU [] X).length<=L.length:=
 Rb (J2 X [] List.nodup_nil) λu a=>h u (by simpa using(Id u X []).1 a)
end Go.Proofs.YtgakninlhfkkmaaGreat.Sh
