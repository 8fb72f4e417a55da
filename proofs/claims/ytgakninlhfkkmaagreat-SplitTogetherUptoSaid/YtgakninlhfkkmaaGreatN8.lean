/- A part of the proof (part 8 of 18). -/
import Derived.Test.YtgakninlhfkkmaaGreatN7
namespace Go.Proofs.YtgakninlhfkkmaaGreat.Sh
open Tryz
open Proofs
set_option maxRecDepth 10000
set_option maxHeartbeats 4000000
theorem AB.setText_sized{y:AB}(h:y.D)(a b:Nat):(y.C_ (y.x.extract a b)).D:=by
 cases y with
 | mk k c i t hd f r=>
  simp only[AB.C_,AB.D,AB.x,AB.k,AB.code,AB.id,AB.H,AB.W,AB.R]at h ⊢;refine⟨?_,h.2⟩;have:=h.1;simp;omega
theorem Of(b:Int)(s:List AB×List AB)(p:Int×AB)(hp:p.2.D)(h1:∀x∈s.1,x.D)(h2:∀x∈s.2,x.D):(∀x∈(B7 b s p).1,x.D)/\∀x∈(B7 b s p).2,x.D:=by
 unfold B7;split;refine⟨λx a=>?_,h2⟩;rcases qd.1 a with a|a;exact h1 x a;rw[qy.1 a];exact hp;split;refine⟨h1,λx a=>?_⟩;rcases qd.1 a with a|a;exact h2 x a;rw[qy.1 a];exact hp;refine⟨λx a=>?_,λx a=>?_⟩;rcases qd.1 a with a|a;exact h1 x a;rw[qy.1 a];exact AB.setText_sized hp _ _;rcases qd.1 a with a|a;exact h2 x a;rw[qy.1 a];exact AB.setText_sized hp _ _
theorem J8(l:List AB)(a:Int)(b:∀x∈l,x.D):∀k,k<=l.length->(∀x∈(CV l a k).1,x.D)/\∀x∈(CV l a k).2,x.D
 | 0,_=>by simp[CV]
 | k+1,h=>by
  rw[Fx l a k h];have h2:=J8 l a b k (by omega);exact Of _ _ _ (b _ (qi _)) h2.1 h2.2
theorem IX(l:List AB)(a:Int)(b:AB.G l):AB.G (Ad l a).1/\AB.G (Ad l a).2:=
 ⟨ww (J8 l a (vq b) _ (qa _)).1,ww (J8 l a (vq b) _ (qa _)).2⟩
theorem D9(l:List AB)(a:Int):(Ad l a).1.length<=l.length/\(Ad l a).2.length<=l.length:=NZ l a _ (qa _)
theorem AB.sizedL_text{l:List AB}(h:AB.G l):∀x∈l,x.x.size<=1048576:=λx a=>by
 have:=vq h x a;cases x;simp only[AB.D,AB.x]at this ⊢;exact this.1
def Ab(l:List AB)(a b:Int):List AB×Int:=if DL l a b=0 then(AO (Ad (Ad l b).1 a).2,0)else([],DL l a b)
theorem Zr(l:List AB)(a b:Int)(hl:l.length<=1048576)(c:AB.G l):PC 180 [AK l,AA a,AA b] (.tup [AK (Ab l a b).1,AA (Ab l a b).2]):=by
 intro h n;refine gq func180 rfl λd=>?_;simp[go_sem];refine(gE l a b hl (AB.sizedL_text c)).use ?_;by_cases hc:DL l a b=0;have s1:=(IX l b c).1;have l1:=(D9 l b).1;have s2:=(IX _ a s1).2;have l2:=(D9 (Ad l b).1 a).2;simp[go_sem,hc];refine(br l b hl (AB.sizedL_text c)).use ?_;simp[go_sem];refine(br _ a (by omega) (AB.sizedL_text s1)).use ?_;simp[go_sem];refine(c73 _ (by omega) s2).use ?_;simp[go_sem];refine As d (by simp[cc,ca,AB.E.ca]) ?_;simp[Ab,hc];simp[go_sem,hc];have e:Ab l a b=([],DL l a b):=by simp[Ab,hc]
 rw[e];exact Dj 2 d AC (.inr ⟨Bj (by simp),IO,trivial⟩) (by simp[cc,ca])
def AF.V(h:AF):List Int:=(if h.I=0 then[]else[h.I])++h.Y.map (·.rev)++h.Z.map (·.rev)
def AF.revsK(h:AF)(i j:Nat):List Int:=(if h.I=0 then[]else[h.I])++(h.Y.take i).map (·.rev)++(h.Z.take j).map (·.rev)
theorem AF.revsK_len(h:AF)(i j:Nat)(hi:i<=h.Y.length)(hj:j<=h.Z.length):(h.revsK i j).length<=1+i+j:=by
 unfold AF.revsK;split<;>simp<;>omega
theorem Mq{H:Hp}{n m k p:Nat}{es:List Int}{x:Int}{o:Option Nat}(a:BR n m 1 o (es.map AA))(hl:es.length<=1073741823)(h1:H k=some (.cells [AA x]))(h2:∀j,o=some j->H j=some (.cells (es.map AA))):
 Al prog H p .append [61,61] [AW 1 o (es.map AA),.sl k 0 1 1 true]=some { val:=.sl p 0 1 (es.length+1) false,upd:=o.map λj=>(j,none),new:=some (.cells (es.map AA++[AA x])) }:=by
 have:=Fa (P:=prog) (H:=H) (t:=61) (t2:=61) (el:=3) (by simp[go_sem]) (by simp[go_sem]) (by simp[go_sem]) (by simp) (by simp[go_sem]) (by simp[go_sem]) (by simp[go_sem]) (by simp;omega) a (e:=AA x) rfl h1 (λj e=>by rw[h2 j e,EU]) p;rw[this,EU];simp[SV.cells]
theorem Kf(o:Option Nat)(l:List Int)(h:Hp):AV o (l.map AA) h=match o with|none=>h|some j=>h_ h j (some (.cells (l.map AA))):=by
 cases o<;>simp[AV,EU]
theorem eo(a:AF)(B:a.D)(u:a.V.length<=1048576):PC 114 [a.e] (.i 1 ((C9 (Cr a.V)).map AA) false):=by
 intro h n;refine DO func114 rfl λg=>?_;have w:=g.none (qa n);refine By 2 [(1,.q a.g)] h (λm=>m=n+1) ?_ (λm t=>?_);simp[go_sem,AF.e];exact⟨AZ w (by simp[AD]),AR g (qa _) AC⟩;subst t;refine B8 1 (α:=Unit) (λ_=>[(1,.q a.g),(3,AW 1 none [])]) (λ_=>h) (λ_ m=>m=n+1) (by simp[go_sem,AW]) (λ_ m t=>?_);subst t;refine B8 1 (α:=Option Nat) (λo=>[(1,.q a.g),(3,AW 1 o ((a.revsK 0 0).map AA))]) (λo=>AV o ((a.revsK 0 0).map AA) h) (λo m=>n<m/\BR (n+1) m 1 o ((a.revsK 0 0).map AA)) ?_ (λo m t=>?_);by_cases e:a.I=0;simp[go_sem,AF.g,e,AF.revsK];exact⟨none,vA _ _ _,IO,AC⟩;have s:=λ(H:Hp)(k p:Nat)(h1:H k=some (.cells [AA a.I]))=>Mq (H:=H) (k:=k) (p:=p) (es:=[]) (x:=a.I) (vA 0 0 1) (by simp) h1 (by simp);simp only[Yo,vI,vH,qE]at s;simp[go_sem,AF.g,e,AF.revsK];rw[s _ _ _ (by simp[AD])];simp[go_sem];refine⟨some (n+1+1),?_,?_,?_⟩;exact(vA (n+1) (n+1) 1).push (e:=AA a.I) rfl rfl (by omega) (by omega);simp[AW,IO];intro j y;have:=g j y;simp only[AV,h_,SV.cells,QZ,List.flatMap_nil,JP];grind;obtain⟨f,b⟩:=t;refine AJ ?_;simp[go_sem,AF.g];refine Av 1 (α:=Nat×Option Nat) (λq=>[(1,.q a.g),(3,AW 1 q.2 ((a.revsK q.1 0).map AA)),(20,Ax a.Y),(21,AA a.Y.length),(22,AA q.1)]) (λq=>AV q.2 ((a.revsK q.1 0).map AA) h)
  (λq m=>q.1<=a.Y.length/\n<m/\BR (n+1) m 1 q.2 ((a.revsK q.1 0).map AA)) (λq=>a.Y.length-q.1) (0,o) ?_ ?_ AC ?_
 exact⟨qg _,f,b⟩;simp[Ao,AF.g];clear b f;rintro⟨i,o⟩ m ⟨hi,f,b⟩;dsimp only at hi b ⊢;have hsd:=B.Y;have hsl:=B.Z;have l:=a.revsK_len i 0 hi (qg _);have c:∀j,o=some j->n<j/\j<m:=λj e=>by have:=b.lt j e;omega
 by_cases r:i<a.Y.length;have w1:=wS i (by omega);obtain⟨x,v⟩:∃x,a.Y[i]=x:=⟨_,rfl⟩
 have d:a.revsK (i+1) 0=a.revsK i 0++[x.rev]:=by
  unfold AF.revsK;rw[qb r,v];simp
 simp[go_sem,r,v,Bs.e,AD,Ah,AF.g];rw[Mq (x:=x.rev) b (by omega) (by simp[AD]) (by
  intro j e;have:=c j e;subst e;simp only[Kf,h_];grind)]
 simp[go_sem,w1,-Int.natCast_add];refine⟨i+1,by omega,some (m+1+1),⟨by omega,by omega,?_⟩,⟨?_,IO⟩,?_⟩;rw[d,qc];exact b.push rfl rfl (by omega) (by omega);rw[d];simp[AW,IO];rw[d];intro j y;have:=g j y;have:=c j;simp only[Kf];simp only[h_,qc,qr,Yo];cases o<;>simp only[vH,qO,h_]<;>grind;have:i=a.Y.length:=by omega
 subst this;simp[go_sem,AF.g];refine Av 1 (α:=Nat×Option Nat) (λq=>[(1,.q a.g),(3,AW 1 q.2 ((a.revsK a.Y.length q.1).map AA)),(34,Ai a.Z),(35,AA a.Z.length),(36,AA q.1)]) (λq=>AV q.2 ((a.revsK a.Y.length q.1).map AA) h)
  (λq m=>q.1<=a.Z.length/\n<m/\BR (n+1) m 1 q.2 ((a.revsK a.Y.length q.1).map AA)) (λq=>a.Z.length-q.1) (0,o) ?_ ?_ AC ?_
 exact⟨qg _,f,b⟩;simp[Ao,AF.g];clear b f l c;rintro⟨i,o⟩ m ⟨hi,f,b⟩;dsimp only at hi b ⊢;have l:=a.revsK_len a.Y.length i (qa _) hi;have c:∀j,o=some j->n<j/\j<m:=λj e=>by have:=b.lt j e;omega
 by_cases r:i<a.Z.length;have w1:=wS i (by omega);obtain⟨x,v⟩:∃x,a.Z[i]=x:=⟨_,rfl⟩
 have d:a.revsK a.Y.length (i+1)=a.revsK a.Y.length i++[x.rev]:=by
  unfold AF.revsK;rw[qb r,v];simp
 simp[go_sem,r,v,AM.e,AD,Ah,AF.g];rw[Mq (x:=x.rev) b (by omega) (by simp[AD]) (by
  intro j e;have:=c j e;subst e;simp only[Kf,h_];grind)]
 simp[go_sem,w1,-Int.natCast_add];refine⟨i+1,by omega,some (m+1+1),⟨by omega,by omega,?_⟩,⟨?_,IO⟩,?_⟩;rw[d,qc];exact b.push rfl rfl (by omega) (by omega);rw[d];simp[AW,IO];rw[d];intro j y;have:=g j y;have:=c j;simp only[Kf];simp only[h_,qc,qr,Yo];cases o<;>simp only[vH,qO,h_]<;>grind;have:i=a.Z.length:=by omega
 subst this;have C:a.revsK a.Y.length a.Z.length=a.V:=by simp[AF.revsK,AF.V]
 rw[C]at b l ⊢;cases o with
 | none=>
  have A:=b.none rfl;simp only[List.map_eq_nil_iff]at A;simp[go_sem,AF.g,AW,AV];refine wn (bs:=[.i 1 [.i 1 (a.V.map AA) false] false]) (h2:=h) 2 (AR g (by omega) AC) ⟨?_,trivial⟩ ((bc a.V u).use ?_);rw[A];refine .inr ⟨g.none (show n<=m by omega),by simp,rfl,rfl,[.i 0 [] true],[.i 0 [] true],AD _ _ _,by simp[Bz],by simp[SV.B,SV.cells],?_⟩;exact⟨Bj (by simp),trivial⟩;simp[go_sem];exact As g (by simp[cc,Ns.ca]) rfl
 | some q=>
  have hq:=c q rfl;simp[go_sem,AF.g,AW];refine wn (bs:=[.i 1 [.i 1 (a.V.map AA) false] false]) (h2:=h) 2 (by intro j y;have:=g j y;simp only[AV,h_];grind) ⟨?_,trivial⟩ ((bc a.V u).use ?_);refine .inr ⟨g.none (show n<=m by omega),by simp,rfl,rfl,_,_,AD _ _ _,by simp[Bz];rfl,by simp[SV.B,SV.cells],?_⟩;refine⟨?_,trivial⟩;have:=Cz (h':=h_ (AV (some q) (a.V.map AA) h) m (some (.cells [.sl q 0 1 a.V.length false]))) (h:=h) (k:=0) (z:=1) (o:=q) (es:=a.V.map AA) (full:=false) (full':=false) (g.none (by omega)) (by simp) (by rw[AE _ _ (by omega)];simp[AV,h_]) (Ns.size _);simpa using this;simp[go_sem];exact As g (by simp[cc,Ns.ca]) rfl
theorem U7(l:List Int)(x:Int):x∈C9 l↔x∈l:=(List.mergeSort_perm l _).mem_iff
theorem Px(l:List Int):(Cr l).length<=l.length:=by have:=JO l l.length (qa _);simpa using this
def AF.uses(h:AF)(rev:Int):Bool:=decide (rev∈h.V)
theorem c38(a:AF)(d:a.D)(b:a.V.length<=1048576)(rev:Int):PC 38 [a.e,AA rev] (.bool (a.uses rev)):=by
 intro h n;refine gq func38 rfl λc=>?_;simp[go_sem,AF.e,AF.g,AD];refine qz (by simpa[AF.e,AF.g]using eo a d b) ?_;simp[go_sem];have hl:(C9 (Cr a.V)).length<=1048576:=by
  have h1:(C9 (Cr a.V)).length=(Cr a.V).length:=XI _;have:=Px a.V;omega
 refine(bQ _ rev hl).use ?_;simp[go_sem];exact A3 c (AR c (qa _) AC) (by simp[AF.uses,U7,Ux]) rfl
def Fd(out:List Int)(x:Int):List Int:=if x∈out then out else out++[x]
def BU(out l:List Int):List Int:=l.foldl Fd out
theorem CR(out a b:List Int):BU out (a++b)=BU (BU out a) b:=UU
theorem Id(x:Int):∀(l out:List Int),x∈BU out l↔x∈out\/x∈l
 | [],out=>by simp[BU]
 | a::l,out=>by
  have b:=Id x l (Fd out a);have e:BU out (a::l)=BU (Fd out a) l:=rfl;rw[e,b];unfold Fd;split;rename_i h;constructor;rintro(h1|h1);exact .inl h1;exact .inr (Q9 _ h1);rintro(h1|h1);exact .inl h1;rcases qt.1 h1 with rfl|h1;exact .inl h;exact .inr h1;simp only[qd,qt,List.not_mem_nil,or_false,or_assoc]
theorem J2:∀(l out:List Int),out.Nodup->(BU out l).Nodup
 | [],_,h=>h
 | a::l,out,h=>by
  have e:BU out (a::l)=BU (Fd out a) l:=rfl;rw[e];refine J2 l _ ?_;unfold Fd;split;exact h;rename_i hn;rw[List.nodup_append];refine⟨h,by simp,λx c y b=>?_⟩;simp at b;rintro rfl;subst b;exact hn c
theorem NL:∀(l out:List Int),(BU out l).length<=out.length+l.length
 | [],out=>by simp[BU]
 | a::l,out=>by
  have e:BU out (a::l)=BU (Fd out a) l:=rfl;rw[e];have:=NL l (Fd out a);have h2:(Fd out a).length<=out.length+1:=by unfold Fd;split<;>simp
  simp;omega
theorem To(out:List Int)(x:Int):
 (∃i v,DT (AA x) (FC out) 0=some (some (i,v))/\(FC out).modify i (λ_=>(AA x,.bool true))=FC (Fd out x))\/(DT (AA x) (FC out) 0=some none/\FC out++[(AA x,.bool true)]=FC (Fd out x)):=by
 by_cases a:x∈out;obtain⟨j,h1,h2⟩:=Da 0 a;refine .inl ⟨0+j,_,h1,?_⟩;have:=KX h2;rw[qU,Fd,if_pos a];exact this;refine .inr ⟨ET 0 a,?_⟩;rw[Fd,if_neg a];simp[FC]
def AF.all(h:AF):List Int:=h.I::(h.Y.map (·.rev)++h.Z.map (·.rev))
theorem YI(a:AF)(r:a.D)(out:List Int){H:Hp}{n p s:Nat}(hp:H p=some (.cells [.map s]))(g:H s=some (.map (FC out))):
 BL prog 137 [a.e,.ptr p 0] H n (λv h' n'=>v=.tup []/\h'=h_ H s (some (.map (FC (BU out a.all))))/\n'=n):=by
 refine DO func137 rfl λf=>?_;have hpn:=(f p _ hp).1;have b:=(f s _ g).1;have q:p≠s:=by rintro rfl;rw[hp]at g;cases g
 have e1:p≠n:=by omega
 have e2:s≠n:=by omega
 have hsd:=r.Y;have hsl:=r.Z;have A:∀l:List Int,a.all=a.I::l->BU out a.all=BU (Fd out a.I) l:=λl e=>by rw[e];rfl
 refine By 2 [(1,.ptr p 0),(2,.q a.g)] H (λm=>m=n+1) ?_ (λm z=>?_);simp[go_sem,AF.e,IO];exact⟨AZ (f.none (qa n)) (by simp[AD]),AR f (qa _) AC⟩;subst z;refine By 1 [(1,.ptr p 0),(2,.q a.g)] (h_ H s (some (.map (FC (Fd out a.I))))) (λm=>m=n+1) ?_ (λm z=>?_);rcases To out a.I with⟨i,v,h1,h2⟩|⟨h1,h2⟩<;>simp[go_sem,AF.g,hp,g,h1,h2,Cc];subst z;refine AJ ?_;simp[go_sem,AF.g];refine Av 1 (α:=Nat) (λi=>[(1,.ptr p 0),(2,.q a.g),(13,Ax a.Y),(14,AA a.Y.length),(15,AA i)]) (λi=>h_ H s (some (.map (FC (BU (Fd out a.I) ((a.Y.take i).map (·.rev)))))))
  (λi m=>i<=a.Y.length/\n<m) (λi=>a.Y.length-i) 0 ?_ ?_ ?_ ?_
 exact⟨qg _,qY n⟩;simp[Ao,AF.g];exact AC;rintro i m ⟨hi,d⟩;have u:p≠m:=by omega
 have w:s≠m:=by omega
 by_cases c:i<a.Y.length
 . have w1:=wS i (by omega);obtain⟨x,t⟩:∃x,a.Y[i]=x:=⟨_,rfl⟩
   have b:BU (Fd out a.I) ((a.Y.take (i+1)).map (·.rev))=Fd (BU (Fd out a.I) ((a.Y.take i).map (·.rev))) x.rev:=by
    rw[qb c,t,qc,CR];rfl
   generalize BU (Fd out a.I) ((a.Y.take i).map (·.rev))=o2 at b ⊢;rcases To o2 x.rev with⟨k,v,h1,h2⟩|⟨h1,h2⟩<;>simp[go_sem,AF.g,c,t,Bs.e,hp,h1,h2,Cc,w1,AD,AE,u,w,q,-Int.natCast_add]
   all_goals
    refine⟨i+1,by omega,⟨by omega,by omega⟩,IO,?_⟩;rw[<-vp,b];intro j y;have:=f j y;simp only[h_];grind
 . have:i=a.Y.length:=by omega
   subst this;rw[qm];generalize B:BU (Fd out a.I) (a.Y.map (·.rev))=out1;simp[go_sem,AF.g];refine Av 1 (α:=Nat) (λi=>[(1,.ptr p 0),(2,.q a.g),(25,Ai a.Z),(26,AA a.Z.length),(27,AA i)]) (λi=>h_ H s (some (.map (FC (BU out1 ((a.Z.take i).map (·.rev)))))))
    (λi m=>i<=a.Z.length/\n<m) (λi=>a.Z.length-i) 0 ?_ ?_ ?_ ?_
   exact⟨qg _,d⟩;simp[Ao,AF.g];exact AC;clear hi d u w m c;rintro i m ⟨hi,d⟩;have u:p≠m:=by omega
   have w:s≠m:=by omega
   by_cases c:i<a.Z.length
   . have w1:=wS i (by omega);obtain⟨x,t⟩:∃x,a.Z[i]=x:=⟨_,rfl⟩
     have b:BU out1 ((a.Z.take (i+1)).map (·.rev))=Fd (BU out1 ((a.Z.take i).map (·.rev))) x.rev:=by
      rw[qb c,t,qc,CR];rfl
     generalize BU out1 ((a.Z.take i).map (·.rev))=o2 at b ⊢;rcases To o2 x.rev with⟨k,v,h1,h2⟩|⟨h1,h2⟩<;>simp[go_sem,AF.g,c,t,AM.e,hp,h1,h2,Cc,w1,AD,AE,u,w,q,-Int.natCast_add]
     all_goals
      refine⟨i+1,by omega,⟨by omega,by omega⟩,IO,?_⟩;rw[<-vp,b];intro j y;have:=f j y;simp only[h_];grind
   have:i=a.Z.length:=by omega
   subst this;rw[qm];simp[go_sem,AF.g];have h:BU out1 (a.Z.map (·.rev))=BU out a.all:=by
    rw[<-B,<-CR];exact(A _ rfl).symm
   rw[h];refine .inr ⟨0,.tup [],_,IO,by simp[cc,ca],λo x e=>⟨e,?_⟩,rfl,rfl,rfl⟩;have:=f o x;simp only[h_]at e;split at e;subst_vars;cases e;refine⟨b,?_⟩;simp[BW,FC,cc];exact this e
mutual
def AB.us:AB->List Int
 | .mk k _ _ _ h f r=>h.all++(if k=6 then AB.U f else if k=7 then AP.U r else[])
def AB.U:List AB->List Int
 | []=>[]
 | x::l=>x.us++AB.U l
def AP.us:AP->List Int
 | .mk h c=>h.all++cr.U c
def AP.U:List AP->List Int
 | []=>[]
 | x::l=>x.us++AP.U l
def cr.us:cr->List Int
 | .mk _ h f=>h.all++AB.U f
def cr.U:List cr->List Int
 | []=>[]
 | x::l=>x.us++cr.U l
end
theorem AB.C6:∀a b:List AB,AB.U (a++b)=AB.U a++AB.U b
 | [],b=>by simp[AB.U]
 | x::a,b=>by rw[qx,AB.U,AB.C6 a b,AB.U,qj]
theorem AP.C6:∀a b:List AP,AP.U (a++b)=AP.U a++AP.U b
 | [],b=>by simp[AP.U]
 | x::a,b=>by rw[qx,AP.U,AP.C6 a b,AP.U,qj]
theorem cr.C6:∀a b:List cr,cr.U (a++b)=cr.U a++cr.U b
 | [],b=>by simp[cr.U]
 | x::a,b=>by rw[qx,cr.U,cr.C6 a b,cr.U,qj]
theorem Yr{H h':Hp}{n n' s:Nat}{y:Bb}(c:Gm H n)(a:s<n)(hc:BW n y=true)(b:∀j z,h_ H s (some y) j=some z->h' j=some z):
 CO n h' n' (.tup []) (λv h2 d=>v=.tup []/\h2=h_ H s (some y)/\d=n):=by
 refine .inr ⟨0,.tup [],_,IO,by simp[cc,ca],λo x e=>⟨b o x e,?_⟩,rfl,rfl,rfl⟩;simp only[h_]at e;split at e;subst_vars;cases e;exact⟨a,hc⟩;exact c o x e
theorem IJ(n:Nat)(out:List Int):BW n (.map (FC out))=true:=by simp[BW,FC,cc]
theorem iP:∀(N:Nat)(l:List AB),SizeOf.sizeOf l<N->l.length<=1048576->AB.G l->∀(out:List Int)(H:Hp)(n p s:Nat),H p=some (.cells [.map s])->H s=some (.map (FC out))->
 BL prog 138 [AK l,.fn (.func 137) [] [.ptr p 0]] H n (λv h' n'=>v=.tup []/\h'=h_ H s (some (.map (FC (BU out (AB.U l)))))/\n'=n):=by
 intro N
 induction N with
 | zero=>intro l h;omega
 | succ N ih=>
 intro l hN hl hs out H n p s hp A;refine gq func138 rfl λo=>?_;have hpn:=(o p _ hp).1;have T:=(o s _ A).1;have f:p≠s:=by rintro rfl;rw[hp]at A;cases A
 simp[go_sem];refine Av 1 (α:=Nat) (λi=>[(1,.fn (.func 137) [] [.ptr p 0]),(10,AK l),(11,AA l.length),(12,AA i)]) (λi=>h_ H s (some (.map (FC (BU out (AB.U (l.take i)))))))
  (λi m=>i<=l.length/\n<=m) (λi=>l.length-i) 0 ?_ ?_ ?_ ?_
 exact⟨qg _,qa n⟩;simp[Ao];intro j y;simp only[h_,vE,AB.U,BU,List.foldl_nil];grind;rintro i m ⟨hi,g⟩;have d:p≠m:=by omega
 have a:s≠m:=by omega
 by_cases u:i<l.length;have w1:=wS i (by omega);obtain⟨x,V⟩:∃x,l[i]=x:=⟨_,rfl⟩
 have C:x∈l:=by rw[<-V];exact qi u
 have b:=vq hs x C;have W:=EY b;have U:AB.U (l.take (i+1))=AB.U (l.take i)++x.us:=by
  rw[qb u,V,AB.C6];simp[AB.U]
 have K:BU out (AB.U (l.take (i+1)))=BU (BU out (AB.U (l.take i))) x.us:=by rw[U,CR]
 generalize BU out (AB.U (l.take i))=o2 at K ⊢;simp[go_sem,u,V,qw,AD];refine qP (by simpa[AF.e,AF.g]using YI x.H W.1 o2 (p:=p) (s:=s) (by simp[h_,d,f,hp]) (by simp[h_,a])) ?_;rintro v h' n' ⟨rfl,rfl,rfl⟩;have k:x.us=x.H.all++(if x.k=6 then AB.U x.W else if x.k=7 then AP.U x.R else[]):=by cases x;rfl
 by_cases k6:x.k=6;have J:x.W.length<=1048576/\AB.G x.W:=by cases x;rw[AB.D]at b;exact⟨b.2.2.1,b.2.2.2.2.1⟩
 simp[go_sem,AD,AE,a.symm,k6];refine qP (ih x.W (by have:=PG C;omega) J.1 J.2 (BU o2 x.H.all) _ _ p s (by simp[h_,d,f,hp]) (by simp[h_])) ?_;rintro v h' n' ⟨rfl,rfl,rfl⟩;simp[go_sem,w1,-Int.natCast_add];refine⟨i+1,by omega,⟨by omega,by omega⟩,IO,?_⟩;rw[K,k,if_pos k6,CR];intro j y;have:=o j y;simp only[h_];grind;by_cases k7:x.k=7;have X:x.R.length<=1048576/\AP.G x.R:=by cases x;rw[AB.D]at b;exact⟨b.2.2.2.1,b.2.2.2.2.2⟩
 rw[if_neg k6,if_pos k7]at k;simp[go_sem,AD,AE,a.symm,k7];generalize L:BU o2 x.H.all=o3;refine Av 1 (α:=Nat) (λq=>[(1,.fn (.func 137) [] [.ptr p 0]),(10,AK l),(11,AA l.length),(12,AA i),(31,Aw x.R),(32,AA x.R.length),(33,AA q)]) (λq=>h_ H s (some (.map (FC (BU o3 (AP.U (x.R.take q)))))))
  (λq m=>q<=x.R.length/\n<=m) (λq=>x.R.length-q) 0 ?_ ?_ ?_ ?_
 exact⟨qg _,by omega⟩;simp[Ao];intro j y;have:=o j y;simp only[h_,vE,AP.U,BU,List.foldl_nil];grind;clear d a g m;rintro q m ⟨hq,g⟩;have d:p≠m:=by omega
 have a:s≠m:=by omega
 by_cases z:q<x.R.length;have w2:=wS q (by omega);obtain⟨r,Q⟩:∃r,x.R[q]=r:=⟨_,rfl⟩
 have G:r∈x.R:=by rw[<-Q];exact qi z
 have I:=AP.qR X.2 r G;have R:AP.U (x.R.take (q+1))=AP.U (x.R.take q)++r.us:=by
  rw[qb z,Q,AP.C6];simp[AP.U]
 have Y:BU o3 (AP.U (x.R.take (q+1)))=BU (BU o3 (AP.U (x.R.take q))) r.us:=by rw[R,CR]
 have S:r.us=r.H.all++cr.U r.cells:=by cases r;rfl
 have F:r.H.D/\r.cells.length<=1048576/\cr.G r.cells:=by cases r;rw[AP.D]at I;exact I
 generalize BU o3 (AP.U (x.R.take q))=o4 at Y ⊢;simp[go_sem,z,Q,Yw,AD];refine qP (by simpa[AF.e,AF.g]using YI r.H F.1 o4 (p:=p) (s:=s) (by simp[h_,d,f,hp]) (by simp[h_,a])) ?_;rintro v h' n' ⟨rfl,rfl,rfl⟩;simp[go_sem,AD,AE,a.symm];generalize M:BU o4 r.H.all=o5;refine Av 1 (α:=Nat) (λw=>[(1,.fn (.func 137) [] [.ptr p 0]),(10,AK l),(11,AA l.length),(12,AA i),(31,Aw x.R),(32,AA x.R.length),(33,AA q),(42,BZ r.cells),(43,AA r.cells.length),(44,AA w)]) (λw=>h_ H s (some (.map (FC (BU o5 (cr.U (r.cells.take w)))))))
  (λw m=>w<=r.cells.length/\n<=m) (λw=>r.cells.length-w) 0 ?_ ?_ ?_ ?_
 exact⟨qg _,by omega⟩;simp[Ao];intro j y;have:=o j y;simp only[h_,vE,cr.U,BU,List.foldl_nil];grind;clear d a g m;rintro w m ⟨hw,g⟩;have d:p≠m:=by omega
 have a:s≠m:=by omega
 by_cases B:w<r.cells.length;have w3:=wS w (by omega);obtain⟨c,hc⟩:∃c,r.cells[w]=c:=⟨_,rfl⟩
 have D:c∈r.cells:=by rw[<-hc];exact qi B
 have E:=Sb F.2.2 c D;have O:cr.U (r.cells.take (w+1))=cr.U (r.cells.take w)++c.us:=by
  rw[qb B,hc,cr.C6];simp[cr.U]
 have Z:BU o5 (cr.U (r.cells.take (w+1)))=BU (BU o5 (cr.U (r.cells.take w))) c.us:=by rw[O,CR]
 have P:c.us=c.H.all++AB.U c.W:=by cases c;rfl
 have t:c.H.D/\c.W.length<=1048576/\AB.G c.W:=by cases c;rw[cr.D]at E;exact E
 generalize BU o5 (cr.U (r.cells.take w))=o6 at Z ⊢;simp[go_sem,B,hc,Us,AD];refine qP (by simpa[AF.e,AF.g]using YI c.H t.1 o6 (p:=p) (s:=s) (by simp[h_,d,f,hp]) (by simp[h_,a])) ?_;rintro v h' n' ⟨rfl,rfl,rfl⟩;simp[go_sem,AD,AE,a.symm];refine qP (ih c.W (by have:=O4 C G D;omega) t.2.1 t.2.2 (BU o6 c.H.all) _ _ p s (by simp[h_,d,f,hp]) (by simp[h_])) ?_;rintro v h' n' ⟨rfl,rfl,rfl⟩;simp[go_sem,w3,-Int.natCast_add];refine⟨w+1,by omega,⟨by omega,by omega⟩,IO,?_⟩;rw[Z,P,CR];intro j y;have:=o j y;simp only[h_];grind;have:w=r.cells.length:=by omega
 subst this;rw[qm];simp[go_sem,w2,-Int.natCast_add];refine⟨q+1,by omega,⟨by omega,by omega⟩,IO,?_⟩;rw[Y,S,CR,M];exact AC;have:q=x.R.length:=by omega
 subst this;rw[qm];simp[go_sem,w1,-Int.natCast_add];refine⟨i+1,by omega,⟨by omega,by omega⟩,IO,?_⟩;rw[K,k,CR,L];exact AC;simp[go_sem,AD,AE,a.symm,k6,k7,w1,-Int.natCast_add];refine⟨i+1,by omega,⟨by omega,by omega⟩,IO,?_⟩;rw[K,k,if_neg k6,if_neg k7,JP];intro j y;have:=o j y;simp only[h_];grind;have:i=l.length:=by omega
 subst this;rw[qm];simp[go_sem];exact Yr o T (IJ _ _) λ_ _ e=>e
section
variable{P:Program}{E:CC}{evs:Operand->SV}{o:Oper}{h:Hp}{n:Nat}{K:SV->Hp->Nat->Prop}
theorem Kt{α:Type}(f:α->Nat):∀(L:List α),(L.map f).Nodup->∀(i:Nat)(hi:i<L.length),L.filter (λx=>f x !=f L[i])=L.eraseIdx i
 | a :: L, hn, 0, hi => by
  rw[qr,vd]at hn;rw[List.filter_cons];simp only[List.getElem_cons_zero,bne_self_eq_false,qn,if_false,List.eraseIdx_cons_zero];exact UF.2 λx c=>by
   simp only[bne_iff_ne,ne_eq];intro e;exact hn.1 (e▸ql.2 ⟨x,c,rfl⟩)
 | a :: L, hn, i + 1, hi => by
  rw[qr,vd]at hn;rw[List.filter_cons];simp only[vB,List.eraseIdx_cons_succ];have b:(f a !=f (L[i]'(by simpa using hi)))=true:=by
   simp only[bne_iff_ne,ne_eq];intro e;exact hn.1 (e▸ql.2 ⟨_,qi _,rfl⟩)
  rw[if_pos b,Kt f L hn.2 i (by simpa using hi)]
theorem Lv{t:TypeId}{x:Operand}{m:Nat}{es:List (SV×SV)}(A:o.op=.range t x)(ht:(Mk P t).isSome=true)(L:evs x=.map m)(z:h m=some (.map es))
 (H:K (.ptr n 0) (h_ (h_ h m none) n (some (.iter es none))) (n+1)):DS E P evs o h n K:=by
 refine⟨by rw[A];simp,λc ev _ _ R F J=>?_⟩;have l:=J x;rw[L,V]at l;obtain⟨f,hρ,s⟩:=l;obtain⟨b',d,a,y,r,g3,D⟩:=R.obj _ _ z;rw[hρ]at y;cases y;obtain⟨⟨kt,e⟩,ht⟩:=X6.1 ht;have I:=Ep ht;have u:(getObj f).run P c.w=.ok (.map d a) c.w:=by simp[getObj,Sem.run,r]
 have k:(execOp ev o).run P c.w=.ok (.value (.pointer (some ⟨c.w.heap.size,0,none⟩))) (c.w.alloc (.mapIter (some f) a #[] a)):=by
  simp[execOp,A,Instr.range,AN I,s,u]
 have B:=R.kill m z;have i:(c.kill m).ρ n=none:=F n (qa _);have p:=c.kill_ext m;have v:f<c.w.heap.size:=(qp.1 r).1;have q:=(c.kill m).CZ n (.mapIter (some f) a #[] a) i;have C:=B.alloc i (x:=.iter es none) (b:=.mapIter (some f) a #[] a) ⟨c.w.heap.size,f,d,a,#[],by simp[Cx.alloc,Cx.kill],by simp[Cx.alloc,Cx.kill,Bu],
  by simp[Cx.alloc,Cx.kill,Bu,Xk,vM v,r],by
   simp only[Cx.alloc,Cx.kill];rintro(h1|h1);exact h1.2 0 hρ;omega,D,by
   have:(d.toList.filter λe=>!(#[]:Array Nat).contains e.born)=d.toList:=UF.2 λ_ _=>by simp
   rw[this];exact wv (λ_ _ g=>⟨wc (p.trans q) g.1,wc (p.trans q) g.2⟩) g3,by simp⟩
 refine⟨_,.ptr n 0,_,n+1,(c.kill m).alloc n (.mapIter (some f) a #[] a),by rw[k];rfl,?_,C,λj G=>?_,⟨p.trans q,Zc n,λj G=>?_⟩,H⟩;rw[V];exact⟨c.w.heap.size,0,by simp[Cx.alloc,Cx.kill],rfl⟩;simp only[Cx.alloc,Cx.kill];rw[if_neg (by omega)];exact F j (by omega);simp only[Cx.alloc,Cx.kill];rw[if_neg (by omega)]
theorem Pc{x:Operand}{q:Nat}{left:List (SV×SV)}{p:SV×SV}(v:o.op=.entry x)(G:evs x=.ptr q 0)(C:h q=some (.iter left (some p)))
 (B:K (.tup [p.1,p.2]) h n):DS E P evs o h n K:=by
 refine⟨by rw[v];simp,λc ev _ _ R F D=>?_⟩;have i:=D x;rw[G,V]at i;obtain⟨b,st,hρ,m⟩:=i;obtain⟨b',t,f,d,j,u,z,g3,g4,A,g6,g7⟩:=R.obj _ _ C;rw[hρ]at u;cases u;obtain⟨e,H,I,k3,J⟩:=g7 p rfl;have s:(getObj b).run P c.w=.ok (.mapIter (some t) d j d) c.w:=by simp[getObj,Sem.run,z]
 have r:(getObj t).run P c.w=.ok (.map f d) c.w:=by simp[getObj,Sem.run,g3]
 have g:f.find? (λy=>y.born==e.born)=some e:=by
  rw[<-Array.find?_toList];have:∀l:List MapEntry,(l.map (·.born)).Nodup->e∈l->l.find? (λy=>y.born==e.born)=some e:=by
   intro l
   induction l with
   | nil=>intro _ h;cases h
   | cons a l ih=>
    intro hn k;rw[qr,vd]at hn;rw[List.find?_cons];rcases qt.1 k with rfl|k;simp;have:(a.born==e.born)=false:=by
     simp only[beq_eq_false_iff_ne,ne_eq];intro h2;exact hn.1 (h2▸ql.2 ⟨e,k,rfl⟩)
    rw[this];exact ih hn.2 k
  exact this _ A.2 H
 refine⟨.tuple #[e.key,e.val],.tup [p.1,p.2],h,n,c,?_,by simp only[V,VL];exact⟨_,rfl,_,_,rfl,k3,_,_,rfl,J,rfl⟩,R,F,vm n c,B⟩;simp[execOp,v,Instr.entry,m,s,I,r,g]
theorem OG{x:Operand}{q:Nat}{left:List (SV×SV)}{last:Option (SV×SV)}(ho:o.op=.next x false)(hx:evs x=.ptr q 0)(hq:h q=some (.iter left last))
 (hk:∀(i:Nat)(hi:i<left.length),K (.tup [.bool true,left[i].1,left[i].2]) (h_ h q (some (.iter (left.eraseIdx i) (some left[i])))) n) (h0:left=[]->K (.tup [.bool false]) h n):DS E P evs o h n K:=by
 refine⟨by rw[ho];simp,λc ev _ _ R F hv=>?_⟩;have hvx:=hv x;rw[hx,V]at hvx;obtain⟨b,st,hρ,hev⟩:=hvx;obtain⟨b',bm,ents,clock,seen,g1,g2,g3,g4,g5,g6,g7⟩:=R.obj _ _ hq;rw[hρ]at g1;cases g1;have hgo:(getObj b).run P c.w=.ok (.mapIter (some bm) clock seen clock) c.w:=by simp[getObj,Sem.run,g2]
 have hgm:(getObj bm).run P c.w=.ok (.map ents clock) c.w:=by simp[getObj,Sem.run,g3]
 have hgone:(!seen.isEmpty && !ents.isEmpty&&ents.all λy=>decide (y.born ≥ clock))=false:=by
  cases he:ents.isEmpty with
  | true=>simp
  | false =>
   have hne:0<ents.size:=by rcases Nat.eq_zero_or_pos ents.size with h|h;simp[Array.isEmpty,h]at he;exact h
   have:(ents.all λy=>decide (y.born ≥ clock))=false:=by
    rw[Array.all_eq_false];refine⟨0,hne,?_⟩;have:=g5.1 ents[0] (by simp);simp;exact this
   simp[this]
 generalize hL:ents.filter (λy=>!seen.contains y.born)=L;have hLl:L.toList=ents.toList.filter λe=>!seen.contains e.born:=by rw[<-hL];simp
 have BV:L.filter (λy=>decide (y.born<clock))=L:=by
  apply Array.ext';rw[Array.toList_filter];exact UF.2 λy hy=>by
   rw[hLl]at hy;simpa using g5.1 y (Kq.1 hy).1
 have hnew:L.filter (λy=>decide (y.born ≥ clock)) = #[]:=by
  apply Array.ext';rw[Array.toList_filter];exact List.filter_eq_nil_iff.2 λy hy=>by
   rw[hLl]at hy;simpa using g5.1 y (Kq.1 hy).1
 rw[<-hLl]at g6;have hlen:left.length=L.size:=by have:=g6.length;simpa using this
 by_cases hz:L.size=0
 . have hl0:left=[]:=vu (by omega);have hL0:L = #[]:=Array.eq_empty_of_size_eq_zero hz;refine⟨.tuple #[.bool false],.tup [.bool false],h,n,c,?_,by simp[V,VL],R,F,vm n c,h0 hl0⟩;subst hL0;simp only[execOp,ho,Instr.next,hev,UO,Sem.run_bind,Sem.run_pure,hgo,Result.andThen_ok,hgm,hgone,qn,if_false,hL,BV,hnew];simp[Question.forced]
 . have hch:∃i w1,(choose (.mapNext L.size)).run P c.w=.ok i w1/\i<L.size/\(w1=c.w\/w1=c.w.drew):=by
    rw[run_choose_drew];by_cases hf:(Question.mapNext L.size).forced=true;rw[if_pos hf];exact⟨0,_,rfl,by omega,.inl rfl⟩;rw[if_neg hf];exact⟨_,_,rfl,Nat.mod_lt _ (by omega),.inr rfl⟩
   obtain⟨i,w1,hch,hi,hw1⟩:=hch;obtain⟨c1,hc1,X1,R1,F1,hρ1⟩:∃c1:Cx,c1.w=w1/\EH c c1/\CF h c1/\Fr n c1/\c1.ρ=c.ρ:=by
    rcases hw1 with rfl|rfl;exact⟨c,rfl,wp c,R,F,rfl⟩;exact⟨c.drew,rfl,c.c_,R.drew,λj hj=>F j hj,rfl⟩
   subst hc1;have hh1:c1.w.heap=c.w.heap:=by rcases hw1 with e|e<;>rw[e]<;>rfl
   have hil:i<left.length:=by omega
   obtain⟨e,he,hr1,hr2⟩:=g6.get (i:=i) (a:=left[i]) (by simp[hil]);have heL:L[i]? = some e:=by simpa using he
   have hemem:e∈ents.toList:=by
    have:=U1 he;rw[hLl]at this;exact(Kq.1 this).1
   have hisE:L.isEmpty=false:=by cases hb:L.isEmpty with|false=>rfl|true=>(simp at hb;subst hb;simp at hz)
   have hblt:b<c.w.heap.size:=(qp.1 g2).1;have hset':∀ob:Obj,(setObj b ob).run P c1.w=.ok () { c1.w with heap:=c1.w.heap.setIfInBounds b ob }:=λob=>by simp[setObj,Sem.run,hh1,g2]
   have hrun:(execOp ev o).run P c.w=.ok (.value (.tuple #[.bool true,e.key,e.val])) { c1.w with heap:=c1.w.heap.setIfInBounds b (.mapIter (some bm) clock (seen.push e.born) clock) }:=by
    have hcand:((if L.isEmpty then #[none]else #[])++(L ++ #[]).map some:Array (Option MapEntry))=L.map some:=by simp[hisE]
    simp only[execOp,ho,Instr.next,hev,UO,Sem.run_bind,Sem.run_pure,hgo,Result.andThen_ok,hgm,hgone,qn,if_false,hL,BV,hnew,hcand,Array.size_map,hch];simp[heL,hset']
   have hbm:bm≠b:=by rintro rfl;rw[g2]at g3;cases g3
   obtain⟨R2,X2⟩:=R1.write (w':={ c1.w with heap:=c1.w.heap.setIfInBounds b (.mapIter (some bm) clock (seen.push e.born) clock) }) (y:=.iter (left.eraseIdx i) (some left[i])) hq (by rw[hρ1];exact hρ) (by simp)
    (λb' hb'=>by simp[XA (Ne.symm hb')]) (by simp[rm,hh1,g2]) rfl rfl (λX=>by
      have XX:=X1.trans X;refine⟨b,bm,ents,clock,seen.push e.born,by show c1.ρ q=_;rw[hρ1];exact hρ,by simp[hh1,hblt],?_,?_,g5,?_,?_⟩;show(c1.w.heap.setIfInBounds b _)[bm]? = _;rw[XA hbm.symm,hh1];exact g3;exact λhb=>(XX.keep bm (qp.1 g3).1 g4).1 hb;have hnd:(L.toList.map (·.born)).Nodup:=by rw[hLl];exact g5.2.sublist (List.filter_sublist.map _)
      have hee:L.toList[i]'(by simpa using hi)=e:=by
       have:=(qh.1 he).2;exact this
      have h1:=Kt (λx:MapEntry=>x.born) L.toList hnd i (by simpa using hi);rw[hee]at h1;have h2:(ents.toList.filter λx=>!(seen.push e.born).contains x.born)=L.toList.filter λx=>x.born !=e.born:=by
       rw[hLl,List.filter_filter];congr 1;funext x;by_cases hx:x.born=e.born<;>simp[hx]
      rw[h2,h1];exact wv (λ_ _ g=>⟨wc XX g.1,wc XX g.2⟩) (Ag.eraseIdx i g6);intro p hp;cases hp;exact⟨e,hemem,by simp,wc XX hr1,wc XX hr2⟩)
   exact⟨_,.tup [.bool true,left[i].1,left[i].2],_,n,_,hrun,by
    have XX:=X1.trans X2;simp only[V,VL];exact⟨_,rfl,_,_,rfl,rfl,_,_,rfl,wc XX hr1,_,_,rfl,wc XX hr2,rfl⟩,R2,λj hj=>F1 j hj,⟨X1.trans X2,qa _,λj _=>by show c1.ρ j=_;rw[hρ1]⟩,hk i hil⟩
end
structure YK(E:CC)(l:Nat)(ks0:List Int)(J:List Int->(Nat->Prop)->Hp->Nat->Prop):Prop where
 step:∀ks x D h m,(∃rest,(ks++[x]++rest).Perm ks0)->J ks D h m->FV E prog l [AA x] h m (HN (J (ks++[x])) (λ_ _ _=>False) D h m)
 keep:∀ks D h m h' m',J ks D h m->m<=m'->(∀o,D o->h' o=h o)->J ks D h' m'
 lt:∀ks D h m,J ks D h m->∀o,D o->o<m
theorem IE{α β:Type}(f:α->β):∀(l:List α)(i:Nat),(l.eraseIdx i).map f=(l.map f).eraseIdx i
 | [],_=>by simp
 | a::l,0=>by simp
 | a::l,i+1=>by simp[IE f l i]
theorem MP{α:Type}:∀(l:List α)(i:Nat)(hi:i<l.length),(l[i]::l.eraseIdx i).Perm l
 | a::l,0,_=>by simp
 | a::l,i+1,hi=>by
  have b:=MP l i (by simpa using hi);simp only[vB,List.eraseIdx_cons_succ];exact(List.Perm.swap _ _ _).trans (b.cons a)
theorem N5{c b a:List Int}(h:(c++b).Perm a){i:Nat}(hi:i<b.length):(c++[b[i]]++b.eraseIdx i).Perm a:=by
 refine List.Perm.trans ?_ h;rw[qj];refine List.Perm.append_left c ?_;exact MP b i hi
section
variable{E:CC}{yl:Nat}{J:List Int->(Nat->Prop)->Hp->Nat->Prop}
theorem fV{d:List Int}(Y:YK E yl d J)(es:List (SV×SV))(Q:es.map (·.1)=d.map AA){H:Hp}{n q s:Nat}{D:Nat->Prop}(M:H q=some (.cells [.map s]))(N:H s=some (.map es))(B:¬D s)(K:J [] D H n):
 Ap E prog 198 [.fn (.yield yl) [] [],.ptr q 0] H n (λ_ h' m'=>∃k D',k.Perm d/\n<=m'/\(∀o,D' o->D o\/(n<=o/\o<m'))/\(∀o,¬D o->o<n->o≠s->h' o=H o)/\J k D' h' m'):=by
 refine gq func198 rfl λL=>?_;have hqn:=(L q _ M).1;have hsn:=(L s _ N).1;have r:=Y.lt _ _ _ _ K;simp[go_sem,M];refine Lv (m:=s) (es:=es) rfl (by simp[go_sem]) (by simp[go_sem]) N ?_;simp[go_sem];refine Av 1 (α:=(List Int×List Int)×(List (SV×SV)×Option (SV×SV))×(Nat->Prop)×Hp) (λa=>[(0,.fn (.yield yl) [] []),(5,.ptr n 0)]) (λa=>a.2.2.2)
  (λa m=>n<m/\a.2.2.2 n=some (.iter a.2.1.1 a.2.1.2)/\a.2.1.1.map (·.1)=a.1.2.map AA/\(a.1.1++a.1.2).Perm d/\J a.1.1 a.2.2.1 a.2.2.2 m/\(∀o,a.2.2.1 o->D o\/(n<o/\o<m))/\(∀o,¬D o->o<n->o≠s->a.2.2.2 o=H o)) (λa=>a.1.2.length)
  (([],d),(es,none),D,h_ (h_ H s none) n (some (.iter es none))) ?_ ?_ AC ?_
 refine⟨qY n,AD _ _ _,Q,List.Perm.refl _,Y.keep _ _ _ _ _ _ K (Zc n) λo g=>?_,λo g=>.inl g,λo z I g3=>?_⟩;have:=r o g;show h_ (h_ H s none) n _ o=H o;rw[AE _ _ (by omega),AE _ _ (by rintro rfl;exact B g)];show h_ (h_ H s none) n _ o=H o;rw[AE _ _ (by omega),AE _ _ g3];simp[Ao];rintro⟨⟨k,j⟩,⟨left,last⟩,y,h2⟩ m ⟨G,u,f,b,h,c,BV⟩;dsimp only at u f b h c BV ⊢;have x:¬y n:=λg=>by rcases c n g with g|g;have:=r n g;omega;omega
 have F:left.length=j.length:=by have:=congrArg List.length f;simpa using this
 simp[go_sem];refine OG (q:=n) (left:=left) (last:=last) rfl (by simp[go_sem]) u (λi hi=>?_) λh0=>?_;have e:i<j.length:=by omega
 have R:left[i].1=AA j[i]:=by
  have:=congrArg (λl=>l[i]?) f;simpa[hi,e]using this
 simp[go_sem];refine Pc (q:=n) (left:=left.eraseIdx i) (p:=left[i]) rfl (by simp[go_sem]) (AD _ _ _) ?_;simp[go_sem,R];refine FV.mono (Y.step k j[i] y _ _ ⟨_,N5 b e⟩ (Y.keep _ _ _ _ _ _ h (qa m) λo g=>AE _ _ (by rintro rfl;exact x g))) ?_;rintro v P m3 ⟨hm3,O,A,t,⟨rfl,C⟩|⟨_,C⟩⟩;simp[go_sem];refine⟨k++[j[i]],j.eraseIdx i,by rw[List.length_eraseIdx];simp[e];omega,left.eraseIdx i,some left[i],O,P,⟨by omega,?_,?_,?_,C,λo g=>?_,λo z I g3=>?_⟩,AC⟩;rw[t n x G];exact AD _ _ _;rw[IE,IE,f];exact N5 b e;rcases A o g with g|g;rcases c o g with g|g;exact .inl g;exact .inr (by omega);exact .inr (by omega);have:¬y o:=λg=>by rcases c o g with g|g;exact z g;omega
 rw[t o this (by omega),AE _ _ (by omega)];exact BV o z I g3;exact C.elim;have w:j=[]:=vu (by rw[<-F,h0];rfl);subst w;simp[go_sem];refine .inl ⟨k,by simpa using b,by omega,y,λo g=>?_,BV,h⟩;rcases c o g with g|g;exact .inl g;exact .inr (by omega)
end
theorem ia(es:List (SV×SV))(d:List Int)(N:es.map (·.1)=d.map AA)(hlen:d.length<=1048576){H:Hp}{n q s:Nat}(E:H q=some (.cells [.map s]))(u:H s=some (.map es)):
 BL prog 260 [.i 0 [] true,.fn (.func 198) [] [.ptr q 0]] H n (λv h' n'=>∃a:List Int,a.Perm d/\Qo 1 (a.map AA) (h_ H s none) n v h' n'):=by
 refine jE func260 rfl (by kernel_rfl) (by kernel_rfl) (by simp[go_sem]) λC B=>?_;have hqn:=(C q _ E).1;have hsn:=(C s _ u).1;have hqs:q≠s:=by rintro rfl;rw[E]at u;cases u
 simp[go_sem];refine Et rfl rfl rfl λE1 l R L=>?_;let J:List Int->(Nat->Prop)->Hp->Nat->Prop:=λa D f m=>∃o:Option Nat,D=(λj=>j=n\/j=n+1\/o=some j)/\n+1<m/\f n=some (.cells [AW 1 o (a.map AA)])/\f (n+1)=some (.loop (R .ready none))/\BR (n+2) m 1 o (a.map AA)/\∀j,o=some j->f j=some (.cells (a.map AA));have Y:YK E1 l d J:=by
  refine⟨?_,?_,?_⟩
  . rintro a x D f m ⟨rest,hp⟩ ⟨o,A,z,b,c,g3,k⟩;have hkl:a.length+1<=1048576:=by have:=hp.length_eq;simp at this;omega
    refine L _ _ _ _ c rfl (Je ?_);have F:n≠m:=by omega
    have e2:n+1≠m:=by omega
    have G:n≠m+1:=by omega
    have r:∀j,o=some j->n+2<=j/\j<m:=λj e=>g3.lt j e;simp[go_sem,J0,AE,b,c];rw[Mq (x:=x) g3 (by omega) (by simp[h_]) (by
     intro j e;have:=r j e;have:=k j e;simp only[h_];grind)]
    have done:∀(i:Hp)(w:Nat),w=m+1->(∀j,¬(j=n\/j=n+1\/o=some j)->j<m->i j=f j)->i n=some (.cells [.sl w 0 1 (a.length+1) false])->i w=some (.cells (a.map AA++[AA x]))->i (n+1)=some (.loop (R .busy none))->
     ∀sa,Hg (n+1) R (HN (J (a++[x])) (λ_ _ _=>False) D f m) .normal sa i (m+1+1):=by
     rintro i w rfl O P Q k3 sa;subst A;refine⟨k3,by omega,λj=>j=n\/j=n+1\/some (m+1)=some j,λj g=>?_,λj b c=>?_,.inl ⟨rfl,some (m+1),rfl,by omega,?_,AD _ _ _,?_,λj e=>?_⟩⟩;rcases g with g|g|g;exact .inl (.inl g);exact .inl (.inr (.inl g));cases g;exact .inr (by omega);rw[AE _ _ (λe=>b (.inr (.inl e)))];exact O j b c;rw[AE _ _ (by omega),P];simp[AW];rw[qc];exact g3.push rfl rfl (by omega) (by omega);cases e;rw[AE _ _ (by omega),Q,qc];rfl
    cases o with
    | none=>
     simp[go_sem,AE,b,F,G,AW];refine done _ _ rfl (λj h1 h2=>?_) ?_ ?_ ?_ _;simp only[h_];grind;simp only[h_];grind;simp only[h_];grind;simp only[h_];grind
    | some j=>
     have hj:=r j rfl;have K:n≠j:=by omega
     simp[go_sem,AE,b,F,K,G,AW];refine done _ _ rfl (λj h1 h2=>?_) ?_ ?_ ?_ _;simp only[h_];grind;simp only[h_];grind;simp only[h_];grind;simp only[h_];grind
  rintro a D f m h' m' ⟨o,rfl,z,b,c,g3,k⟩ I t;exact⟨o,rfl,by omega,by rw[t _ (.inl rfl)];exact b,by rw[t _ (.inr (.inl rfl))];exact c,g3.mono I,λj e=>by rw[t _ (.inr (.inr e))];exact k j e⟩;rintro a D f m ⟨o,rfl,z,b,c,g3,k⟩ j (rfl|rfl|e);omega;omega;exact(g3.lt j e).2
 refine we (fV Y es N (D:=λj=>j=n\/j=n+1) (s:=s) ?_ ?_ ?_ ?_) ?_;simp[h_];rw[if_neg (by omega),if_neg (by omega)];exact E;simp[h_];rw[if_neg (by omega),if_neg (by omega)];exact u;omega;exact⟨none,by simp,by omega,by simp[h_,AW],by simp[h_],vA _ _ _,by simp⟩;rintro _ h' m' ⟨a,D',h,I,t,BV,o,rfl,z,b,c,g3,k⟩;refine⟨_,_,c,by simp,?_⟩;simp[go_sem,AE,b];refine .inl ⟨a,h,by omega,λj y e=>?_,?_⟩;have p:j≠s:=by rintro rfl;simp[h_]at e
 rw[AE _ _ p]at e;have:=(C j y e).1;rw[AE _ _ (by omega),BV j (by omega) (by omega) p,AE _ _ (by omega),AE _ _ (by omega),e];cases o with
 | none=>
  have M:=g3.none rfl;exact .inl ⟨M,0,true,rfl⟩
 | some j=>
  have:=g3.lt j rfl;exact .inr ⟨j,false,by omega,by omega,by simp[AW],by rw[AE _ _ (by omega),EU];exact k j rfl⟩
theorem iT(es:List (SV×SV))(a:List Int)(d:es.map (·.1)=a.map AA)(b:a.length<=1048576){H:Hp}{n q s:Nat}(e:H q=some (.cells [.map s]))(f:H s=some (.map es)):
 BL prog 196 [.fn (.func 198) [] [.ptr q 0]] H n (λv h' n'=>∃c:List Int,c.Perm a/\Qo 1 (c.map AA) (h_ H s none) n v h' n'):=by
 refine gq func196 rfl λho=>?_;simp[go_sem];refine qP (ia es a d b e f) ?_;rintro v h' n' ⟨c,hp,hn⟩;simp[go_sem];exact .inl ⟨c,hp,hn⟩
theorem ON{a b:List Int}(h:a.Perm b):C9 a=C9 b:=by
 have c:∀x y z:Int,decide (x<=y)=true->decide (y<=z)=true->decide (x<=z)=true:=λx y z h1 h2=>by simp only[decide_eq_true_eq]at *;exact Int.le_trans h1 h2
 have to:∀x y:Int,(decide (x<=y)||decide (y<=x))=true:=λx y=>by simp only[vJ,decide_eq_true_eq];exact Int.le_total x y
 refine List.Perm.eq_of_pairwise (le:=λx y=>decide (x<=y)=true) (λx y _ _ h1 h2=>?_) (List.pairwise_mergeSort c to a) (List.pairwise_mergeSort c to b) (((List.mergeSort_perm a _).trans h).trans (List.mergeSort_perm b _).symm);simp only[decide_eq_true_eq]at h1 h2;exact Int.le_antisymm h1 h2
theorem iQ(es:List (SV×SV))(a:List Int)(p:es.map (·.1)=a.map AA)(c:a.length<=1048576){H:Hp}{n q s:Nat}(r:H q=some (.cells [.map s]))(k:H s=some (.map es)):
 BL prog 139 [.fn (.func 198) [] [.ptr q 0]] H n (Qo 1 ((C9 a).map AA) (h_ H s none) n):=by
 refine gq func139 rfl λi=>?_;simp[go_sem];refine qP (iT es a p c r k) ?_;rintro v h' n' ⟨l,hp,b,BV,t⟩;have hkl:=hp.length_eq;rcases t with⟨h,m,full,rfl⟩|⟨o,full,h1,h2,rfl,g⟩
 simp[go_sem];refine(ZC m full).use ?_;simp[go_sem];simp only[List.map_eq_nil_iff]at h;subst h;have:a=[]:=by simpa using hp.symm
 subst this;exact .inl ⟨b,BV,.inl ⟨by simp[C9],m,full,rfl⟩⟩;simp[go_sem];rw[EU]at g;refine qP (cI l (by omega) g) ?_;rintro v h4 n4 ⟨rfl,rfl,rfl⟩;simp[go_sem];have hos:o≠s:=by have:=(i s _ k).1;omega
 refine .inl ⟨b,λj y e=>?_,.inr ⟨o,full,h1,h2,?_,?_⟩⟩;have d:j≠s:=by rintro rfl;simp[h_]at e
 have f:=e;rw[AE _ _ d]at f;have:=(i j y f).1;rw[AE _ _ (by omega)];exact BV j y e;have:(C9 a).length=l.length:=by rw[<-ON hp];exact XI _
 simp[this];rw[AD,ON hp,EU]
theorem cD{H:Hp}{n s:Nat}:BL prog 140 [.map s] H n (λv h' n'=>v=.fn (.func 198) [] [.ptr n 0]/\h'=h_ H n (some (.cells [.map s]))/\n'=n+1):=by
 refine gq func140 rfl λho=>?_;simp[go_sem];exact .inl ⟨rfl,rfl,rfl⟩
def Gc(d:AG):List Int:=C9 ((BU [] (AB.U d.W++d.T0.all)).filter λx=>decide (x≠0))
theorem Wv:∀{l:List Int} (x:Int),l.Nodup->∀(_i j:Nat),l[j]? = some x->(FC l).eraseIdx j=FC (l.filter λy=>decide (y≠x))
 | [],x,_,i,j,h=>by simp at h
 | a :: l, x, hn, i, 0, h => by
  rw[vd]at hn;simp only[vw,qk]at h;subst h;have:(a::l).filter (λy=>decide (y≠a))=l:=by
   rw[List.filter_cons];simp only[ne_eq,not_true,decide_false,qn,if_false];exact UF.2 λy e=>by simp only[decide_eq_true_eq];rintro rfl;exact hn.1 e
  rw[this];simp[FC]
 | a::l,x,hn,i,j+1,h=>by
  rw[vd]at hn;have c:l[j]? = some x:=by simpa using h
  have b:a≠x:=by rintro rfl;exact hn.1 (U1 c)
  have d:=Wv x hn.2 i j c;rw[List.filter_cons];simp only[ne_eq,b,not_false_eq_true,decide_true,if_true];simp only[FC,qr,List.eraseIdx_cons_succ]at d ⊢;rw[d]
theorem Ww{l:List Int}{x:Int}(h:x∉l):(l.filter λy=>decide (y≠x))=l:=UF.2 λy a=>by simp only[decide_eq_true_eq];rintro rfl;exact h a
theorem c74(d:AG)(hl:d.W.length<=1048576)(z:AB.G d.W)(u:d.T0.D)(A:(BU [] (AB.U d.W++d.T0.all)).length<=1048576):PC 74 [d.e] (.i 1 ((Gc d).map AA) false):=by
 intro h n;refine gq func74 rfl λi=>?_;have e1:n+1+1≠n:=by omega
 have e2:n+1≠n:=by omega
 have e3:n+1+1≠n+1:=by omega
 simp[go_sem,AG.e,AF.g,AI.g,AD,AE,qu];refine qP (iP (SizeOf.sizeOf d.W+1) d.W (qY _) hl z [] _ _ (n+2) (n+1) (by simp[h_]) (by simp[h_,FC])) ?_;rintro v h' n' ⟨rfl,rfl,rfl⟩;simp[go_sem,AD,AE];refine qP (by simpa[AF.e,AF.g]using YI d.T0 u (BU [] (AB.U d.W)) (p:=n+2) (s:=n+1) (by simp[h_]) (by simp[h_])) ?_;rintro v h' n' ⟨rfl,rfl,rfl⟩;rw[<-CR];have c:=J2 (AB.U d.W++d.T0.all) [] List.nodup_nil;have l:Gc d=C9 ((BU [] (AB.U d.W++d.T0.all)).filter λx=>decide (x≠0)):=rfl;generalize BU [] (AB.U d.W++d.T0.all)=out at c A l ⊢;have fin:∀(b:Hp),b (n+2)=some (.cells [.map (n+1)])->b (n+1)=some (.map (FC (out.filter λx=>decide (x≠0))))->(∀j,j<n->b j=h j)->(∀K:SV->Hp->Nat->Prop,(∀v h' n',CO n h' n' v (Is (.i 1 ((Gc d).map AA) false) h n)->K v h' n')->
  Ap (CC.plain.call false 0) prog 139 [.fn (.func 198) [] [.ptr (n+3) 0]] (h_ b (n+3) (some (.cells [.map (n+1)]))) (n+4) K):=λb a1 a2 a3 K t=>by
  have f:(out.filter λx=>decide (x≠0)).length<=1048576:=by have:=JM (λx=>decide (x≠0)) out;omega
  refine qP (iQ (FC (out.filter λx=>decide (x≠0))) (out.filter λx=>decide (x≠0)) (by simp[FC]) f (s:=n+1) (by simp[h_]) (by rw[AE _ _ (show n+1≠n+3 by omega)];exact a2)) ?_;rintro v h' n' ⟨hle,BV,q⟩;rw[<-l]at q;have m:∀j y,h j=some y->h' j=some y:=λj y e=>by
   have:=(i j y e).1;refine BV j y ?_;rw[AE _ _ (by omega),AE _ _ (by omega),a3 j this,e]
  refine t _ _ _ ?_;rcases q with⟨h1,z',full,rfl⟩|⟨o,full,h1,h2,rfl,r⟩
  rw[h1];exact LH i m (by simp) rfl;exact XK Ns (full:=full) i m (show n<=o by omega) (by simp) r
 by_cases g:(0:Int)∈out;obtain⟨j,h1,h2⟩:=Da 0 g;rw[qU]at h1;have a:=Wv 0 c 0 j h2;simp[go_sem,AD,AE,h1,Cc];refine qP cD ?_;rintro v h' n' ⟨rfl,rfl,rfl⟩;simp[go_sem];refine fin _ ?_ ?_ ?_ _ ?_;simp[h_];rw[<-a];simp[h_];intro j w;simp only[h_];grind;intro v h' n' k;simp[go_sem];exact k;have h1:=ET 0 g;have a:=Ww g;simp[go_sem,AD,AE,h1,Cc];refine qP cD ?_;rintro v h' n' ⟨rfl,rfl,rfl⟩;simp[go_sem];refine fin _ ?_ ?_ ?_ _ ?_;simp[h_];rw[a];simp[h_];intro j w;simp only[h_];grind;intro v h' n' k;simp[go_sem];exact k
def H6(z:Nat)(es:List SV)(v:SV)(o:Option Nat)(n m:Nat):Prop:=
 (o=none/\es=[]/\∃z' f,v=.i z' [] f)\/∃j f,o=some j/\n<=j/\j<m/\v=.sl j 0 z es.length f
def Ea(es:List SV)(o:Option Nat)(h:Hp):Hp:=match o with|none=>h|some j=>h_ h j (some (.cells (es.flatMap SV.cells)))
theorem H6.st{z:Nat}{es:List SV}{v:SV}{o:Option Nat}{n m:Nat}(H:H6 z es v o n m):v.B=true/\v.cells=[v]:=by
 rcases H with⟨_,_,z',f,rfl⟩|⟨j,f,_,_,_,rfl⟩<;>exact⟨rfl,rfl⟩
theorem Qo.own{z:Nat}{es:List SV}{h h':Hp}{n n':Nat}{v:SV}(H:Qo z es h n v h' n'):∃o,H6 z es v o n n'/\(∀j y,h j=some y->h' j=some y)/\∀j,o=some j->h' j=some (.cells (es.flatMap SV.cells)):=by
 obtain⟨h1,h2,⟨rfl,d,f,rfl⟩|⟨o,f,a,b,rfl,c⟩⟩:=H;exact⟨none,.inl ⟨rfl,rfl,d,f,rfl⟩,h2,by simp⟩;exact⟨some o,.inr ⟨o,f,rfl,a,b,rfl⟩,h2,by rintro j e;cases e;exact c⟩
theorem H6.mono{z:Nat}{es:List SV}{v:SV}{o:Option Nat}{n n' m m':Nat}(H:H6 z es v o n m)(hn:n'<=n)(hm:m<=m'):H6 z es v o n' m':=by
 rcases H with⟨h1,h2,c,f,a⟩|⟨j,f,h1,h2,a,b⟩
 exact .inl ⟨h1,h2,c,f,a⟩;exact .inr ⟨j,f,h1,by omega,by omega,b⟩
theorem H6.lt{z:Nat}{es:List SV}{v:SV}{o:Option Nat}{n m:Nat}(H:H6 z es v o n m):∀j,o=some j->n<=j/\j<m:=by
 rcases H with⟨rfl,_⟩|⟨j,f,rfl,h2,a,_⟩
 simp;rintro i e;cases e;exact⟨h2,a⟩
theorem Mv{z k i:Nat}{es:List SV}{e c:SV}(d:∀e∈es,e.B=true/\e.cells.length=z)(h:es[i]? = some e)(b:e.cells[k]? = some c):
 i*z+k+1<=(es.flatMap SV.cells).length/\((es.flatMap SV.cells).drop (i*z+k)).take 1=[c]:=by
 obtain⟨g1,f⟩:=Nh d h;have he:=(d e (U1 h)).2;have a:=(qh.1 b).1;refine⟨by omega,?_⟩;have h1:(((es.flatMap SV.cells).drop (i*z)).take z).drop k=e.cells.drop k:=by rw[f]
 rw[List.drop_take,vF]at h1;have h2:(((es.flatMap SV.cells).drop (i*z+k)).take (z-k)).take 1=(e.cells.drop k).take 1:=by rw[h1]
 rw[List.take_take,Ut (by omega)]at h2;rw[h2,qQ a];simp only[YP,vE];rw[(qh.1 b).2]
theorem MW{cs:List SV}{off:Nat}{c:SV}(h1:off+1<=cs.length)(h2:(cs.drop off).take 1=[c]):cs.take off++c::cs.drop (off+1)=cs:=by
 have:cs.drop off=c::cs.drop (off+1):=by
  rw[qQ (by omega)]at h2 ⊢;simp only[YP,vE,List.cons.injEq,and_true]at h2;rw[h2]
 rw[<-this,qM]
def trC:Tr:=.pure 0<|.pure 1<|.pure 3<|.pure 4<|.pure 6<|.pure 7<|.pure 9<|.pure 10 <|
 .two 2 13
  (.two 5 13 (.two 8 13 (.two 11 13 (.two 12 13 (.one 13 (.one 14 .nil)) (.one 12 (.one 14 .nil))) (.one 11 (.one 12 (.one 14 .nil)))) (.one 8 (.one 11 (.one 12 (.one 14 .nil))))) (.one 5 (.one 8 (.one 11 (.one 12 (.one 14 .nil))))))
  (.one 2 (.one 5 (.one 8 (.one 11 (.one 12 (.one 14 .nil))))))
theorem fF(s:AI)(h1:s.A.length<=1048576)(h2:s.L.length<=1048576)(h3:s.C.length<=1048576)(h4:s.vars.length<=1048576)(h5:∀x∈s.A,x.Q.length<=1048576)(h6:∀x∈s.L,x.levels.length<=1048576):
 PC 144 [s.e] s.e:=by
 intro h n;refine DO func144 rfl λI=>?_;refine By 2 [(1,.q s.g),(2,.ptr (n+1) 0)] (h_ h (n+1) (some (.cells [.i 0 [] true,.i 0 [] true,.i 0 [] true,.i 0 [] true]))) (λm=>m=n+2) ?_ (λm hm=>?_);simp[go_sem,AI.e,qu,IO];refine⟨AZ (by rw[AE _ _ (by omega)];exact I.none (qa n)) (by simp[h_]),λj y=>?_⟩;have:=I j y;simp only[h_];grind;subst hm;refine AX 1 (α:=SV×Option Nat×SV×Option Nat×Nat) (λa=>[(2,.ptr (n+1) 0),(3,.ptr a.2.2.2.2 0)])
  (λa=>h_ (Ea (s.A.map A7.e) a.2.1 (Ea (s.L.map GQ.e) a.2.2.2.1 (h_ h (n+1) (some (.cells [.i 0 [] true,.i 0 [] true,.i 0 [] true,.i 0 [] true]))))) a.2.2.2.2 (some (.cells [a.1,a.2.2.1,Bd s.C,Fs s.vars])))
  (λa m=>H6 6 (s.A.map A7.e) a.1 a.2.1 (n+2) m/\H6 2 (s.L.map GQ.e) a.2.2.1 a.2.2.2.1 (n+2) m/\n+2<=a.2.2.2.2/\a.2.2.2.2<m/\a.2.1≠some a.2.2.2.2/\a.2.2.2.1≠some a.2.2.2.2/\(∀j,a.2.1=some j->a.2.2.2.1≠some j)) (CK trC rfl (by kernel_rfl) (by kernel_rfl) ?_) ?_
 . simp[go_sem,trC,AI.g]
   iterate 14 (all_goals (try first
    | (refine wq (jP _ h1) ?_;intro N H1 m1 Z;have lt1:=Z.1;obtain⟨o1,a1,b1,c1⟩:=Z.own;obtain⟨s1,D⟩:=a1.st;simp only[SV.B,SV.cells]at s1 D;simp[go_sem])
    | (refine wq (jQ _ h2) ?_;intro O H2 m2 W2;have M8:=W2.1;obtain⟨C,a2,P,c2⟩:=W2.own;obtain⟨s2,t2⟩:=a2.st;simp only[SV.B,SV.cells]at s2 t2;simp[go_sem])
    | (refine(fX _ h3).use ?_;simp[go_sem])
    | (refine(fY _ h4).use ?_;simp[go_sem,s1,D,s2,t2])
    | refine⟨?_,?_⟩))
   all_goals
    have L:=a1.lt;have M:=a2.lt;have ZZ:Bb:=.cells [.i 0 [] true,.i 0 [] true,.i 0 [] true,.i 0 [] true]
    first
     | (have hq:=P (n+2) _ (b1 (n+2) _ (AD _ _ _));simp[go_sem,hq])
     | (have hq:=P m1 _ (AD _ _ _);simp[go_sem,hq])
     | simp[go_sem,AD]
    refine⟨N,o1,O,C,_,⟨a1.mono (by omega) (by omega),a2.mono (by omega) (by omega),?_,?_,λe=>?_,λe=>?_,λj e e'=>?_⟩,IO,λj y=>?_⟩;omega;omega;have:=L _ e;omega;have:=M _ e;omega;have:=L _ e;have:=M _ e';omega;intro hy;have q1:=b1 j y;have q2:=P j y;have q3:=c1 j;have q4:=c2 j;have r1:=L j;have r2:=M j;have q5:=P j (.cells ((s.A.map A7.e).flatMap SV.cells));have q6:=I j y;clear b1 P c1 c2 L M Z W2 a1 a2;simp only[h_]at *;cases o1<;>cases C<;>simp only[Ea,h_]at hy<;>grind
 rintro⟨N,o1,O,C,q⟩ m ⟨a1,a2,hq1,hq2,U,V,w⟩;dsimp only at a1 a2 hq1 hq2 U V w ⊢;have L:=a1.lt;have M:=a2.lt;obtain⟨s1,D⟩:=a1.st;obtain⟨s2,t2⟩:=a2.st;simp only[SV.B,SV.cells]at s1 D s2 t2;generalize R:Ea (s.A.map A7.e) o1 (Ea (s.L.map GQ.e) C (h_ h (n+1) (some (.cells [.i 0 [] true,.i 0 [] true,.i 0 [] true,.i 0 [] true]))))=B;have B1:∀j,o1=some j->B j=some (.cells ((s.A.map A7.e).flatMap SV.cells)):=λj e=>by subst e;rw[<-R];simp[Ea,h_]
 have B2:∀j,C=some j->B j=some (.cells ((s.L.map GQ.e).flatMap SV.cells)):=λj e=>by
  subst e;rw[<-R];cases o1 with
  | none=>simp[Ea,h_]
  | some i=>have:=w i rfl;simp only[Ea,h_];grind
 have B3:B (n+1)=some (.cells [.i 0 [] true,.i 0 [] true,.i 0 [] true,.i 0 [] true]):=by
  rw[<-R];cases o1<;>cases C<;>simp only[Ea,h_]<;>grind
 have B4:∀j y,h j=some y->B j=some y:=λj y e=>by
  have:=I j y e;rw[<-R];cases o1<;>cases C<;>simp only[Ea,h_]<;>grind
 have W:∀j,o1=some j->j≠q:=λj e e'=>U (by rw[e,e']);have A:∀j,C=some j->j≠q:=λj e e'=>V (by rw[e,e']);clear R;refine CW 1 [(2,.ptr (n+1) 0),(3,.ptr q 0)] (h_ B q (some (.cells [N,O,Bd s.C,Fs s.vars]))) m (AJ ?_) (λm' d=>?_)
 . rcases a1 with⟨_,he,Y,f,rfl⟩|⟨j,f,rfl,S,T,rfl⟩
   simp[go_sem,AD];refine Av 1 (α:=Unit) (λ_=>[(2,.ptr (n+1) 0),(3,.ptr q 0),(21,AA 0),(22,AA 0)]) (λ_=>h_ B q (some (.cells [.i Y [] f,O,Bd s.C,Fs s.vars]))) (λ_ m'=>m<=m') (λ_=>0) () (qa _) (by simp[Ao]) AC ?_;intro _ m' d;simp[go_sem];exact d
   . have b:=W j rfl;have G:=B1 j rfl;simp[go_sem,AD];refine Av 1 (α:=Nat) (λi=>[(2,.ptr (n+1) 0),(3,.ptr q 0),(21,AA s.A.length),(22,AA i)]) (λ_=>h_ B q (some (.cells [.sl j 0 6 s.A.length f,O,Bd s.C,Fs s.vars]))) (λi m'=>i<=s.A.length/\m<=m') (λi=>s.A.length-i) 0 ?_ ?_ ?_ ?_;exact⟨qg _,qa _⟩;simp[Ao];simp;rintro i m' ⟨hi,d⟩;by_cases l:i<s.A.length
     . have w1:=wS i (by omega);obtain⟨x,X⟩:∃x,s.A[i]=x:=⟨_,rfl⟩
       have J:(s.A.map A7.e)[i]? = some x.e:=by simp[l,X]
       obtain⟨t,u⟩:=Mv (A7.E.size s.A) J (k:=5) (c:=AU x.Q) rfl;have g3:=MW t u;have K:=h5 x (by rw[<-X];exact qi l);have p:j<m':=by omega
       have r:q<m':=by omega
       have g:=G;generalize(s.A.map A7.e).flatMap SV.cells=F at g t u g3;simp[go_sem,AD,AE,b,g,l,t,u,p,r]
       repeat first|refine nd (by simp[Bo,DZ,CU,Aq,Region.binds]<;>omega) ?_|refine sq ?_|refine aq ?_
       refine Yg _ _ _ _ _ _ (YC x.Q K) ?_;simp[go_sem,AE,b,g,l,t,g3,p,w1,-Int.natCast_add]
       repeat first|refine nd (by simp[Bo,DZ,CU,Aq,Region.binds,b]<;>omega) ?_|refine sq ?_|refine aq ?_
       refine⟨i+1,by omega,⟨by omega,d⟩,IO,λo y=>?_⟩;simp only[h_];grind
     have:i=s.A.length:=by omega
     subst this;simp[go_sem];exact d
 refine CW 1 [(2,.ptr (n+1) 0),(3,.ptr q 0)] (h_ B q (some (.cells [N,O,Bd s.C,Fs s.vars]))) m (AJ ?_) (λm2 hm2=>?_)
 . rcases a2 with⟨_,he,Y,f,rfl⟩|⟨j,f,rfl,S,T,rfl⟩
   simp[go_sem,AD];refine Av 1 (α:=Unit) (λ_=>[(2,.ptr (n+1) 0),(3,.ptr q 0),(40,AA 0),(41,AA 0)]) (λ_=>h_ B q (some (.cells [N,.i Y [] f,Bd s.C,Fs s.vars]))) (λ_ m'=>m<=m') (λ_=>0) () d (by simp[Ao]) AC ?_;intro _ m' d;simp[go_sem];exact d
   . have b:=A j rfl;have G:=B2 j rfl;simp[go_sem,AD];refine Av 1 (α:=Nat) (λi=>[(2,.ptr (n+1) 0),(3,.ptr q 0),(40,AA s.L.length),(41,AA i)]) (λ_=>h_ B q (some (.cells [N,.sl j 0 2 s.L.length f,Bd s.C,Fs s.vars]))) (λi m'=>i<=s.L.length/\m<=m') (λi=>s.L.length-i) 0 ?_ ?_ ?_ ?_;exact⟨qg _,d⟩;simp[Ao];simp;rintro i m' ⟨hi,d⟩;by_cases l:i<s.L.length
     . have w1:=wS i (by omega);obtain⟨x,X⟩:∃x,s.L[i]=x:=⟨_,rfl⟩
       have J:(s.L.map GQ.e)[i]? = some x.e:=by simp[l,X]
       obtain⟨t,u⟩:=Mv (GQ.E.size s.L) J (k:=1) (c:=DV x.levels) rfl;have g3:=MW t u;have K:=h6 x (by rw[<-X];exact qi l);have p:j<m':=by omega
       have r:q<m':=by omega
       have g:=G;generalize(s.L.map GQ.e).flatMap SV.cells=F at g t u g3;simp[go_sem,AD,AE,b,g,l,t,u,p,r]
       repeat first|refine nd (by simp[Bo,DZ,CU,Aq,Region.binds]<;>omega) ?_|refine sq ?_|refine aq ?_
       refine Yg _ _ _ _ _ _ (fZ x.levels K) ?_;simp[go_sem,AE,b,g,l,t,g3,p,w1,-Int.natCast_add]
       repeat first|refine nd (by simp[Bo,DZ,CU,Aq,Region.binds,b]<;>omega) ?_|refine sq ?_|refine aq ?_
       refine⟨i+1,by omega,⟨by omega,d⟩,IO,λo y=>?_⟩;simp only[h_];grind
     have:i=s.L.length:=by omega
     subst this;simp[go_sem];exact d
 have enq:n+1≠q:=by omega
 have Q:∀(z:Nat)(es:List SV)(v:SV)(o:Option Nat)(H:Hp),(∀e∈es,e.B=true/\e.cells.length=z)->H6 z es v o (n+2) m->(∀j,o=some j->H j=some (.cells (es.flatMap SV.cells)))->Fz H h 1 v (.i z es false):=λz es v o H hsz ha hH=>by
  rcases ha with⟨_,he,Y,f,rfl⟩|⟨j,f,rfl,S,T,rfl⟩
  rw[he];exact Bj (by simp);exact Cz (I.none (by omega)) (by simp) (hH j rfl) hsz
 refine AJ ?_;simp[go_sem,AD,AE,enq,B3];refine Dj (v:=s.e) 2 I (λj y e=>?_) (.inr ⟨Q _ _ _ _ _ (A7.E.size _) a1 λj e=>?_,Q _ _ _ _ _ (GQ.E.size _) a2 λj e=>?_,IO,IO,trivial⟩) ?_;have:=I j y e;have:=B4 j y e;simp only[h_];grind;have:=L j e;have:=B1 j e;have:=W j e;simp only[h_];grind;have:=M j e;have:=B2 j e;have:=A j e;simp only[h_];grind;simp[AI.e,AI.g,cc,ca,A7.E.ca,GQ.E.ca,A9.E.ca,GY.E.ca]
structure AI.D(s:AI):Prop where
 A:s.A.length<=1048576
 L:s.L.length<=1048576
 C:s.C.length<=1048576
 vars:s.vars.length<=1048576
 Q:∀x∈s.A,x.Q.length<=1048576
 levels:∀x∈s.L,x.levels.length<=1048576
structure AG.D(d:AG):Prop where
 len:d.W.length<=1048576
 W:AB.G d.W
 T0 : d.T0.D
 V:d.V.length<=1048576
 set:d.S.D
theorem c79(d:AG)(b:d.D):PC 79 [d.e] d.e:=by
 intro h n;refine gq func79 rfl λc=>?_;have a:=b.set;simp[go_sem,AG.e,AF.g,AI.g,AD,AE,qu]
 repeat first|refine nd (by simp[Bo,DZ,CU,Aq,Region.binds]<;>omega) ?_|refine sq ?_|refine aq ?_
 refine Yg _ _ _ _ _ _ (bP d.W b.len b.W) ?_;simp[go_sem,AD,AE]
 repeat first|refine nd (by simp[Bo,DZ,CU,Aq,Region.binds]<;>omega) ?_|refine sq ?_|refine aq ?_
 refine Yg _ _ _ _ _ _ (by simpa[AF.e,AF.g]using So d.T0 b.T0) ?_;simp[go_sem,AD,AE]
 repeat first|refine nd (by simp[Bo,DZ,CU,Aq,Region.binds]<;>omega) ?_|refine sq ?_|refine aq ?_
 refine Yg _ _ _ _ _ _ (c76 d.V b.V) ?_;simp[go_sem,AD,AE]
 repeat first|refine nd (by simp[Bo,DZ,CU,Aq,Region.binds]<;>omega) ?_|refine sq ?_|refine aq ?_
 refine Yg _ _ _ _ _ _ (by simpa[AI.e,AI.g]using fF d.S a.A a.L a.C a.vars a.Q a.levels) ?_;simp[go_sem,AD]
 repeat first|refine nd (by simp[Bo,DZ,CU,Aq,Region.binds]<;>omega) ?_|refine sq ?_|refine aq ?_
 exact A3 c (λj y=>by have:=c j y;simp only[h_];grind) rfl (by simp[cc,ca,AB.E.ca,Bi.E.ca,Bs.E.ca,AM.E.ca,BC.E.ca,A7.E.ca,GQ.E.ca,A9.E.ca,GY.E.ca])
theorem fD(a b:Int):PC 142 [AA a,AA b] (.bool (decide (a<b))):=by
 intro h n;refine gq func142 rfl λc=>?_;simp[go_sem];refine(Zq _).use ?_;simp[go_sem];exact As c rfl rfl
theorem fE(a:Int):PC 143 [AA a] (.bool false):=by
 intro h n;refine gq func143 rfl λb=>?_;simp[go_sem];exact As b rfl rfl
def Js(l:List Int)(x:Int)(i:Nat):Int:=match l[i]? with|some a=>if a<x then -1 else if a=x then 0 else 1|none=>0
theorem c78(l:List Int)(x:Int)(hl:l.length<=1048576):PC 78 [.i 1 (l.map AA) false,AA x] (.tup [AA (Az (Js l x) l.length).1,.bool (Az (Js l x) l.length).2]):=by
 intro h n;refine gq func78 rfl λr=>?_;simp[go_sem];generalize hc:Js l x=c;refine Av 1 (α:=Nat×Nat) (λq=>[(0,.i 1 (l.map AA) false),(1,AA x),(6,AA l.length),(7,AA q.1),(8,AA q.2)]) (λ_=>h) (λq m=>q.1<=q.2/\q.2<=l.length/\n<=m/\EI c 0 l.length=EI c q.1 q.2) (λq=>q.2-q.1) (0,l.length) ?_ ?_ AC ?_;simp;simp[Ao];rintro⟨i,j⟩ m ⟨o,s,k,d⟩;dsimp only at o s d;by_cases a:i<j;have t:(i+j) / 2<l.length:=by omega
 have w1:IntKind.i64.wrap ((i:Int)+j)=((i+j:Nat):Int):=by rw[DA]<;>omega
 have w2:IntKind.u64.wrap ((i+j:Nat):Int)=((i+j:Nat):Int):=by rw[Un]<;>omega
 have w3:(((i+j:Nat):Int)).fdiv 2=(((i+j) / 2:Nat):Int):=by rw[Int.fdiv_eq_ediv_of_nonneg _ (by omega)];omega
 have u:IntKind.i64.wrap (((i+j) / 2:Nat):Int)=(((i+j) / 2:Nat):Int):=by rw[DA]<;>omega
 have v:IntKind.i64.wrap ((((i+j) / 2:Nat):Int)+1)=(((i+j) / 2+1:Nat):Int):=by rw[DA]<;>omega
 rw[EI.eq_def c i j]at d;have b:c ((i+j) / 2)=if l[(i+j) / 2]<x then -1 else if l[(i+j) / 2]=x then 0 else 1:=by rw[<-hc];simp[Js,t]
 simp[go_sem,a,w1,w2,w3,u,t,-Int.natCast_add,-Int.natCast_ediv];refine qz (fD _ _) ?_;by_cases hb:l[(i+j) / 2]<x;have F8:c ((i+j) / 2)<0:=by rw[b,if_pos hb];omega
 simp[a,F8]at d;simp[go_sem,hb,v,-Int.natCast_add,-Int.natCast_ediv];exact⟨(i+j) / 2+1,j,by omega,⟨by omega,s,k,d⟩,IO,IO⟩;have F8:¬c ((i+j) / 2)<0:=by rw[b,if_neg hb];split<;>omega
 simp[a,F8]at d;simp[go_sem,hb,-Int.natCast_add,-Int.natCast_ediv];exact⟨i,(i+j) / 2,by omega,⟨by omega,by omega,k,d⟩,IO,IO⟩;have e:EI c 0 l.length=i:=by rw[d,EI.eq_def];simp[a]
 by_cases hi:i<l.length;have b:c i=if l[i]<x then -1 else if l[i]=x then 0 else 1:=by rw[<-hc];simp[Js,hi]
 by_cases f:l[i]=x;simp[go_sem,a,hi,f];exact As r rfl (by simp[Az,e,hi,b,f]);have g:(l[i]==x)=false:=by simpa using f
 simp[go_sem,a,hi,g];refine(fE _).use ?_;simp[go_sem];have p:¬c i=0:=by rw[b,if_neg f];split<;>omega
 exact As r rfl (by simp[Az,e,hi,p]);simp[go_sem,a,hi];exact As r rfl (by simp[Az,e,hi])
theorem c77(l:List Int)(hl:l.length<=1048576)(r:BC):PC 77 [r.e,.q [.i 1 (l.map AA) false]] (.bool (!(Az (Js l r.id) l.length).2)):=by
 intro h n;refine gq func77 rfl λa=>?_;simp[go_sem,BC.e,AD];refine(c78 l r.id hl).use ?_;simp[go_sem];exact A3 a (AR a (qa _) AC) rfl rfl
theorem iK(z:Nat)(full:Bool)(g:FuncId)(a b:List SV):PC 75 [.i z [] full,.fn (.func g) a b] (.i 3 [] false):=by
 intro h n;refine gq func75 rfl λc=>?_;simp[go_sem];have hI:=(bU [] (by simp) g a b (λ_=>false) (by simp)).wk (us:=[.i z [] full,.fn (.func g) a b]) 1 ⟨Bj (by simp),IO,trivial⟩;refine qz hI ?_;have e:BI (λ_=>false) 0 0 = -1:=by rw[BI];simp
 simp[go_sem,e];exact LH c AC (by simp) rfl
def AG.norm1(d:AG):AG:=⟨AO d.W,d.T0,d.V,d.S⟩
def AG.normal(d:AG):AG:=⟨AO d.W,d.T0,d.V.filter λr=>(Az (Js (Gc d.norm1) r.id) (Gc d.norm1).length).2,d.S⟩
theorem c21(d:AG)(g:d.D)(hn:d.normal.D)(C:(BU [] (AB.U (AO d.W)++d.T0.all)).length<=1048576):PC 21 [d.e] d.normal.e:=by
 intro h n;refine gq func21 rfl λz=>?_;have hs:=g.set;simp[go_sem,AG.e,AF.g,AI.g,AD,AE,qu];refine(c73 d.W g.len g.W).use ?_;simp[go_sem,AD,AE];refine qz (by simpa[AG.e,AG.norm1,AF.g,AI.g]using c74 d.norm1 hn.len hn.W g.T0 C) ?_;simp[go_sem,AD,AE,Ah];have l:(Gc d.norm1).length<=1048576:=by
  have h1:(Gc d.norm1).length=((BU [] (AB.U d.norm1.W++d.norm1.T0.all)).filter λx=>decide (x≠0)).length:=XI _;have h2:=JM (λx=>decide (x≠0)) (BU [] (AB.U d.norm1.W++d.norm1.T0.all));have h4:(BU [] (AB.U d.norm1.W++d.norm1.T0.all)).length<=1048576:=C;omega
 generalize A:Gc d.norm1=us at l;refine wq (dA _ g.V) ?_;rintro M f m1 ⟨hle,BV,L⟩;have D:=BV n (.cells ([AK (AO d.W)]++d.T0.g++[BE d.V]++d.S.g)) (by simp[AD,AE,AF.g,AI.g]);obtain⟨p,t,G⟩:∃p:List SV,p.length=11/\f (n+1)=some (.cells p):=⟨_,rfl,BV (n+1) (.cells _) (by simp[AD,AE];rfl)⟩
 have F:=BV (n+2) (.cells [.i 1 (us.map AA) false]) (by simp[AD,<-A,AG.norm1]);have H:∀j y,h j=some y->f j=some y:=λj y e=>BV j y (by have:=z j y e;simp only[h_];grind);clear BV;have k:∀(b:Hp),(∀j,j=n\/j=n+1\/j<n->b j=f j)->CO n (h_ (h_ b n (some (.cells d.normal.e.cells))) (n+1) (some (.cells d.normal.e.cells))) m1 d.normal.e (Is d.normal.e h n):=λb a=>by
  refine A3 z (λj y e=>?_) rfl ?_;have h1:=(z j y e).1;have h2:=H j y e;rw[AE _ _ (by omega),AE _ _ (by omega),a j (by omega),h2];simp[AG.e,AF.g,AI.g,cc,ca,AB.E.ca,Bi.E.ca,Bs.E.ca,AM.E.ca,BC.E.ca,A7.E.ca,GQ.E.ca,A9.E.ca,GY.E.ca]
 have c:d.normal.V=d.V.filter λr=>!(!(Az (Js us r.id) us.length).2):=by simp[AG.normal,A]
 have m:∀(K:SV->Hp->Nat->Prop),(∀b:Hp,(∀j,j=n\/j=n+1\/j<n->b j=f j)->K (.i 3 (d.normal.V.map BC.e) false) b m1)->Ap (CC.plain.call false 0) prog 75 [M,.fn (.func 77) [] [.ptr (n+2) 0]] f m1 K:=λK q=>by
  rcases L with⟨B,N,full,rfl⟩|⟨o,full,h1,h2,rfl,I⟩
  have J:d.normal.V=[]:=by rw[c];simp only[List.map_eq_nil_iff]at B;rw[B];rfl
  rw[J]at q;exact(iK N full 77 [] [.ptr (n+2) 0]).use (q f λ_ _=>rfl);rw[c]at q;simp only[qf];refine wn (bs:=[.sl o 0 3 d.V.length full,.fn (.func 77) [] [.q [.i 1 (us.map AA) false]]]) (h2:=h_ f (n+2) none) 2 (λj y e=>?_) ⟨IO,.inr ⟨rfl,trivial,AZ (AD _ _ _) F,trivial⟩,trivial⟩ ?_;simp only[h_]at e;split at e;cases e;exact e;refine qP (d75 d.V g.V 77 [] [.q [.i 1 (us.map AA) false]] (λr=>!(Az (Js us r.id) us.length).2) (λx _=>c77 us l x) (by rw[AE _ _ (by omega)];exact I)) ?_;rintro v h' n' ⟨rfl,rfl,rfl⟩;refine q _ λj hj=>?_;rw[AE _ _ (by omega),AE _ _ (by omega)]
 simp[go_sem];refine m _ λb a=>?_;have i:b n=_:=(a n (.inl rfl)).trans D;have s:b (n+1)=_:=(a (n+1) (.inr (.inl rfl))).trans G;have w:n+1≠n:=by omega
 simp only[AF.g,AI.g]at i;simp[go_sem,i,AD];refine qz (by simpa[AG.e,AG.normal,AF.g,AI.g]using c79 d.normal hn) ?_;have u:p.drop 11=[]:=UX (by omega);simp[go_sem,AE,s,t,AD,u];have:=k b a;simpa[AG.e,AG.normal,AF.g,AI.g,SV.cells]using this
theorem aI{h:Hp}{n:Nat}(k:Nat)(h0:0<k)(h1:k<=1073741824):Al prog h n .append [22,3] [.i 0 [] true,.int .i64 k]=some { val:=.sl n 0 11 k false,new:=some (.cells (List.replicate k (BK prog 70).cells).flatten) }:=by
 have b:BA prog 22=some 70:=by simp[go_sem]
 have a:Br prog 70=11:=by simp[go_sem]
 have c:(BK prog 70).B=true:=by simp[go_sem]
 have d:(BK prog 70).cells.length=11:=by simp[go_sem]
 have e:Bw prog 70<=65536:=by simp[go_sem]
 have f:BA prog 3=none:=by simp[go_sem]
 have g:prog.underlying 3=some (.int .i64):=by kernel_rfl
 simp only[Al,f,Option.isSome_none,qn,if_false,Fu,b,g];rw[if_pos ⟨⟨by omega,by omega⟩,by rw[a];omega,e,c,by rw[d,a]⟩,a];simp
theorem iY(k:Nat)(hk:k<=1048576){h:Hp}{n:Nat}:BL prog 256 [.i 0 [] true,AA k] h n (λv h' n'=>(k=0/\v=.i 0 [] true/\h'=h/\n'=n)\/(0<k/\∃cs,v=.sl n 0 11 0 false/\h'=h_ h n (some (.cells cs))/\n'=n+1)):=by
 refine gq func256 rfl λho=>?_;have h0:¬((k:Int)<0):=by omega
 have w0:IntKind.i64.wrap ((k:Int))=k:=by rw[DA]<;>omega
 have w1:IntKind.i64.wrap 0=0:=by decide
 by_cases b:k=0;subst b;simp[go_sem,w1];exact .inl ⟨rfl,rfl,rfl⟩;have hp:0<k:=by omega
 have hb:(k:Int)<=1073741824:=by omega
 have a:=λh n=>aI (h:=h) (n:=n) k hp (by omega);simp[go_sem,h0,w0,w1,hp,a];exact .inl (.inr ⟨rfl,⟨_,rfl⟩,rfl⟩)
theorem Tz{H:Hp}{p len m:Nat}{s x:SV}{xs ys:List SV}{upd:Option (Nat×Option Bb)}(l:(s=.i 0 [] true/\xs=[]/\len=0/\upd=none)\/∃j cs,s=.sl j 0 11 len false/\H j=some (.cells cs)/\Bz cs 0 (len*11)=some xs/\upd=some (j,none))
 (n:LT 11 x=true) (k:GW x=some m) (o:flat H x=some ys) (a:m≠0) (hroom:len+m<=1073741824):
 Al prog H p .append [22,22] [s,x]=some { val:=.sl p 0 11 (len+m) false,upd:=upd,new:=some (.cells (xs++ys)) }:=by
 have d:BA prog 22=some 70:=by simp[go_sem]
 have e:Br prog 70=11:=by simp[go_sem]
 have f:(BK prog 70).B=true:=by simp[go_sem]
 have g:(BK prog 70).cells.length=11:=by simp[go_sem]
 have h:Bw prog 70<=65536:=by simp[go_sem]
 have c:EF (len+m) (Bw prog 70)=true:=by simp only[EF,qo,decide_eq_true_eq];exact⟨by omega,h⟩
 simp only[Al,d,vG,if_true,Ec,k,o,e,n,f,g];have b:Ib 70=none:=by rfl
 rcases l with⟨rfl,rfl,rfl,rfl⟩|⟨j,cs,rfl,i,ht,rfl⟩
 simp[LT,a,b];simpa using c;simp[LT,a,flat,i,ht,c,Kb b]
theorem V0{H:Hp}{p len:Nat}{s:SV}(e:s=.i 0 [] true\/∃j,s=.sl j 0 11 len false):
 Al prog H p .append [22,22] [s,AK []]=some { val:=s }:=by
 have a:BA prog 22=some 70:=by simp[go_sem]
 have b:Br prog 70=11:=by simp[go_sem]
 have c:(BK prog 70).B=true:=by simp[go_sem]
 have d:(BK prog 70).cells.length=11:=by simp[go_sem]
 simp only[Al,a,vG,if_true,Ec,b,c,d];rcases e with rfl|⟨j,rfl⟩<;>simp[LT,GW,flat,E8]
def Db(Ls:List (List AB))(i:Nat):List AB:=(Ls.take i).flatten
theorem Ng{a:List (List AB)}{i:Nat}{x:List AB}(h:i<a.length)(b:a[i]=x):Db a (i+1)=Db a i++x:=by
 unfold Db;rw[qb h,b];simp
theorem WZ(a:List (List AB))(i:Nat):(Db a i).length<=a.flatten.length:=by
 have:a.flatten=(a.take i).flatten++(a.drop i).flatten:=by rw[<-List.flatten_append,qM]
 rw[this,Db];simp
theorem PF(a:List (List AB)):Db a a.length=a.flatten:=by unfold Db;rw[qm]
theorem fT(b:List (List AB))(hL:b.length<=1048576)(N:b.flatten.length<=1048576):PC 189 [.i 1 (b.map AK) false] (AK b.flatten):=by
 intro h n;refine gq func189 rfl λA=>?_;simp[go_sem];have u:=WZ b;refine Av 1 (α:=Nat) (λi=>[(0,.i 1 (b.map AK) false),(3,AA (Db b i).length),(9,.i 1 (b.map AK) false),(10,AA b.length),(11,AA i)]) (λ_=>h) (λi m=>i<=b.length/\n<=m) (λi=>b.length-i) 0 ?_ ?_ AC ?_;exact⟨qg _,qa n⟩;simp[Ao,Db];rintro i m ⟨hi,f⟩;by_cases d:i<b.length;have w1:=wS i (by omega);obtain⟨x,w⟩:∃x,b[i]=x:=⟨_,rfl⟩
 have c:=Ng d w;have h1:=u i;have h2:=u (i+1);have J:¬((((Db b (i+1)).length:Nat):Int)<0):=by omega
 have w2:IntKind.i64.wrap (((Db b i).length:Int)+(x.length:Int))=(((Db b (i+1)).length:Nat):Int):=by
  have:(Db b (i+1)).length=(Db b i).length+x.length:=by rw[c,qq]
  rw[DA]<;>omega
 simp[go_sem,d,w,w2,J,w1,-Int.natCast_add];exact⟨i+1,by omega,⟨by omega,f⟩,IO,IO⟩;have:i=b.length:=by omega
 subst this;rw[PF];generalize M:b.flatten=F at N;simp[go_sem];refine qP (iY F.length N) ?_;intro v h' n' r;have L:∃o:Option Nat,(∀j,o=some j->n<=j/\j<n')/\n<=n'/\(∀j y,h j=some y->h' j=some y)/\((o=none/\v=.i 0 [] true)\/∃j cs,o=some j/\v=.sl j 0 11 0 false/\h' j=some (.cells cs)):=by
  rcases r with⟨_,rfl,rfl,rfl⟩|⟨_,cs,rfl,rfl,rfl⟩
  exact⟨none,by simp,f,λ_ _ e=>e,.inl ⟨rfl,rfl⟩⟩;exact⟨some m,by rintro j e;cases e;omega,by omega,AR A f AC,.inr ⟨m,cs,rfl,rfl,AD _ _ _⟩⟩
 clear r;obtain⟨o0,t,C,B,D⟩:=L;simp[go_sem];refine Av 1 (α:=Nat×Option Nat×SV×Hp) (λa=>[(6,a.2.2.1),(25,.i 1 (b.map AK) false),(26,AA b.length),(27,AA a.1)]) (λa=>a.2.2.2)
  (λa m=>a.1<=b.length/\n<=m/\(∀j,a.2.1=some j->n<=j/\j<m)/\(∀j y,h j=some y->a.2.2.2 j=some y)/\((a.2.1=none/\a.2.2.1=.i 0 [] true/\Db b a.1=[])\/∃j cs,a.2.1=some j/\a.2.2.1=.sl j 0 11 (Db b a.1).length false/\a.2.2.2 j=some (.cells cs)/\Bz cs 0 ((Db b a.1).length*11)=some (((Db b a.1).map AB.e).flatMap SV.cells)))
  (λa=>b.length-a.1) (0,o0,v,h') ?_ ?_ AC ?_
 refine⟨qg _,C,t,B,?_⟩;rcases D with⟨h1,h2⟩|⟨j,cs,h1,h2,J⟩
 exact .inl ⟨h1,h2,rfl⟩;exact .inr ⟨j,cs,h1,h2,J,by simp[Bz,Db]⟩;simp[Ao];clear D B t C h' v f m hi d n' o0;rintro⟨i,o,v,h'⟩ m ⟨hi,f,k,BV,r⟩;dsimp only at hi k BV r ⊢;by_cases d:i<b.length;have w1:=wS i (by omega);obtain⟨x,w⟩:∃x,b[i]=x:=⟨_,rfl⟩
 have c:=Ng d w;have h2:=u (i+1);rw[M,c,qq]at h2;have hbt:BA prog 22=some 70:=by simp[go_sem]
 by_cases G:x=[];subst G;have g:=λ(H:Hp)(p:Nat)=>V0 (H:=H) (p:=p) (len:=(Db b i).length) (s:=v) (by
  rcases r with⟨_,h1,_⟩|⟨j,cs,_,h1,_⟩
  exact .inl h1;exact .inr ⟨j,h1⟩)
 simp[go_sem,d,w,g,w1,-Int.natCast_add];exact⟨i+1,by omega,o,v,h',⟨by omega,f,k,BV,by simpa[Bz,c]using r⟩,⟨IO,IO⟩,AC⟩;have I:x.length≠0:=by cases x<;>simp at G ⊢
 have hxn:∀z:List SV,z=x.map AB.e->GW (.i 11 z false)=some x.length:=by rintro z rfl;simp[GW]
 rcases r with⟨rfl,rfl,h0⟩|⟨j,cs,rfl,rfl,K,ht⟩
 rw[h0,qE]at c;have g:=λ(p:Nat)=>Tz (H:=h') (p:=p) (len:=0) (m:=x.length) (s:=.i 0 [] true) (x:=AK x) (xs:=[]) (ys:=(x.map AB.e).flatMap SV.cells) (upd:=none) (.inl ⟨rfl,rfl,rfl,rfl⟩) (by simp[LT]) (by simp[GW]) rfl I (by omega);simp[go_sem,d,w,g,w1,-Int.natCast_add];refine⟨i+1,by omega,some m,.sl m 0 11 x.length false,h_ h' m (some (.cells ((x.map AB.e).flatMap SV.cells))),⟨by omega,by omega,by rintro j e;cases e;omega,?_,.inr ⟨m,rfl,by rw[c],_,AD _ _ _,?_⟩⟩,⟨IO,IO⟩,AC⟩;exact λj y e=>by rw[AE _ _ (by have:=(A j y e).1;omega)];exact BV j y e
 rw[c];have:=BO (AB.E.size x);rw[qf]at this;exact⟨by omega,by rw[<-this,qm]⟩;have hjm:=k j rfl;have g:=λ(p:Nat)=>Tz (H:=h') (p:=p) (len:=(Db b i).length) (m:=x.length) (s:=.sl j 0 11 (Db b i).length false) (x:=AK x) (ys:=(x.map AB.e).flatMap SV.cells) (upd:=some (j,none)) (.inr ⟨j,cs,rfl,K,ht,rfl⟩) (by simp[LT]) (by simp[GW]) rfl I (by omega);simp[go_sem,d,w,g,w1,-Int.natCast_add];refine⟨i+1,by omega,some m,.sl m 0 11 ((Db b i).length+x.length) false,h_ (h_ h' j none) m (some (.cells (((Db b i).map AB.e).flatMap SV.cells++(x.map AB.e).flatMap SV.cells))),⟨by omega,by omega,by rintro j e;cases e;omega,?_,.inr ⟨m,rfl,by rw[c,qq],_,AD _ _ _,?_⟩⟩,⟨IO,IO⟩,AC⟩;exact λq y e=>by have:=(A q y e).1;rw[AE _ _ (by omega),AE _ _ (by omega)];exact BV q y e
 rw[c,qc,Jk];have a1:=BO (AB.E.size (Db b i));have a2:=BO (AB.E.size x);rw[qf]at a1 a2;have a3:(((Db b i).map AB.e).flatMap SV.cells++(x.map AB.e).flatMap SV.cells).length=(Db b i++x).length*11:=by rw[qq,a1,a2,qq,UI]
 exact⟨by omega,by rw[<-a3,qm]⟩;have:i=b.length:=by omega
 subst this;rw[PF,M]at r;simp[go_sem];rcases r with⟨rfl,rfl,rfl⟩|⟨j,cs,rfl,rfl,h1,h2⟩
 exact LH A BV (by simp) rfl;have K:=k j rfl;have hn:=A.none K.1;have P:=AB.E.size F;have O:∀l:List SV,Ag (Fz h' h 0) l l:=by
  intro l;induction l with
  | nil=>trivial
  | cons a l ih=>exact⟨IO,ih⟩
 refine Dj (v:=AK F) 1 A BV ?_ (AB.E.i _ _ _ _);exact .inr ⟨hn,by simp,by simp,rfl,cs,_,h1,h2,P,O _⟩
def Ak(l:List AB):Nat:=(l.map λx=>x.x.size).sum
def Dq(hp:AF->Prop)(K:Nat):Nat->List AB->Prop
 | 0,_=>False
 | N+1,l=>l.length<=K/\Ak l<=K/\∀x∈l,hp x.H/\Dq hp K N x.W/\x.R.length<=K/\∀r∈x.R,hp r.H/\r.cells.length<=K/\∀c∈r.cells,hp c.H/\Dq hp K N c.W
theorem Dq.mono{hp hp':AF->Prop}(f:∀x,hp x->hp' x){K K':Nat}(h:K<=K'):∀{N:Nat} {l:List AB},Dq hp K N l->Dq hp' K' N l
 | N+1,l,H=>⟨by have:=H.1;omega,by have:=H.2.1;omega,λx j=>by
  obtain⟨a,b,c,d⟩:=H.2.2 x j;exact⟨f _ a,b.mono f h,by omega,λr g=>⟨f _ (d r g).1,by have:=(d r g).2.1;omega,λe i=>⟨f _ ((d r g).2.2 e i).1,((d r g).2.2 e i).2.mono f h⟩⟩⟩⟩
theorem Bn(a b:List AB):Ak (a++b)=Ak a+Ak b:=by simp[Ak]
theorem OU{l:List AB}{x:AB}(h:x∈l):x.x.size<=Ak l:=by
 induction l with
 | nil=>cases h
 | cons a l ih=>
  have e:Ak (a::l)=a.x.size+Ak l:=by simp[Ak]
  rcases qt.1 h with rfl|h;omega;have:=ih h;omega
theorem Dq.D{hp:AF->Prop}(i:∀x,hp x->x.D){K:Nat}(h:K<=1048576):∀{N:Nat} {l:List AB},Dq hp K N l->l.length<=1048576/\AB.G l
 | N + 1, l, H => ⟨by have := H.1; omega, ww fun x hx => by
  obtain⟨a,b,c,d⟩:=H.2.2 x hx;have ht:=OU hx;have ht2:=H.2.1;have k:=Dq.D i h b;have j:AP.G x.R:=AP.sizedL_of λr j=>by
   obtain⟨e,f,g⟩:=d r j;have hc:cr.G r.cells:=cr.sizedL_of λq n=>by
    obtain⟨u,v⟩:=g q n;have m:=Dq.D i h v;cases q;rw[cr.D];exact⟨i _ u,m.1,m.2⟩
   cases r;rw[AP.D];exact⟨i _ e,by simp only[AP.cells]at f;omega,hc⟩
  cases x;rw[AB.D];exact⟨by simp only[AB.x]at ht;omega,i _ a,k.1,by simp only[AB.R]at c;omega,k.2,j⟩⟩
def QB(hp:AF->Prop)(K N:Nat)(x:AB):Prop:=hp x.H/\Dq hp K N x.W/\x.R.length<=K/\∀r∈x.R,hp r.H/\r.cells.length<=K/\∀c∈r.cells,hp c.H/\Dq hp K N c.W
theorem Ci{hp:AF->Prop}{K N:Nat}{l:List AB}:Dq hp K (N+1) l↔l.length<=K/\Ak l<=K/\∀x∈l,QB hp K N x:=Iff.rfl
theorem PO{hp:AF->Prop}{K N:Nat}{x:AB}(H:QB hp K N x)(t:ByteArray):QB hp K N (.mk x.k x.code x.id t x.H x.W x.R):=by cases x;exact H
theorem Oj(out:List AB)(x:AB):Ak (AQ out x)<=Ak out+x.x.size:=by
 unfold AQ;split;omega;split;rename_i y a;obtain⟨ys,rfl⟩:∃ys,out=ys++[y]:=by
  rcases List.eq_nil_or_concat out with rfl|⟨ys,z,rfl⟩
  simp at a;simp only[List.concat_eq_append]at a ⊢;rw[vg]at a;cases a;exact⟨ys,rfl⟩
 split;simp[Ak,AB.cz,AB.x];omega;simp[Ak];omega;simp[Ak]
theorem QE{p:AB->Prop}(hp:∀x t,p x->p (.mk x.k x.code x.id t x.H x.W x.R)){out:List AB}{x:AB}(h1:∀y∈out,p y)(h2:p x):∀y∈AQ out x,p y:=λy a=>by
 rcases LA a with h|h|⟨z,b,h⟩
 exact h1 y h;rw[h];exact h2;rw[h];exact hp z _ (h1 z b)
theorem KG(l:List AB)(out:List AB):Ak (l.foldl AQ out)<=Ak out+Ak l:=by
 induction l generalizing out with
 | nil=>simp[Ak]
 | cons a l ih=>
  have h1:=ih (AQ out a);have h2:=Oj out a;have e:Ak (a::l)=a.x.size+Ak l:=by simp[Ak]
  simp only[J5];omega
theorem KE(l:List AB)(out:List AB):(l.foldl AQ out).length<=out.length+l.length:=by
 induction l generalizing out with
 | nil=>simp
 | cons a l ih=>
  have h1:=ih (AQ out a);have h2:=K9 out a;simp only[J5,qJ];omega
theorem Gr{p:AB->Prop}(hp:∀x t,p x->p (.mk x.k x.code x.id t x.H x.W x.R))(l:List AB)(out:List AB)(h1:∀y∈out,p y)(h2:∀y∈l,p y):∀y∈l.foldl AQ out,p y:=by
 induction l generalizing out with
 | nil=>exact h1
 | cons a l ih=>exact ih (AQ out a) (QE hp h1 (h2 a (by simp))) λy hy=>h2 y (by simp[hy])
theorem FD{hp:AF->Prop}{K:Nat}:∀{N:Nat} {l:List AB},Dq hp K N l->Dq hp K N (AO l)
 | N+1,l,H=>by
  rw[Ci]at H ⊢;unfold AO Cy;rw[Ve];refine⟨?_,?_,?_⟩;have:=KE (l.map AB.N) [];simp at this;omega;have:=KG (l.map AB.N) [];have e:Ak (l.map AB.N)=Ak l:=by simp only[Ak,List.map_map];congr 1;exact qL λx _=>by simp only[Function.comp_apply,(WY x).2.2.2.1]
  have k:Ak []=0:=rfl;rw[e,k]at this;omega;refine Gr (p:=QB hp K N) (λx t h=>PO h t) _ _ (λy g=>by cases g) λy g=>?_;obtain⟨x,q,rfl⟩:=ql.1 g;obtain⟨a,b,c,d⟩:=H.2.2 x q;obtain⟨_,_,_,_,m,n,i⟩:=WY x;refine⟨by rw[m];exact a,by rw[n];exact FD b,?_,?_⟩;rw[i];have:=JM (λr=>!decide (r.cells.length=0)) (x.R.map AP.N);simp only[qf]at this;omega;rw[i];intro r o;obtain⟨r0,h0,rfl⟩:=ql.1 (Kq.1 o).1;obtain⟨u,v,w⟩:=d r0 h0;have f:(AP.N r0).H=r0.H/\(AP.N r0).cells=r0.cells.map cr.N:=by cases r0;rw[AP.N,Ta];exact⟨rfl,rfl⟩
  refine⟨by rw[f.1];exact u,by rw[f.2,qf];exact v,?_⟩;rw[f.2];intro c hc;obtain⟨c0,h1,rfl⟩:=ql.1 hc;obtain⟨s,z⟩:=w c0 h1;have j:(cr.N c0).H=c0.H/\(cr.N c0).W=AO c0.W:=by cases c0;rw[cr.N];exact⟨rfl,rfl⟩
  exact⟨by rw[j.1];exact s,by rw[j.2];exact FD z⟩
theorem OI{y:AB}{a b:Nat}:(y.C_ (y.x.extract a b)).x.size<=y.x.size:=by
 cases y;simp[AB.C_,AB.x];omega
theorem Py(a:Int)(s:List AB×List AB)(p:Int×AB):Ak (B7 a s p).1<=Ak s.1+p.2.x.size/\Ak (B7 a s p).2<=Ak s.2+p.2.x.size:=by
 unfold B7;split;exact⟨by simp[Bn];simp[Ak],by simp⟩;split;exact⟨by simp,by simp[Bn];simp[Ak]⟩;dsimp only;simp only[Bn];constructor;have:∀x:AB,Ak [x]=x.x.size:=by simp[Ak]
 rw[this];have:=@OI p.2;exact Nat.add_le_add_left (this) _;have:∀x:AB,Ak [x]=x.x.size:=by simp[Ak]
 rw[this];have:=@OI p.2;exact Nat.add_le_add_left (this) _
theorem Lc(l:List AB)(a:Int):∀k,k<=l.length->Ak (CV l a k).1<=Ak (l.take k)/\Ak (CV l a k).2<=Ak (l.take k)
 | 0,_=>by simp[CV,Ak]
 | k+1,h=>by
  rw[Fx l a k h,qb h,Bn];have h1:=Lc l a k (by omega);have h2:=Py a (CV l a k) (BQ (l.take k),l[k]);have h3:Ak [l[k]]=l[k].x.size:=by simp[Ak]
  dsimp only at h2;omega
theorem RA{p:AB->Prop}(hp:∀x t,p x->p (.mk x.k x.code x.id t x.H x.W x.R))(e:Int)(s:List AB×List AB)(q:Int×AB)(h1:∀y∈s.1,p y)(h2:∀y∈s.2,p y)(d:p q.2):(∀y∈(B7 e s q).1,p y)/\∀y∈(B7 e s q).2,p y:=by
 have c:∀(a:List AB)(y:AB),(∀z∈a,p z)->p y->∀z∈a++[y],p z:=λa y h h' z b=>by
  rcases qd.1 b with b|b;exact h z b;rw[qy.1 b];exact h'
 unfold B7;split;exact⟨c _ _ h1 d,h2⟩;split;exact⟨h1,c _ _ h2 d⟩;exact⟨c _ _ h1 (hp _ _ d),c _ _ h2 (hp _ _ d)⟩
theorem Hk{p:AB->Prop}(hp:∀x t,p x->p (.mk x.k x.code x.id t x.H x.W x.R))(l:List AB)(a:Int)(h:∀y∈l,p y):∀k,k<=l.length->(∀y∈(CV l a k).1,p y)/\∀y∈(CV l a k).2,p y
 | 0,_=>by simp[CV]
 | k+1,hk=>by
  rw[Fx l a k hk];have h1:=Hk hp l a h k (by omega);exact RA hp _ _ _ h1.1 h1.2 (h _ (qi _))
theorem Nz{hp:AF->Prop}{K N:Nat}{l:List AB}(a:Int)(H:Dq hp K (N+1) l):Dq hp K (N+1) (Ad l a).1/\Dq hp K (N+1) (Ad l a).2:=by
 rw[Ci]at H;have h1:=D9 l a;have h2:=Lc l a _ (qa _);have b:=Hk (p:=QB hp K N) (λx t h=>PO h t) l a H.2.2 _ (qa _);rw[qm]at h2;exact⟨⟨by omega,by have:=h2.1;unfold Ad;omega,b.1⟩,⟨by omega,by have:=h2.2;unfold Ad;omega,b.2⟩⟩
theorem Gu{hp:AF->Prop}{K N:Nat}{l:List AB}(a b:Int)(H:Dq hp K (N+1) l):Dq hp K (N+1) (Ab l a b).1:=by
 unfold Ab;split;exact FD (Nz a (Nz b H).1).2;exact⟨by simp,by simp[Ak],by simp⟩
theorem Oo(l:List AB):(AO l).length<=l.length:=by
 have:=KE (AB.nrmL l) [];rw[Ve]at this;unfold AO Cy;rw[Ve];simpa using this
theorem IR(l:List AB)(a b:Int):(Ab l a b).1.length<=l.length:=by
 unfold Ab;split;have h1:=D9 l b;have h2:=D9 (Ad l b).1 a;have h3:=Oo (Ad (Ad l b).1 a).2;dsimp only;omega;simp
structure CI where
 H:AF
 mid:Bool
 units:Int
def CI.e(p:CI):SV:=.agg (p.H.g++[.bool p.mid,AA p.units])
structure BH where
 id:Int
 a:Int
 b:Int
def BH.e(s:BH):SV:=.agg [AA s.id,AA s.a,AA s.b]
def AB.put(x:AB)(h:AF)(f:List AB)(r:List AP):AB:=.mk x.k x.code x.id x.x h f r
section
variable{σ:Type}(f:σ->CI->AF×Bool×σ)(it:Int->List AB->Bool->σ->List AB×σ)(mid:Bool)
def DH(q:List cr×σ)(c:cr):List cr×σ:=
 if(f q.2 ⟨c.H,mid,1⟩).2.1 then(q.1++[.mk c.id (f q.2 ⟨c.H,mid,1⟩).1 (it c.id c.W mid (f q.2 ⟨c.H,mid,1⟩).2.2).1],(it c.id c.W mid (f q.2 ⟨c.H,mid,1⟩).2.2).2)
 else(q.1,(f q.2 ⟨c.H,mid,1⟩).2.2)
def Er(l:List cr)(s:σ):List cr×σ:=l.foldl (DH f it mid) ([],s)
def EG(q:List AP×σ)(r:AP):List AP×σ:=
 if(f q.2 ⟨r.H,mid,1⟩).2.1 then(q.1++[.mk (f q.2 ⟨r.H,mid,1⟩).1 (Er f it mid r.cells (f q.2 ⟨r.H,mid,1⟩).2.2).1],(Er f it mid r.cells (f q.2 ⟨r.H,mid,1⟩).2.2).2)
 else(q.1,(f q.2 ⟨r.H,mid,1⟩).2.2)
def HY(l:List AP)(s:σ):List AP×σ:=l.foldl (EG f it mid) ([],s)
def Cm(x:AB)(s:σ):(List AB×List AP)×σ:=
 if x.k=6 then(((it x.id x.W mid s).1,x.R),(it x.id x.W mid s).2)
 else if x.k=7 then((x.W,(HY f it mid x.R s).1),(HY f it mid x.R s).2)
 else((x.W,x.R),s)
def CL(q:List AB×σ)(x:AB):List AB×σ:=
 let r:=f q.2 ⟨x.H,mid,(BF [x]).1⟩
 if r.2.1 then(q.1++[x.put r.1 (Cm f it mid x r.2.2).1.1 (Cm f it mid x r.2.2).1.2],(Cm f it mid x r.2.2).2)
 else(q.1,r.2.2)
def A8(l:List AB)(s:σ):List AB×σ:=l.foldl (CL f it mid) ([],s)
end
section
variable{σ:Type}(f:σ->CI->AF×Bool×σ)(sc:BH)
def F9(id:Int)(l:List AB)(mid:Bool):Bool:=decide (id=sc.id) && !mid&&decide (0<=sc.a)&&decide (sc.a<=sc.b)&&decide (sc.b<=(BF l).1)
def AT:Nat->Int->List AB->Bool->σ->List AB×σ
 | 0,_,_,_,s=>([],s)
 | N + 1, id, l, mid, s =>
  if F9 sc id l mid then
   let p1:=A8 f (AT N) false (Ab l 0 sc.a).1 s
   let p2:=A8 f (AT N) true (Ab l sc.a sc.b).1 p1.2
   let p3:=A8 f (AT N) false (Ab l sc.b (BF l).1).1 p2.2
   (p1.1++p2.1++p3.1,p3.2)
  else A8 f (AT N) mid l s
end
theorem KH{α β:Type}(g:β->α->β)(b:β)(l:List α)(i:Nat)(x:α)(h:i<l.length)(a:l[i]=x):(l.take (i+1)).foldl g b=g ((l.take i).foldl g b) x:=by
 rw[qb h,UU,a];rfl
section
variable{σ:Type}{f:σ->CI->AF×Bool×σ}{it:Int->List AB->Bool->σ->List AB×σ}{mid:Bool}
theorem NQ(l:List cr)(z:List cr×σ):(l.foldl (DH f it mid) z).1.length<=z.1.length+l.length:=by
 induction l generalizing z with
 | nil=>simp
 | cons a l ih=>
  have:=ih (DH f it mid z a);have h2:(DH f it mid z a).1.length<=z.1.length+1:=by unfold DH;split<;>simp
  simp only[J5,qJ];omega
theorem PZ(l:List AP)(z:List AP×σ):(l.foldl (EG f it mid) z).1.length<=z.1.length+l.length:=by
 induction l generalizing z with
 | nil=>simp
 | cons a l ih=>
  have:=ih (EG f it mid z a);have h2:(EG f it mid z a).1.length<=z.1.length+1:=by unfold EG;split<;>simp
  simp only[J5,qJ];omega
theorem HF(l:List AB)(z:List AB×σ):(l.foldl (CL f it mid) z).1.length<=z.1.length+l.length:=by
 induction l generalizing z with
 | nil=>simp
 | cons a l ih=>
  have:=ih (CL f it mid z a);have h2:(CL f it mid z a).1.length<=z.1.length+1:=by unfold CL;dsimp only;split<;>simp
  simp only[J5,qJ];omega
end
section
variable{hp:AF->Prop}{σ:Type}{f:σ->CI->AF×Bool×σ}{it:Int->List AB->Bool->σ->List AB×σ}{mid:Bool}{K N:Nat}
theorem JS{α β:Type}(g:β->α->β)(I:β->Prop):∀(l:List α)(b:β),I b->(∀b x,x∈l->I b->I (g b x))->I (l.foldl g b)
 | [],_,h,_=>h
 | x::l,b,h,H=>JS g I l _ (H b x (by simp) h) λb y a=>H b y (by simp[a])
theorem Eu{α:Type}{p:α->Prop}{l:List α}{x:α}(h:∀y∈l,p y)(b:p x):∀y∈l++[x],p y:=λy a=>by
 rcases qd.1 a with a|a;exact h y a;rw[qy.1 a];exact b
theorem IH{sc:BH}(k:∀s p,hp p.H->hp (f s p).1):∀(N:Nat)(id:Int)(l:List AB)(mid:Bool)(s:σ),Dq hp K N l->Dq hp (3*K) N (AT f sc N id l mid s).1/\(AT f sc N id l mid s).1.length<=3*K
 | 0,_,_,_,_,h=>h.elim
 | N + 1, id, l, mid, s, h => by
  have d:∀mid l s,Dq hp K (N+1) l->(A8 f (AT f sc N) mid l s).1.length<=K/\Ak (A8 f (AT f sc N) mid l s).1<=K/\∀x∈(A8 f (AT f sc N) mid l s).1,QB hp (3*K) N x:=by
   clear h;intro mid l s h;obtain⟨h1,h2,w⟩:=Ci.1 h;have cells:∀(cs:List cr) s,cs.length<=K->(∀c∈cs,hp c.H/\Dq hp K N c.W)->(Er f (AT f sc N) mid cs s).1.length<=3*K/\∀c∈(Er f (AT f sc N) mid cs s).1,hp c.H/\Dq hp (3*K) N c.W:=λcs s hl hc=>by
    refine⟨by have:=NQ (f:=f) (it:=AT f sc N) (mid:=mid) cs ([],s);simp at this;unfold Er;omega,?_⟩;refine JS _ (λq:List cr×σ=>∀c∈q.1,hp c.H/\Dq hp (3*K) N c.W) cs _ (by simp) λq c g i=>?_;unfold DH;split;exact Eu i ⟨k _ _ (hc c g).1,(IH k N _ _ _ _ (hc c g).2).1⟩;exact i
   have rows:∀(rs:List AP) s,rs.length<=K->(∀r∈rs,hp r.H/\r.cells.length<=K/\∀c∈r.cells,hp c.H/\Dq hp K N c.W)->(HY f (AT f sc N) mid rs s).1.length<=3*K/\∀r∈(HY f (AT f sc N) mid rs s).1,hp r.H/\r.cells.length<=3*K/\∀c∈r.cells,hp c.H/\Dq hp (3*K) N c.W:=λrs s hl hc=>by
    refine⟨by have:=PZ (f:=f) (it:=AT f sc N) (mid:=mid) rs ([],s);simp at this;unfold HY;omega,?_⟩;refine JS _ (λq:List AP×σ=>∀r∈q.1,hp r.H/\r.cells.length<=3*K/\∀c∈r.cells,hp c.H/\Dq hp (3*K) N c.W) rs _ (by simp) λq r g i=>?_;unfold EG;split;exact Eu i ⟨k _ _ (hc r g).1,cells _ _ (hc r g).2.1 (hc r g).2.2⟩;exact i
   refine⟨by have:=HF (f:=f) (it:=AT f sc N) (mid:=mid) l ([],s);simp at this;unfold A8;omega,?_,?_⟩;have:∀(l:List AB)(q:List AB×σ),Ak (l.foldl (CL f (AT f sc N) mid) q).1<=Ak q.1+Ak l:=by
    intro l
    induction l with
    | nil=>intro q;simp
    | cons a l ih =>
     intro q;have e:Ak (a::l)=a.x.size+Ak l:=by simp[Ak]
     have h1:=ih (CL f (AT f sc N) mid q a);have h2:Ak (CL f (AT f sc N) mid q a).1<=Ak q.1+a.x.size:=by
      unfold CL;dsimp only;split;rw[Bn];simp[Ak,AB.put,AB.x];dsimp only;omega
     simp only[J5];omega
   have:=this l ([],s);have v:Ak []=0:=rfl;unfold A8;simp only[v]at this;omega;refine JS _ (λq:List AB×σ=>∀x∈q.1,QB hp (3*K) N x) l _ (by simp) λq x g i=>?_;obtain⟨a1,a2,a3,a4⟩:=w x g;unfold CL;dsimp only;split;refine Eu i ?_;have o:K<=3*K:=by omega
   have up:Dq hp (3*K) N x.W:=a2.mono (λ_ h=>h) o;have up2:x.R.length<=3*K/\∀r∈x.R,hp r.H/\r.cells.length<=3*K/\∀c∈r.cells,hp c.H/\Dq hp (3*K) N c.W:=⟨by omega,λr m=>⟨(a4 r m).1,by have:=(a4 r m).2.1;omega,λc hc=>⟨((a4 r m).2.2 c hc).1,((a4 r m).2.2 c hc).2.mono (λ_ h=>h) o⟩⟩⟩
   unfold Cm;split;exact⟨k _ _ a1,(IH k N _ _ _ _ a2).1,up2⟩;split;exact⟨k _ _ a1,up,rows _ _ a3 a4⟩;exact⟨k _ _ a1,up,up2⟩;exact i
  rw[AT];split;have n:=d false _ s (Gu 0 sc.a h);generalize A8 f (AT f sc N) false (Ab l 0 sc.a).1 s=q1 at n ⊢;have t:=d true _ q1.2 (Gu sc.a sc.b h);dsimp only;generalize A8 f (AT f sc N) true (Ab l sc.a sc.b).1 q1.2=q2 at t ⊢;have u:=d false _ q2.2 (Gu sc.b (BF l).1 h);generalize A8 f (AT f sc N) false (Ab l sc.b (BF l).1).1 q2.2=q3 at u ⊢;refine⟨Ci.2 ⟨by simp;omega,by simp only[Bn];omega,λx j=>?_⟩,by simp;omega⟩;simp only[qd]at j;rcases j with(j|j)|j;exact n.2.2 x j;exact t.2.2 x j;exact u.2.2 x j;have n:=d mid _ s h;exact⟨Ci.2 ⟨by omega,by omega,n.2.2⟩,by omega⟩
end
theorem TM{hp:AF->Prop}{L:List Int}(d:∀h,hp h->∀u∈h.all,u∈L){K:Nat}:∀{N:Nat} {l:List AB},Dq hp K N l->∀u∈AB.U l,u∈L
 | N + 1, l, H => by
  obtain⟨n,o,b⟩:=Ci.1 H;clear H n o
  induction l with
  | nil=>simp[AB.U]
  | cons x l ih=>
   intro u a;rw[AB.U,qd]at a;rcases a with a|a;obtain⟨a1,a2,a3,a4⟩:=b x (by simp);cases x with
   | mk k c i t h f r=>
    simp only[AB.us,qd,AB.H,AB.W,AB.R]at *;rcases a with a|a;exact d h a1 u a;split at a;exact TM d a2 u a;split at a;clear a3 b
    induction r with
    | nil=>simp[AP.U]at a
    | cons r rs ihr=>
     rw[AP.U,qd]at a;rcases a with a|a;obtain⟨b1,g,e⟩:=a4 r (by simp);cases r with
     | mk h2 cs=>
      simp only[AP.us,qd,AP.H,AP.cells]at *;rcases a with a|a;exact d h2 b1 u a;clear a4 ihr g
      induction cs with
      | nil=>simp[cr.U]at a
      | cons q cs ihc=>
       rw[cr.U,qd]at a;rcases a with a|a;obtain⟨j,m⟩:=e q (by simp);cases q with
       | mk i3 b f3=>
        simp only[cr.us,qd,cr.H,cr.W]at *;rcases a with a|a;exact d b j u a;exact TM d m u a
       exact ihc (λc hc=>e c (by simp[hc])) a
     exact ihr (λr p=>a4 r (by simp[p])) a
    cases a
   exact ih (λx s=>b x (by simp[s])) u a
theorem Rb:∀{l L:List Int},l.Nodup->(∀u∈l,u∈L)->l.length<=L.length
 | [],_,_,_=>by simp
 | a::l,L,h,H=>by
  rw[vd]at h;have b:=H a (by simp);have:=Rb (l:=l) (L:=L.erase a) h.2 λu c=>(List.mem_erase_of_ne (by rintro rfl;exact h.1 c)).2 (H u (by simp[c]));rw[List.length_erase_of_mem b]at this;have hp:0<L.length:=List.length_pos_of_mem b;simp only[qJ];omega
theorem Xx{X L:List Int}(h:∀u∈X,u∈L):(BU [] X).length<=L.length:=
 Rb (J2 X [] List.nodup_nil) λu a=>h u (by simpa using(Id u X []).1 a)
end Go.Proofs.YtgakninlhfkkmaaGreat.Sh
