/- A part of the proof (part 8 of 17). -/
import Derived.Test.YtgakninlhfkkmaaGreatN7
namespace Go.Proofs.YtgakninlhfkkmaaGreat.Sh
open Proofs
set_option maxRecDepth 10000
theorem AE.setText_sized {y:AE} (h:y.sized) (a b:Nat):(y.setText (y.text.extract a b)).sized:=by
 cases y with
 | mk k c i t hd f r=>
  simp only[AE.setText,AE.sized,AE.text,AE.kind,AE.code,AE.id,AE.head,AE.flow,AE.rows]at h ⊢;refine⟨?_,h.2⟩;have:=h.1;simp;omega
theorem MO (cu:Int) (s:List AE×List AE) (p:Int×AE) (hp:p.2.sized) (b:∀x∈s.1,x.sized) (h2:∀x∈s.2,x.sized):(∀x∈(Cb cu s p).1,x.sized)/\∀x∈(Cb cu s p).2,x.sized:=by
 unfold Cb;split;refine⟨λx a=>?_,h2⟩;rcases qe.1 a with a|a;exact b x a;rw[qv.1 a];exact hp;split;refine⟨b,λx a=>?_⟩;rcases qe.1 a with a|a;exact h2 x a;rw[qv.1 a];exact hp;refine⟨λx a=>?_,λx a=>?_⟩;rcases qe.1 a with a|a;exact b x a;rw[qv.1 a];exact AE.setText_sized hp _ _;rcases qe.1 a with a|a;exact h2 x a;rw[qv.1 a];exact AE.setText_sized hp _ _
theorem I1 (l:List AE) (cu:Int) (a:∀x∈l,x.sized):∀k,k<=l.length->(∀x∈(DJ l cu k).1,x.sized)/\∀x∈(DJ l cu k).2,x.sized
 | 0,_=>by simp[DJ]
 | k+1,h=>by
  rw[Gw l cu k h];have h2:=I1 l cu a k (by omega);exact MO _ _ _ (a _ (ql _)) h2.1 h2.2
theorem Hl (l:List AE) (cu:Int) (a:AE.sizedL l):AE.sizedL (Bj l cu).1/\AE.sizedL (Bj l cu).2:=
 ⟨vd (I1 l cu (ka a) _ (qa _)).1,vd (I1 l cu (ka a) _ (qa _)).2⟩
theorem EU (l:List AE) (cu:Int):(Bj l cu).1.length<=l.length/\(Bj l cu).2.length<=l.length:=LO l cu _ (qa _)
theorem AE.sizedL_text {l:List AE} (h:AE.sizedL l):∀x∈l,x.text.size<=1048576:=λx a=>by
 have:=ka h x a;cases x;simp only[AE.sized,AE.text]at this ⊢;exact this.1
def Ad (l:List AE) (a b:Int):List AE×Int:=if ET l a b=0 then(Ac (Bj (Bj l b).1 a).2,0)else([],ET l a b)
theorem Rh (l:List AE) (a b:Int) (hl:l.length<=1048576) (c:AE.sizedL l):PC 180 [AG l,AA a,AA b] (.tup [AG (Ad l a b).1,AA (Ad l a b).2]):=by
 intro h n;refine gq Tryz.func180 rfl λd=>?_;simp[go_sem];refine(aX l a b hl (AE.sizedL_text c)).use ?_;by_cases hc:ET l a b=0;have s1:=(Hl l b c).1;have l1:=(EU l b).1;have s2:=(Hl _ a s1).2;have l2:=(EU (Bj l b).1 a).2;simp[go_sem,hc];refine(Xh l b hl (AE.sizedL_text c)).use ?_;simp[go_sem];refine(Xh _ a (by omega) (AE.sizedL_text s1)).use ?_;simp[go_sem];refine(c73 _ (by omega) s2).use ?_;simp[go_sem];refine As d (by simp[closed,closedL,AE.E.closedL]) ?_;simp[Ad,hc];simp[go_sem,hc];have e:Ad l a b=([],ET l a b):=by simp[Ad,hc]
 rw[e];exact Dy 2 d AB (.inr ⟨BC (by simp),IO,trivial⟩) (by simp[closed,closedL])
def AF.revs (h:AF):List Int:=(if h.ins=0 then[]else[h.ins])++h.dels.map (·.rev)++h.layers.map (·.rev)
def AF.revsK (h:AF) (i j:Nat):List Int:=(if h.ins=0 then[]else[h.ins])++(h.dels.take i).map (·.rev)++(h.layers.take j).map (·.rev)
theorem AF.revsK_len (h:AF) (i j:Nat) (hi:i<=h.dels.length) (hj:j<=h.layers.length):(h.revsK i j).length<=1+i+j:=by
 unfold AF.revsK;split<;>simp<;>omega
theorem Kx {H:Hp} {n m k p:Nat} {es:List Int} {x:Int} {o:Option Nat} (b:Ar n m 1 o (es.map AA)) (hl:es.length<=1073741823) (a:H k=some (.cells [AA x])) (h2:∀j,o=some j->H j=some (.cells (es.map AA))):
 AU Tryz.prog H p .append [61,61] [AM 1 o (es.map AA),.sl k 0 1 1 true]=some { val:=.sl p 0 1 (es.length+1) false,upd:=o.map λj=>(j,none),new:=some (.cells (es.map AA++[AA x])) }:=by
 have:=Dp (P:=Tryz.prog) (H:=H) (t:=61) (t2:=61) (el:=3) (by simp[go_sem]) (by simp[go_sem]) (by simp[go_sem]) (by simp) (by simp[go_sem]) (by simp[go_sem]) (by simp[go_sem]) (by simp;omega) b (e:=AA x) rfl a (λj e=>by rw[h2 j e,Dv]) p;rw[this,Dv];simp[SV.cells]
theorem JI (o:Option Nat) (l:List Int) (h:Hp):AN o (l.map AA) h=match o with|none=>h|some j=>hset h j (some (.cells (l.map AA))):=by
 cases o<;>simp[AN,Dv]
theorem Zp (a:AF) (B:a.sized) (u:a.revs.length<=1048576):PC 114 [a.enc] (.imm 1 ((DI (Ca a.revs)).map AA) false):=by
 intro h n;refine Db Tryz.func114 rfl λg=>?_;have w:=g.none (qa n);refine BP 2 [(1,.iptr a.flat)] h (λm=>m=n+1) ?_ (λm t=>?_);simp[go_sem,AF.enc];exact⟨AV w (by simp[AC]),AQ g (qa _) AB⟩;subst t;refine BM 1 (α:=Unit) (λ_=>[(1,.iptr a.flat),(3,AM 1 none [])]) (λ_=>h) (λ_ m=>m=n+1) (by simp[go_sem,AM]) (λ_ m t=>?_);subst t;refine BM 1 (α:=Option Nat) (λo=>[(1,.iptr a.flat),(3,AM 1 o ((a.revsK 0 0).map AA))]) (λo=>AN o ((a.revsK 0 0).map AA) h) (λo m=>n<m/\Ar (n+1) m 1 o ((a.revsK 0 0).map AA)) ?_ (λo m t=>?_);by_cases e:a.ins=0;simp[go_sem,AF.flat,e,AF.revsK];exact⟨none,jK _ _ _,IO,AB⟩;have s:=λ(H:Hp) (k p:Nat) (C:H k=some (.cells [AA a.ins]))=>Kx (H:=H) (k:=k) (p:=p) (es:=[]) (x:=a.ins) (jK 0 0 1) (by simp) C (by simp);simp only[qS,jI,kh,qE]at s;simp[go_sem,AF.flat,e,AF.revsK];rw[s _ _ _ (by simp[AC])];simp[go_sem];refine⟨some (n+1+1),?_,?_,?_⟩;exact(jK (n+1) (n+1) 1).push (e:=AA a.ins) rfl rfl (by omega) (by omega);simp[AM,IO];intro j y;have:=g j y;simp only[AN,hset,SV.cells,qK,jY,jq];grind;obtain⟨f,b⟩:=t;refine AH ?_;simp[go_sem,AF.flat];refine An 1 (α:=Nat×Option Nat) (λq=>[(1,.iptr a.flat),(3,AM 1 q.2 ((a.revsK q.1 0).map AA)),(20,AP a.dels),(21,AA a.dels.length),(22,AA q.1)]) (λq=>AN q.2 ((a.revsK q.1 0).map AA) h)
  (λq m=>q.1<=a.dels.length/\n<m/\Ar (n+1) m 1 q.2 ((a.revsK q.1 0).map AA)) (λq=>a.dels.length-q.1) (0,o) ?_ ?_ AB ?_
 exact⟨qg _,f,b⟩;simp[Ai,AF.flat];clear b f;rintro⟨i,o⟩ m ⟨hi,f,b⟩;dsimp only at hi b ⊢;have hsd:=B.dels;have hsl:=B.layers;have l:=a.revsK_len i 0 hi (qg _);have c:∀j,o=some j->n<j/\j<m:=λj e=>by have:=b.lt j e;omega
 by_cases r:i<a.dels.length;have w1:=wS i (by omega);obtain⟨x,v⟩:∃x,a.dels[i]=x:=⟨_,rfl⟩
 have d:a.revsK (i+1) 0=a.revsK i 0++[x.rev]:=by
  unfold AF.revsK;rw[qb r,v];simp
 simp[go_sem,r,v,Az.enc,AC,AS,AF.flat];rw[Kx (x:=x.rev) b (by omega) (by simp[AC]) (by
  intro j e;have:=c j e;subst e;simp only[JI,hset];grind)]
 simp[go_sem,w1,-Int.natCast_add];refine⟨i+1,by omega,some (m+1+1),⟨by omega,by omega,?_⟩,⟨?_,IO⟩,?_⟩;rw[d,qc];exact b.push rfl rfl (by omega) (by omega);rw[d];simp[AM,IO];rw[d];intro j y;have:=g j y;have:=c j;simp only[JI];simp only[hset,qc,qu,qS];cases o<;>simp only[kh,jk,hset]<;>grind;have:i=a.dels.length:=by omega
 subst this;simp[go_sem,AF.flat];refine An 1 (α:=Nat×Option Nat) (λq=>[(1,.iptr a.flat),(3,AM 1 q.2 ((a.revsK a.dels.length q.1).map AA)),(34,AL a.layers),(35,AA a.layers.length),(36,AA q.1)]) (λq=>AN q.2 ((a.revsK a.dels.length q.1).map AA) h)
  (λq m=>q.1<=a.layers.length/\n<m/\Ar (n+1) m 1 q.2 ((a.revsK a.dels.length q.1).map AA)) (λq=>a.layers.length-q.1) (0,o) ?_ ?_ AB ?_
 exact⟨qg _,f,b⟩;simp[Ai,AF.flat];clear b f l c;rintro⟨i,o⟩ m ⟨hi,f,b⟩;dsimp only at hi b ⊢;have l:=a.revsK_len a.dels.length i (qa _) hi;have c:∀j,o=some j->n<j/\j<m:=λj e=>by have:=b.lt j e;omega
 by_cases r:i<a.layers.length;have w1:=wS i (by omega);obtain⟨x,v⟩:∃x,a.layers[i]=x:=⟨_,rfl⟩
 have d:a.revsK a.dels.length (i+1)=a.revsK a.dels.length i++[x.rev]:=by
  unfold AF.revsK;rw[qb r,v];simp
 simp[go_sem,r,v,Am.enc,AC,AS,AF.flat];rw[Kx (x:=x.rev) b (by omega) (by simp[AC]) (by
  intro j e;have:=c j e;subst e;simp only[JI,hset];grind)]
 simp[go_sem,w1,-Int.natCast_add];refine⟨i+1,by omega,some (m+1+1),⟨by omega,by omega,?_⟩,⟨?_,IO⟩,?_⟩;rw[d,qc];exact b.push rfl rfl (by omega) (by omega);rw[d];simp[AM,IO];rw[d];intro j y;have:=g j y;have:=c j;simp only[JI];simp only[hset,qc,qu,qS];cases o<;>simp only[kh,jk,hset]<;>grind;have:i=a.layers.length:=by omega
 subst this;have D:a.revsK a.dels.length a.layers.length=a.revs:=by simp[AF.revsK,AF.revs]
 rw[D]at b l ⊢;cases o with
 | none=>
  have A:=b.none rfl;simp only[J2]at A;simp[go_sem,AF.flat,AM,AN];refine kU (bs:=[.imm 1 [.imm 1 (a.revs.map AA) false] false]) (h2:=h) 2 (AQ g (by omega) AB) ⟨?_,trivial⟩ ((Xc a.revs u).use ?_);rw[A];refine .inr ⟨g.none (show n<=m by omega),by simp,rfl,rfl,[.imm 0 [] true],[.imm 0 [] true],AC _ _ _,by simp[Bg],by simp[SV.storable,SV.cells],?_⟩;exact⟨BC (by simp),trivial⟩;simp[go_sem];exact As g (by simp[closed,Hz.closedL]) rfl
 | some q=>
  have hq:=c q rfl;simp[go_sem,AF.flat,AM];refine kU (bs:=[.imm 1 [.imm 1 (a.revs.map AA) false] false]) (h2:=h) 2 (by intro j y;have:=g j y;simp only[AN,hset];grind) ⟨?_,trivial⟩ ((Xc a.revs u).use ?_);refine .inr ⟨g.none (show n<=m by omega),by simp,rfl,rfl,_,_,AC _ _ _,by simp[Bg];rfl,by simp[SV.storable,SV.cells],?_⟩;refine⟨?_,trivial⟩;have:=DV (h':=hset (AN (some q) (a.revs.map AA) h) m (some (.cells [.sl q 0 1 a.revs.length false]))) (h:=h) (k:=0) (z:=1) (o:=q) (es:=a.revs.map AA) (full:=false) (full':=false) (g.none (by omega)) (by simp) (by rw[AD _ _ (by omega)];simp[AN,hset]) (Hz.size _);simpa using this;simp[go_sem];exact As g (by simp[closed,Hz.closedL]) rfl
theorem Ru (l:List Int) (x:Int):x∈DI l↔x∈l:=(List.mergeSort_perm l _).mem_iff
theorem Nl (l:List Int):(Ca l).length<=l.length:=by have:=IX l l.length (qa _);simpa using this
def AF.uses (h:AF) (rev:Int):Bool:=decide (rev∈h.revs)
theorem c38 (a:AF) (d:a.sized) (b:a.revs.length<=1048576) (rev:Int):PC 38 [a.enc,AA rev] (.bool (a.uses rev)):=by
 intro h n;refine gq Tryz.func38 rfl λc=>?_;simp[go_sem,AF.enc,AF.flat,AC];refine qw (by simpa[AF.enc,AF.flat]using Zp a d b) ?_;simp[go_sem];have hl:(DI (Ca a.revs)).length<=1048576:=by
  have h1:(DI (Ca a.revs)).length=(Ca a.revs).length:=jW _;have:=Nl a.revs;omega
 refine(Vz _ rev hl).use ?_;simp[go_sem];exact Ay c (AQ c (qa _) AB) (by simp[AF.uses,Ru,Ri]) rfl
def Ez (out:List Int) (x:Int):List Int:=if x∈out then out else out++[x]
def Bd (out l:List Int):List Int:=l.foldl Ez out
theorem CF (out a b:List Int):Bd out (a++b)=Bd (Bd out a) b:=kg
theorem LA (x:Int):∀(l out:List Int),x∈Bd out l↔x∈out\/x∈l
 | [],out=>by simp[Bd]
 | a::l,out=>by
  have c:=LA x l (Ez out a);have e:Bd out (a::l)=Bd (Ez out a) l:=rfl;rw[e,c];unfold Ez;split;rename_i h;constructor;rintro(b|b);exact .inl b;exact .inr (qL _ b);rintro(b|b);exact .inl b;rcases qk.1 b with rfl|b;exact .inl h;exact .inr b;simp only[qe,qk,List.not_mem_nil,or_false,or_assoc]
theorem Iu:∀(l out:List Int),out.Nodup->(Bd out l).Nodup
 | [],_,h=>h
 | a::l,out,h=>by
  have e:Bd out (a::l)=Bd (Ez out a) l:=rfl;rw[e];refine Iu l _ ?_;unfold Ez;split;exact h;rename_i hn;rw[List.nodup_append];refine⟨h,by simp,λx c y b=>?_⟩;simp at b;rintro rfl;subst b;exact hn c
theorem OV:∀(l out:List Int),(Bd out l).length<=out.length+l.length
 | [],out=>by simp[Bd]
 | a::l,out=>by
  have e:Bd out (a::l)=Bd (Ez out a) l:=rfl;rw[e];have:=OV l (Ez out a);have h2:(Ez out a).length<=out.length+1:=by unfold Ez;split<;>simp
  simp;omega
theorem Qk (out:List Int) (x:Int):
 (∃i v,DH (AA x) (Ed out) 0=some (some (i,v))/\(Ed out).modify i (λ_=>(AA x,.bool true))=Ed (Ez out x))\/(DH (AA x) (Ed out) 0=some none/\Ed out++[(AA x,.bool true)]=Ed (Ez out x)):=by
 by_cases a:x∈out;obtain⟨j,b,h2⟩:=DS 0 a;refine .inl ⟨0+j,_,b,?_⟩;have:=JD h2;rw[jc,Ez,if_pos a];exact this;refine .inr ⟨Du 0 a,?_⟩;rw[Ez,if_neg a];simp[Ed]
def AF.all (h:AF):List Int:=h.ins::(h.dels.map (·.rev)++h.layers.map (·.rev))
theorem Uh (a:AF) (t:a.sized) (out:List Int) {H:Hp} {n p s:Nat} (hp:H p=some (.cells [.map s])) (h:H s=some (.map (Ed out))):
 BA Tryz.prog 137 [a.enc,.ptr p 0] H n (λv h' n'=>v=.tup []/\h'=hset H s (some (.map (Ed (Bd out a.all))))/\n'=n):=by
 refine Db Tryz.func137 rfl λg=>?_;have hpn:=(g p _ hp).1;have b:=(g s _ h).1;have r:p≠s:=by rintro rfl;rw[hp]at h;cases h
 have e1:p≠n:=by omega
 have e2:s≠n:=by omega
 have hsd:=t.dels;have hsl:=t.layers;have A:∀l:List Int,a.all=a.ins::l->Bd out a.all=Bd (Ez out a.ins) l:=λl e=>by rw[e];rfl
 refine BP 2 [(1,.ptr p 0),(2,.iptr a.flat)] H (λm=>m=n+1) ?_ (λm B=>?_);simp[go_sem,AF.enc,IO];exact⟨AV (g.none (qa n)) (by simp[AC]),AQ g (qa _) AB⟩;subst B;refine BP 1 [(1,.ptr p 0),(2,.iptr a.flat)] (hset H s (some (.map (Ed (Ez out a.ins))))) (λm=>m=n+1) ?_ (λm B=>?_);rcases Qk out a.ins with⟨i,v,d,h2⟩|⟨d,h2⟩<;>simp[go_sem,AF.flat,hp,h,d,h2,CK];subst B;refine AH ?_;simp[go_sem,AF.flat];refine An 1 (α:=Nat) (λi=>[(1,.ptr p 0),(2,.iptr a.flat),(13,AP a.dels),(14,AA a.dels.length),(15,AA i)]) (λi=>hset H s (some (.map (Ed (Bd (Ez out a.ins) ((a.dels.take i).map (·.rev)))))))
  (λi m=>i<=a.dels.length/\n<m) (λi=>a.dels.length-i) 0 ?_ ?_ ?_ ?_
 exact⟨qg _,qP n⟩;simp[Ai,AF.flat];exact AB;rintro i m ⟨hi,f⟩;have w:p≠m:=by omega
 have z:s≠m:=by omega
 by_cases c:i<a.dels.length
 . have w1:=wS i (by omega);obtain⟨x,u⟩:∃x,a.dels[i]=x:=⟨_,rfl⟩
   have b:Bd (Ez out a.ins) ((a.dels.take (i+1)).map (·.rev))=Ez (Bd (Ez out a.ins) ((a.dels.take i).map (·.rev))) x.rev:=by
    rw[qb c,u,qc,CF];rfl
   generalize Bd (Ez out a.ins) ((a.dels.take i).map (·.rev))=o2 at b ⊢;rcases Qk o2 x.rev with⟨k,v,d,h2⟩|⟨d,h2⟩<;>simp[go_sem,AF.flat,c,u,Az.enc,hp,d,h2,CK,w1,AC,AD,w,z,r,-Int.natCast_add]
   all_goals
    refine⟨i+1,by omega,⟨by omega,by omega⟩,IO,?_⟩;rw[<-kz,b];intro j y;have:=g j y;simp only[hset];grind
 . have:i=a.dels.length:=by omega
   subst this;rw[qi];generalize C:Bd (Ez out a.ins) (a.dels.map (·.rev))=out1;simp[go_sem,AF.flat];refine An 1 (α:=Nat) (λi=>[(1,.ptr p 0),(2,.iptr a.flat),(25,AL a.layers),(26,AA a.layers.length),(27,AA i)]) (λi=>hset H s (some (.map (Ed (Bd out1 ((a.layers.take i).map (·.rev)))))))
    (λi m=>i<=a.layers.length/\n<m) (λi=>a.layers.length-i) 0 ?_ ?_ ?_ ?_
   exact⟨qg _,f⟩;simp[Ai,AF.flat];exact AB;clear hi f w z m c;rintro i m ⟨hi,f⟩;have w:p≠m:=by omega
   have z:s≠m:=by omega
   by_cases c:i<a.layers.length
   . have w1:=wS i (by omega);obtain⟨x,u⟩:∃x,a.layers[i]=x:=⟨_,rfl⟩
     have b:Bd out1 ((a.layers.take (i+1)).map (·.rev))=Ez (Bd out1 ((a.layers.take i).map (·.rev))) x.rev:=by
      rw[qb c,u,qc,CF];rfl
     generalize Bd out1 ((a.layers.take i).map (·.rev))=o2 at b ⊢;rcases Qk o2 x.rev with⟨k,v,d,h2⟩|⟨d,h2⟩<;>simp[go_sem,AF.flat,c,u,Am.enc,hp,d,h2,CK,w1,AC,AD,w,z,r,-Int.natCast_add]
     all_goals
      refine⟨i+1,by omega,⟨by omega,by omega⟩,IO,?_⟩;rw[<-kz,b];intro j y;have:=g j y;simp only[hset];grind
   have:i=a.layers.length:=by omega
   subst this;rw[qi];simp[go_sem,AF.flat];have q:Bd out1 (a.layers.map (·.rev))=Bd out a.all:=by
    rw[<-C,<-CF];exact(A _ rfl).symm
   rw[q];refine .inr ⟨0,.tup [],_,IO,by simp[closed,closedL],λo x e=>⟨e,?_⟩,rfl,rfl,rfl⟩;have:=g o x;simp only[hset]at e;split at e;subst_vars;cases e;refine⟨b,?_⟩;simp[BQ,Ed,closed];exact this e
mutual
def AE.us:AE->List Int
 | .mk k _ _ _ h f r=>h.all++(if k=6 then AE.usL f else if k=7 then Aa.usL r else[])
def AE.usL:List AE->List Int
 | []=>[]
 | x::l=>x.us++AE.usL l
def Aa.us:Aa->List Int
 | .mk h c=>h.all++Wl.usL c
def Aa.usL:List Aa->List Int
 | []=>[]
 | x::l=>x.us++Aa.usL l
def Wl.us:Wl->List Int
 | .mk _ h f=>h.all++AE.usL f
def Wl.usL:List Wl->List Int
 | []=>[]
 | x::l=>x.us++Wl.usL l
end
theorem AE.usL_append:∀a b:List AE,AE.usL (a++b)=AE.usL a++AE.usL b
 | [],b=>by simp[AE.usL]
 | x::a,b=>by rw[qz,AE.usL,AE.usL_append a b,AE.usL,qn]
theorem Aa.usL_append:∀a b:List Aa,Aa.usL (a++b)=Aa.usL a++Aa.usL b
 | [],b=>by simp[Aa.usL]
 | x::a,b=>by rw[qz,Aa.usL,Aa.usL_append a b,Aa.usL,qn]
theorem Wl.usL_append:∀a b:List Wl,Wl.usL (a++b)=Wl.usL a++Wl.usL b
 | [],b=>by simp[Wl.usL]
 | x::a,b=>by rw[qz,Wl.usL,Wl.usL_append a b,Wl.usL,qn]
theorem U8 {H h':Hp} {n n' s:Nat} {y:BT} (c:Es H n) (a:s<n) (hc:BQ n y=true) (b:∀j z,hset H s (some y) j=some z->h' j=some z):
 B8 n h' n' (.tup []) (λv h2 d=>v=.tup []/\h2=hset H s (some y)/\d=n):=by
 refine .inr ⟨0,.tup [],_,IO,by simp[closed,closedL],λo x e=>⟨b o x e,?_⟩,rfl,rfl,rfl⟩;simp only[hset]at e;split at e;subst_vars;cases e;exact⟨a,hc⟩;exact c o x e
theorem HY (n:Nat) (out:List Int):BQ n (.map (Ed out))=true:=by simp[BQ,Ed,closed]
theorem bT:∀(N:Nat) (l:List AE),SizeOf.sizeOf l<N->l.length<=1048576->AE.sizedL l->∀(out:List Int) (H:Hp) (n p s:Nat),H p=some (.cells [.map s])->H s=some (.map (Ed out))->
 BA Tryz.prog 138 [AG l,.fn (.func 137) [] [.ptr p 0]] H n (λv h' n'=>v=.tup []/\h'=hset H s (some (.map (Ed (Bd out (AE.usL l)))))/\n'=n):=by
 intro N
 induction N with
 | zero=>intro l h;omega
 | succ N ih=>
 intro l hN hl hs out H n p s hp A;refine gq Tryz.func138 rfl λo=>?_;have hpn:=(o p _ hp).1;have T:=(o s _ A).1;have f:p≠s:=by rintro rfl;rw[hp]at A;cases A
 simp[go_sem];refine An 1 (α:=Nat) (λi=>[(1,.fn (.func 137) [] [.ptr p 0]),(10,AG l),(11,AA l.length),(12,AA i)]) (λi=>hset H s (some (.map (Ed (Bd out (AE.usL (l.take i)))))))
  (λi m=>i<=l.length/\n<=m) (λi=>l.length-i) 0 ?_ ?_ ?_ ?_
 exact⟨qg _,qa n⟩;simp[Ai];intro j y;simp only[hset,km,AE.usL,Bd,List.foldl_nil];grind;rintro i m ⟨hi,g⟩;have d:p≠m:=by omega
 have a:s≠m:=by omega
 by_cases u:i<l.length;have w1:=wS i (by omega);obtain⟨x,V⟩:∃x,l[i]=x:=⟨_,rfl⟩
 have C:x∈l:=by rw[<-V];exact ql u
 have b:=ka hs x C;have W:=D7 b;have U:AE.usL (l.take (i+1))=AE.usL (l.take i)++x.us:=by
  rw[qb u,V,AE.usL_append];simp[AE.usL]
 have K:Bd out (AE.usL (l.take (i+1)))=Bd (Bd out (AE.usL (l.take i))) x.us:=by rw[U,CF]
 generalize Bd out (AE.usL (l.take i))=o2 at K ⊢;simp[go_sem,u,V,qx,AC];refine qC (by simpa[AF.enc,AF.flat]using Uh x.head W.1 o2 (p:=p) (s:=s) (by simp[hset,d,f,hp]) (by simp[hset,a])) ?_;rintro v h' n' ⟨rfl,rfl,rfl⟩;have k:x.us=x.head.all++(if x.kind=6 then AE.usL x.flow else if x.kind=7 then Aa.usL x.rows else[]):=by cases x;rfl
 by_cases k6:x.kind=6;have J:x.flow.length<=1048576/\AE.sizedL x.flow:=by cases x;rw[AE.sized]at b;exact⟨b.2.2.1,b.2.2.2.2.1⟩
 simp[go_sem,AC,AD,a.symm,k6];refine qC (ih x.flow (by have:=Mn C;omega) J.1 J.2 (Bd o2 x.head.all) _ _ p s (by simp[hset,d,f,hp]) (by simp[hset])) ?_;rintro v h' n' ⟨rfl,rfl,rfl⟩;simp[go_sem,w1,-Int.natCast_add];refine⟨i+1,by omega,⟨by omega,by omega⟩,IO,?_⟩;rw[K,k,if_pos k6,CF];intro j y;have:=o j y;simp only[hset];grind;by_cases k7:x.kind=7;have X:x.rows.length<=1048576/\Aa.sizedL x.rows:=by cases x;rw[AE.sized]at b;exact⟨b.2.2.2.1,b.2.2.2.2.2⟩
 rw[if_neg k6,if_pos k7]at k;simp[go_sem,AC,AD,a.symm,k7];generalize L:Bd o2 x.head.all=o3;refine An 1 (α:=Nat) (λq=>[(1,.fn (.func 137) [] [.ptr p 0]),(10,AG l),(11,AA l.length),(12,AA i),(31,A3 x.rows),(32,AA x.rows.length),(33,AA q)]) (λq=>hset H s (some (.map (Ed (Bd o3 (Aa.usL (x.rows.take q)))))))
  (λq m=>q<=x.rows.length/\n<=m) (λq=>x.rows.length-q) 0 ?_ ?_ ?_ ?_
 exact⟨qg _,by omega⟩;simp[Ai];intro j y;have:=o j y;simp only[hset,km,Aa.usL,Bd,List.foldl_nil];grind;clear d a g m;rintro q m ⟨hq,g⟩;have d:p≠m:=by omega
 have a:s≠m:=by omega
 by_cases z:q<x.rows.length;have w2:=wS q (by omega);obtain⟨r,Q⟩:∃r,x.rows[q]=r:=⟨_,rfl⟩
 have G:r∈x.rows:=by rw[<-Q];exact ql z
 have I:=Aa.sizedL_mem X.2 r G;have R:Aa.usL (x.rows.take (q+1))=Aa.usL (x.rows.take q)++r.us:=by
  rw[qb z,Q,Aa.usL_append];simp[Aa.usL]
 have Y:Bd o3 (Aa.usL (x.rows.take (q+1)))=Bd (Bd o3 (Aa.usL (x.rows.take q))) r.us:=by rw[R,CF]
 have S:r.us=r.head.all++Wl.usL r.cells:=by cases r;rfl
 have F:r.head.sized/\r.cells.length<=1048576/\Wl.sizedL r.cells:=by cases r;rw[Aa.sized]at I;exact I
 generalize Bd o3 (Aa.usL (x.rows.take q))=o4 at Y ⊢;simp[go_sem,z,Q,qQ,AC];refine qC (by simpa[AF.enc,AF.flat]using Uh r.head F.1 o4 (p:=p) (s:=s) (by simp[hset,d,f,hp]) (by simp[hset,a])) ?_;rintro v h' n' ⟨rfl,rfl,rfl⟩;simp[go_sem,AC,AD,a.symm];generalize M:Bd o4 r.head.all=o5;refine An 1 (α:=Nat) (λw=>[(1,.fn (.func 137) [] [.ptr p 0]),(10,AG l),(11,AA l.length),(12,AA i),(31,A3 x.rows),(32,AA x.rows.length),(33,AA q),(42,BS r.cells),(43,AA r.cells.length),(44,AA w)]) (λw=>hset H s (some (.map (Ed (Bd o5 (Wl.usL (r.cells.take w)))))))
  (λw m=>w<=r.cells.length/\n<=m) (λw=>r.cells.length-w) 0 ?_ ?_ ?_ ?_
 exact⟨qg _,by omega⟩;simp[Ai];intro j y;have:=o j y;simp only[hset,km,Wl.usL,Bd,List.foldl_nil];grind;clear d a g m;rintro w m ⟨hw,g⟩;have d:p≠m:=by omega
 have a:s≠m:=by omega
 by_cases B:w<r.cells.length;have w3:=wS w (by omega);obtain⟨c,hc⟩:∃c,r.cells[w]=c:=⟨_,rfl⟩
 have D:c∈r.cells:=by rw[<-hc];exact ql B
 have E:=Wl.sizedL_mem F.2.2 c D;have O:Wl.usL (r.cells.take (w+1))=Wl.usL (r.cells.take w)++c.us:=by
  rw[qb B,hc,Wl.usL_append];simp[Wl.usL]
 have Z:Bd o5 (Wl.usL (r.cells.take (w+1)))=Bd (Bd o5 (Wl.usL (r.cells.take w))) c.us:=by rw[O,CF]
 have P:c.us=c.head.all++AE.usL c.flow:=by cases c;rfl
 have t:c.head.sized/\c.flow.length<=1048576/\AE.sizedL c.flow:=by cases c;rw[Wl.sized]at E;exact E
 generalize Bd o5 (Wl.usL (r.cells.take w))=o6 at Z ⊢;simp[go_sem,B,hc,QS,AC];refine qC (by simpa[AF.enc,AF.flat]using Uh c.head t.1 o6 (p:=p) (s:=s) (by simp[hset,d,f,hp]) (by simp[hset,a])) ?_;rintro v h' n' ⟨rfl,rfl,rfl⟩;simp[go_sem,AC,AD,a.symm];refine qC (ih c.flow (by have:=Me C G D;omega) t.2.1 t.2.2 (Bd o6 c.head.all) _ _ p s (by simp[hset,d,f,hp]) (by simp[hset])) ?_;rintro v h' n' ⟨rfl,rfl,rfl⟩;simp[go_sem,w3,-Int.natCast_add];refine⟨w+1,by omega,⟨by omega,by omega⟩,IO,?_⟩;rw[Z,P,CF];intro j y;have:=o j y;simp only[hset];grind;have:w=r.cells.length:=by omega
 subst this;rw[qi];simp[go_sem,w2,-Int.natCast_add];refine⟨q+1,by omega,⟨by omega,by omega⟩,IO,?_⟩;rw[Y,S,CF,M];exact AB;have:q=x.rows.length:=by omega
 subst this;rw[qi];simp[go_sem,w1,-Int.natCast_add];refine⟨i+1,by omega,⟨by omega,by omega⟩,IO,?_⟩;rw[K,k,CF,L];exact AB;simp[go_sem,AC,AD,a.symm,k6,k7,w1,-Int.natCast_add];refine⟨i+1,by omega,⟨by omega,by omega⟩,IO,?_⟩;rw[K,k,if_neg k6,if_neg k7,jq];intro j y;have:=o j y;simp only[hset];grind;have:i=l.length:=by omega
 subst this;rw[qi];simp[go_sem];exact U8 o T (HY _ _) λ_ _ e=>e
section
variable {P : Program} {E : B6} {evs : Operand → SV} {o : Oper} {h : Hp} {n : Nat} {K : SV → Hp → Nat → Prop}
theorem JT {α:Type} (f:α->Nat):∀(L:List α),(L.map f).Nodup->∀(i:Nat) (hi:i<L.length),L.filter (λx=>f x !=f L[i])=L.eraseIdx i
 | a :: L, hn, 0, hi => by
  rw[qu,jA]at hn;rw[jZ];simp only[List.getElem_cons_zero,bne_self_eq_false,qj,if_false,List.eraseIdx_cons_zero];exact jy.2 λx c=>by
   simp only[bne_iff_ne,ne_eq];intro e;exact hn.1 (e▸qy.2 ⟨x,c,rfl⟩)
 | a :: L, hn, i + 1, hi => by
  rw[qu,jA]at hn;rw[jZ];simp only[ju,List.eraseIdx_cons_succ];have b:(f a !=f (L[i]'(by simpa using hi)))=true:=by
   simp only[bne_iff_ne,ne_eq];intro e;exact hn.1 (e▸qy.2 ⟨_,ql _,rfl⟩)
  rw[if_pos b,JT f L hn.2 i (by simpa using hi)]
theorem NQ {t:TypeId} {x:Operand} {m:Nat} {es:List (SV×SV)} (B:o.op=.range t x) (ht:(Ko P t).isSome=true) (N:evs x=.map m) (A:h m=some (.map es))
 (J:K (.ptr n 0) (hset (hset h m none) n (some (.iter es none))) (n+1)):EI E P evs o h n K:=by
 refine⟨by rw[B];simp,λc ev _ _ R F M=>?_⟩;have l:=M x;rw[N,V]at l;obtain⟨f,hρ,s⟩:=l;obtain⟨b',d,a,y,r,G,H⟩:=R.obj _ _ A;rw[hρ]at y;cases y;obtain⟨⟨kt,e⟩,ht⟩:=jn.1 ht;have L:=EE ht;have u:(getObj f).run P c.w=.ok (.map d a) c.w:=by simp[getObj,Sem.run,r]
 have k:(execOp ev o).run P c.w=.ok (.value (.pointer (some ⟨c.w.heap.size,0,none⟩))) (c.w.alloc (.mapIter (some f) a #[] a)):=by
  simp[execOp,B,Instr.range,AO L,s,u]
 have C:=R.kill m A;have i:(c.kill m).ρ n=none:=F n (qa _);have p:=c.kill_ext m;have v:f<c.w.heap.size:=(qp.1 r).1;have q:=(c.kill m).alloc_ext n (.mapIter (some f) a #[] a) i;have D:=C.alloc i (x:=.iter es none) (b:=.mapIter (some f) a #[] a) ⟨c.w.heap.size,f,d,a,#[],by simp[Cx.alloc,Cx.kill],by simp[Cx.alloc,Cx.kill,Bk],
  by simp[Cx.alloc,Cx.kill,Bk,jz,kv v,r],by
   simp only[Cx.alloc,Cx.kill];rintro(z|z);exact z.2 0 hρ;omega,H,by
   have:(d.toList.filter λe=>!(#[]:Array Nat).contains e.born)=d.toList:=jy.2 λ_ _=>by simp
   rw[this];exact vc (λ_ _ g=>⟨kR (p.trans q) g.1,kR (p.trans q) g.2⟩) G,by simp⟩
 refine⟨_,.ptr n 0,_,n+1,(c.kill m).alloc n (.mapIter (some f) a #[] a),by rw[k];rfl,?_,D,λj I=>?_,⟨p.trans q,je n,λj I=>?_⟩,J⟩;rw[V];exact⟨c.w.heap.size,0,by simp[Cx.alloc,Cx.kill],rfl⟩;simp only[Cx.alloc,Cx.kill];rw[if_neg (by omega)];exact F j (by omega);simp only[Cx.alloc,Cx.kill];rw[if_neg (by omega)]
theorem SG {x:Operand} {q:Nat} {left:List (SV×SV)} {p:SV×SV} (v:o.op=.entry x) (I:evs x=.ptr q 0) (G:h q=some (.iter left (some p)))
 (D:K (.tup [p.1,p.2]) h n):EI E P evs o h n K:=by
 refine⟨by rw[v];simp,λc ev _ _ R F H=>?_⟩;have i:=H x;rw[I,V]at i;obtain⟨b,st,hρ,m⟩:=i;obtain⟨b',t,f,d,j,u,z,A,g4,B,g6,C⟩:=R.obj _ _ G;rw[hρ]at u;cases u;obtain⟨e,J,L,M,N⟩:=C p rfl;have s:(getObj b).run P c.w=.ok (.mapIter (some t) d j d) c.w:=by simp[getObj,Sem.run,z]
 have r:(getObj t).run P c.w=.ok (.map f d) c.w:=by simp[getObj,Sem.run,A]
 have g:f.find? (λy=>y.born==e.born)=some e:=by
  rw[<-Array.find?_toList];have:∀l:List MapEntry,(l.map (·.born)).Nodup->e∈l->l.find? (λy=>y.born==e.born)=some e:=by
   intro l
   induction l with
   | nil=>intro _ h;cases h
   | cons a l ih=>
    intro hn k;rw[qu,jA]at hn;rw[List.find?_cons];rcases qk.1 k with rfl|k;simp;have:(a.born==e.born)=false:=by
     simp only[beq_eq_false_iff_ne,ne_eq];intro h2;exact hn.1 (h2▸qy.2 ⟨e,k,rfl⟩)
    rw[this];exact ih hn.2 k
  exact this _ B.2 J
 refine⟨.tuple #[e.key,e.val],.tup [p.1,p.2],h,n,c,?_,by simp only[V,VL];exact⟨_,rfl,_,_,rfl,M,_,_,rfl,N,rfl⟩,R,F,ke n c,D⟩;simp[execOp,v,Instr.entry,m,s,L,r,g]
theorem Pg {x:Operand} {q:Nat} {left:List (SV×SV)} {last:Option (SV×SV)} (ho:o.op=.next x false) (hx:evs x=.ptr q 0) (hq:h q=some (.iter left last))
 (hk:∀(i:Nat) (hi:i<left.length),K (.tup [.bool true,left[i].1,left[i].2]) (hset h q (some (.iter (left.eraseIdx i) (some left[i])))) n) (h0:left=[]->K (.tup [.bool false]) h n):EI E P evs o h n K:=by
 refine⟨by rw[ho];simp,λc ev _ _ R F hv=>?_⟩;have hvx:=hv x;rw[hx,V]at hvx;obtain⟨b,st,hρ,hev⟩:=hvx;obtain⟨b',bm,ents,clock,seen,g1,g2,g3,g4,g5,g6,g7⟩:=R.obj _ _ hq;rw[hρ]at g1;cases g1;have hgo:(getObj b).run P c.w=.ok (.mapIter (some bm) clock seen clock) c.w:=by simp[getObj,Sem.run,g2]
 have hgm:(getObj bm).run P c.w=.ok (.map ents clock) c.w:=by simp[getObj,Sem.run,g3]
 have hgone:(!seen.isEmpty && !ents.isEmpty&&ents.all λy=>decide (y.born ≥ clock))=false:=by
  cases he:ents.isEmpty with
  | true=>simp
  | false =>
   have hne:0<ents.size:=by rcases Nat.eq_zero_or_pos ents.size with h|h;simp[Array.isEmpty,h]at he;exact h
   have:(ents.all λy=>decide (y.born ≥ clock))=false:=by
    rw[Array.all_eq_false];refine⟨0,hne,?_⟩;have:=g5.1 ents[0] (by simp);simp;exact this
   simp[this]
 generalize hL:ents.filter (λy=>!seen.contains y.born)=L;have hLl:L.toList=ents.toList.filter λe=>!seen.contains e.born:=by rw[<-hL];simp
 have BE:L.filter (λy=>decide (y.born<clock))=L:=by
  apply Array.ext';rw[Array.toList_filter];exact jy.2 λy hy=>by
   rw[hLl]at hy;simpa using g5.1 y (qW.1 hy).1
 have hnew:L.filter (λy=>decide (y.born ≥ clock)) = #[]:=by
  apply Array.ext';rw[Array.toList_filter];exact List.filter_eq_nil_iff.2 λy hy=>by
   rw[hLl]at hy;simpa using g5.1 y (qW.1 hy).1
 rw[<-hLl]at g6;have hlen:left.length=L.size:=by have:=g6.length;simpa using this
 by_cases hz:L.size=0
 . have hl0:left=[]:=kD (by omega);have hL0:L = #[]:=Array.eq_empty_of_size_eq_zero hz;refine⟨.tuple #[.bool false],.tup [.bool false],h,n,c,?_,by simp[V,VL],R,F,ke n c,h0 hl0⟩;subst hL0;simp only[execOp,ho,Instr.next,hev,jJ,Sem.run_bind,Sem.run_pure,hgo,Result.andThen_ok,hgm,hgone,qj,if_false,hL,BE,hnew];simp[Question.forced]
 . have hch:∃i w1,(choose (.mapNext L.size)).run P c.w=.ok i w1/\i<L.size/\(w1=c.w\/w1=c.w.drew):=by
    rw[run_choose_drew];by_cases hf:(Question.mapNext L.size).forced=true;rw[if_pos hf];exact⟨0,_,rfl,by omega,.inl rfl⟩;rw[if_neg hf];exact⟨_,_,rfl,Nat.mod_lt _ (by omega),.inr rfl⟩
   obtain⟨i,w1,hch,hi,hw1⟩:=hch;obtain⟨c1,hc1,X1,R1,F1,hρ1⟩:∃c1:Cx,c1.w=w1/\DZ c c1/\Bn h c1/\Fr n c1/\c1.ρ=c.ρ:=by
    rcases hw1 with rfl|rfl;exact⟨c,rfl,kZ c,R,F,rfl⟩;exact⟨c.drew,rfl,c.drew_ext,R.drew,λj hj=>F j hj,rfl⟩
   subst hc1;have hh1:c1.w.heap=c.w.heap:=by rcases hw1 with e|e<;>rw[e]<;>rfl
   have hil:i<left.length:=by omega
   obtain⟨e,he,hr1,hr2⟩:=g6.get (i:=i) (a:=left[i]) (by simp[hil]);have heL:L[i]? = some e:=by simpa using he
   have hemem:e∈ents.toList:=by
    have:=jb he;rw[hLl]at this;exact(qW.1 this).1
   have hisE:L.isEmpty=false:=by cases hb:L.isEmpty with|false=>rfl|true=>(simp at hb;subst hb;simp at hz)
   have hblt:b<c.w.heap.size:=(qp.1 g2).1;have hset':∀ob:Obj,(setObj b ob).run P c1.w=.ok () { c1.w with heap:=c1.w.heap.setIfInBounds b ob }:=λob=>by simp[setObj,Sem.run,hh1,g2]
   have hrun:(execOp ev o).run P c.w=.ok (.value (.tuple #[.bool true,e.key,e.val])) { c1.w with heap:=c1.w.heap.setIfInBounds b (.mapIter (some bm) clock (seen.push e.born) clock) }:=by
    have hcand:((if L.isEmpty then #[none]else #[])++(L ++ #[]).map some:Array (Option MapEntry))=L.map some:=by simp[hisE]
    simp only[execOp,ho,Instr.next,hev,jJ,Sem.run_bind,Sem.run_pure,hgo,Result.andThen_ok,hgm,hgone,qj,if_false,hL,BE,hnew,hcand,Array.size_map,hch];simp[heL,hset']
   have hbm:bm≠b:=by rintro rfl;rw[g2]at g3;cases g3
   obtain⟨R2,X2⟩:=R1.write (w':={ c1.w with heap:=c1.w.heap.setIfInBounds b (.mapIter (some bm) clock (seen.push e.born) clock) }) (y:=.iter (left.eraseIdx i) (some left[i])) hq (by rw[hρ1];exact hρ) (by simp)
    (λb' hb'=>by simp[jH (Ne.symm hb')]) (by simp[rm,hh1,g2]) rfl rfl (λX=>by
      have XX:=X1.trans X;refine⟨b,bm,ents,clock,seen.push e.born,by show c1.ρ q=_;rw[hρ1];exact hρ,by simp[hh1,hblt],?_,?_,g5,?_,?_⟩;show(c1.w.heap.setIfInBounds b _)[bm]? = _;rw[jH hbm.symm,hh1];exact g3;exact λhb=>(XX.keep bm (qp.1 g3).1 g4).1 hb;have hnd:(L.toList.map (·.born)).Nodup:=by rw[hLl];exact g5.2.sublist (List.filter_sublist.map _)
      have hee:L.toList[i]'(by simpa using hi)=e:=by
       have:=(qo.1 he).2;exact this
      have h1:=JT (λx:MapEntry=>x.born) L.toList hnd i (by simpa using hi);rw[hee]at h1;have h2:(ents.toList.filter λx=>!(seen.push e.born).contains x.born)=L.toList.filter λx=>x.born !=e.born:=by
       rw[hLl,List.filter_filter];congr 1;funext x;by_cases hx:x.born=e.born<;>simp[hx]
      rw[h2,h1];exact vc (λ_ _ g=>⟨kR XX g.1,kR XX g.2⟩) (AZ.eraseIdx i g6);intro p hp;cases hp;exact⟨e,hemem,by simp,kR XX hr1,kR XX hr2⟩)
   exact⟨_,.tup [.bool true,left[i].1,left[i].2],_,n,_,hrun,by
    have XX:=X1.trans X2;simp only[V,VL];exact⟨_,rfl,_,_,rfl,rfl,_,_,rfl,kR XX hr1,_,_,rfl,kR XX hr2,rfl⟩,R2,λj hj=>F1 j hj,⟨X1.trans X2,qa _,λj _=>by show c1.ρ j=_;rw[hρ1]⟩,hk i hil⟩
end
structure YK (E:B6) (l:Nat) (ks0:List Int) (J:List Int->(Nat->Prop)->Hp->Nat->Prop):Prop where
 step:∀ks x D h m,(∃rest,(ks++[x]++rest).Perm ks0)->J ks D h m->FJ E Tryz.prog l [AA x] h m (He (J (ks++[x])) (λ_ _ _=>False) D h m)
 keep:∀ks D h m h' m',J ks D h m->m<=m'->(∀o,D o->h' o=h o)->J ks D h' m'
 lt:∀ks D h m,J ks D h m->∀o,D o->o<m
theorem HU {α β:Type} (f:α->β):∀(l:List α) (i:Nat),(l.eraseIdx i).map f=(l.map f).eraseIdx i
 | [],_=>by simp
 | a::l,0=>by simp
 | a::l,i+1=>by simp[HU f l i]
theorem KY {α:Type}:∀(l:List α) (i:Nat) (hi:i<l.length),(l[i]::l.eraseIdx i).Perm l
 | a::l,0,_=>by simp
 | a::l,i+1,hi=>by
  have b:=KY l i (by simpa using hi);simp only[ju,List.eraseIdx_cons_succ];exact(List.Perm.swap _ _ _).trans (b.cons a)
theorem Lt {c b a:List Int} (h:(c++b).Perm a) {i:Nat} (hi:i<b.length):(c++[b[i]]++b.eraseIdx i).Perm a:=by
 refine List.Perm.trans ?_ h;rw[qn];refine List.Perm.append_left c ?_;exact KY b i hi
section
variable {E : B6} {yl : Nat} {J : List Int → (Nat → Prop) → Hp → Nat → Prop}
theorem aH {d:List Int} (Y:YK E yl d J) (es:List (SV×SV)) (R:es.map (·.1)=d.map AA) {H:Hp} {n q s:Nat} {D:Nat->Prop} (N:H q=some (.cells [.map s])) (O:H s=some (.map es)) (C:¬D s) (L:J [] D H n):
 Ak E Tryz.prog 198 [.fn (.yield yl) [] [],.ptr q 0] H n (λ_ h' m'=>∃k D',k.Perm d/\n<=m'/\(∀o,D' o->D o\/(n<=o/\o<m'))/\(∀o,¬D o->o<n->o≠s->h' o=H o)/\J k D' h' m'):=by
 refine gq Tryz.func198 rfl λM=>?_;have hqn:=(M q _ N).1;have hsn:=(M s _ O).1;have r:=Y.lt _ _ _ _ L;simp[go_sem,N];refine NQ (m:=s) (es:=es) rfl (by simp[go_sem]) (by simp[go_sem]) O ?_;simp[go_sem];refine An 1 (α:=(List Int×List Int)×(List (SV×SV)×Option (SV×SV))×(Nat->Prop)×Hp) (λa=>[(0,.fn (.yield yl) [] []),(5,.ptr n 0)]) (λa=>a.2.2.2)
  (λa m=>n<m/\a.2.2.2 n=some (.iter a.2.1.1 a.2.1.2)/\a.2.1.1.map (·.1)=a.1.2.map AA/\(a.1.1++a.1.2).Perm d/\J a.1.1 a.2.2.1 a.2.2.2 m/\(∀o,a.2.2.1 o->D o\/(n<o/\o<m))/\(∀o,¬D o->o<n->o≠s->a.2.2.2 o=H o)) (λa=>a.1.2.length)
  (([],d),(es,none),D,hset (hset H s none) n (some (.iter es none))) ?_ ?_ AB ?_
 refine⟨qP n,AC _ _ _,R,List.Perm.refl _,Y.keep _ _ _ _ _ _ L (je n) λo g=>?_,λo g=>.inl g,λo z K A=>?_⟩;have:=r o g;show hset (hset H s none) n _ o=H o;rw[AD _ _ (by omega),AD _ _ (by rintro rfl;exact C g)];show hset (hset H s none) n _ o=H o;rw[AD _ _ (by omega),AD _ _ A];simp[Ai];rintro⟨⟨k,j⟩,⟨left,last⟩,y,h2⟩ m ⟨I,u,f,b,h,c,BE⟩;dsimp only at u f b h c BE ⊢;have x:¬y n:=λg=>by rcases c n g with g|g;have:=r n g;omega;omega
 have G:left.length=j.length:=by have:=congrArg List.length f;simpa using this
 simp[go_sem];refine Pg (q:=n) (left:=left) (last:=last) rfl (by simp[go_sem]) u (λi hi=>?_) λh0=>?_;have e:i<j.length:=by omega
 have S:left[i].1=AA j[i]:=by
  have:=congrArg (λl=>l[i]?) f;simpa[hi,e]using this
 simp[go_sem];refine SG (q:=n) (left:=left.eraseIdx i) (p:=left[i]) rfl (by simp[go_sem]) (AC _ _ _) ?_;simp[go_sem,S];refine FJ.mono (Y.step k j[i] y _ _ ⟨_,Lt b e⟩ (Y.keep _ _ _ _ _ _ h (qa m) λo g=>AD _ _ (by rintro rfl;exact x g))) ?_;rintro v Q m3 ⟨hm3,P,B,t,⟨rfl,F⟩|⟨_,F⟩⟩;simp[go_sem];refine⟨k++[j[i]],j.eraseIdx i,by rw[List.length_eraseIdx];simp[e];omega,left.eraseIdx i,some left[i],P,Q,⟨by omega,?_,?_,?_,F,λo g=>?_,λo z K A=>?_⟩,AB⟩;rw[t n x I];exact AC _ _ _;rw[HU,HU,f];exact Lt b e;rcases B o g with g|g;rcases c o g with g|g;exact .inl g;exact .inr (by omega);exact .inr (by omega);have:¬y o:=λg=>by rcases c o g with g|g;exact z g;omega
 rw[t o this (by omega),AD _ _ (by omega)];exact BE o z K A;exact F.elim;have w:j=[]:=kD (by rw[<-G,h0];rfl);subst w;simp[go_sem];refine .inl ⟨k,by simpa using b,by omega,y,λo g=>?_,BE,h⟩;rcases c o g with g|g;exact .inl g;exact .inr (by omega)
end
theorem bn (es:List (SV×SV)) (f:List Int) (P:es.map (·.1)=f.map AA) (hlen:f.length<=1048576) {H:Hp} {n q s:Nat} (F:H q=some (.cells [.map s])) (w:H s=some (.map es)):
 BA Tryz.prog 260 [.imm 0 [] true,.fn (.func 198) [] [.ptr q 0]] H n (λv h' n'=>∃a:List Int,a.Perm f/\OP 1 (a.map AA) (hset H s none) n v h' n'):=by
 refine cA Tryz.func260 rfl (by kernel_rfl) (by kernel_rfl) (by simp[go_sem]) λE B=>?_;have hqn:=(E q _ F).1;have hsn:=(E s _ w).1;have hqs:q≠s:=by rintro rfl;rw[F]at w;cases w
 simp[go_sem];refine Fa rfl rfl rfl λE1 l R N=>?_;let J:List Int->(Nat->Prop)->Hp->Nat->Prop:=λa D h m=>∃o:Option Nat,D=(λj=>j=n\/j=n+1\/o=some j)/\n+1<m/\h n=some (.cells [AM 1 o (a.map AA)])/\h (n+1)=some (.loop (R .ready none))/\Ar (n+2) m 1 o (a.map AA)/\∀j,o=some j->h j=some (.cells (a.map AA));have Y:YK E1 l f J:=by
  refine⟨?_,?_,?_⟩
  . rintro a x D h m ⟨rest,hp⟩ ⟨o,C,A,b,d,c,p⟩;have hkl:a.length+1<=1048576:=by have:=hp.length_eq;simp at this;omega
    refine N _ _ _ _ d rfl (Ii ?_);have G:n≠m:=by omega
    have e2:n+1≠m:=by omega
    have I:n≠m+1:=by omega
    have t:∀j,o=some j->n+2<=j/\j<m:=λj e=>c.lt j e;simp[go_sem,Jp,AD,b,d];rw[Kx (x:=x) c (by omega) (by simp[hset]) (by
     intro j e;have:=t j e;have:=p j e;simp only[hset];grind)]
    have done:∀(k:Hp) (z:Nat),z=m+1->(∀j,¬(j=n\/j=n+1\/o=some j)->j<m->k j=h j)->k n=some (.cells [.sl z 0 1 (a.length+1) false])->k z=some (.cells (a.map AA++[AA x]))->k (n+1)=some (.loop (R .busy none))->
     ∀sa,ID (n+1) R (He (J (a++[x])) (λ_ _ _=>False) D h m) .normal sa k (m+1+1):=by
     rintro k z rfl Q S T U sa;subst C;refine⟨U,by omega,λj=>j=n\/j=n+1\/some (m+1)=some j,λj g=>?_,λj b d=>?_,.inl ⟨rfl,some (m+1),rfl,by omega,?_,AC _ _ _,?_,λj e=>?_⟩⟩;rcases g with g|g|g;exact .inl (.inl g);exact .inl (.inr (.inl g));cases g;exact .inr (by omega);rw[AD _ _ (λe=>b (.inr (.inl e)))];exact Q j b d;rw[AD _ _ (by omega),S];simp[AM];rw[qc];exact c.push rfl rfl (by omega) (by omega);cases e;rw[AD _ _ (by omega),T,qc];rfl
    cases o with
    | none=>
     simp[go_sem,AD,b,G,I,AM];refine done _ _ rfl (λj M h2=>?_) ?_ ?_ ?_ _;simp only[hset];grind;simp only[hset];grind;simp only[hset];grind;simp only[hset];grind
    | some j=>
     have hj:=t j rfl;have L:n≠j:=by omega
     simp[go_sem,AD,b,G,L,I,AM];refine done _ _ rfl (λj M h2=>?_) ?_ ?_ ?_ _;simp only[hset];grind;simp only[hset];grind;simp only[hset];grind;simp only[hset];grind
  rintro a D h m h' m' ⟨o,rfl,A,b,d,c,p⟩ K u;exact⟨o,rfl,by omega,by rw[u _ (.inl rfl)];exact b,by rw[u _ (.inr (.inl rfl))];exact d,c.mono K,λj e=>by rw[u _ (.inr (.inr e))];exact p j e⟩;rintro a D h m ⟨o,rfl,A,b,d,c,p⟩ j (rfl|rfl|e);omega;omega;exact(c.lt j e).2
 refine kS (aH Y es P (D:=λj=>j=n\/j=n+1) (s:=s) ?_ ?_ ?_ ?_) ?_;simp[hset];rw[if_neg (by omega),if_neg (by omega)];exact F;simp[hset];rw[if_neg (by omega),if_neg (by omega)];exact w;omega;exact⟨none,by simp,by omega,by simp[hset,AM],by simp[hset],jK _ _ _,by simp⟩;rintro _ h' m' ⟨a,D',i,K,u,BE,o,rfl,A,b,d,c,p⟩;refine⟨_,_,d,by simp,?_⟩;simp[go_sem,AD,b];refine .inl ⟨a,i,by omega,λj y e=>?_,?_⟩;have r:j≠s:=by rintro rfl;simp[hset]at e
 rw[AD _ _ r]at e;have:=(E j y e).1;rw[AD _ _ (by omega),BE j (by omega) (by omega) r,AD _ _ (by omega),AD _ _ (by omega),e];cases o with
 | none=>
  have O:=c.none rfl;exact .inl ⟨O,0,true,rfl⟩
 | some j=>
  have:=c.lt j rfl;exact .inr ⟨j,false,by omega,by omega,by simp[AM],by rw[AD _ _ (by omega),Dv];exact p j rfl⟩
theorem bc (es:List (SV×SV)) (a:List Int) (d:es.map (·.1)=a.map AA) (b:a.length<=1048576) {H:Hp} {n q s:Nat} (e:H q=some (.cells [.map s])) (f:H s=some (.map es)):
 BA Tryz.prog 196 [.fn (.func 198) [] [.ptr q 0]] H n (λv h' n'=>∃c:List Int,c.Perm a/\OP 1 (c.map AA) (hset H s none) n v h' n'):=by
 refine gq Tryz.func196 rfl λho=>?_;simp[go_sem];refine qC (bn es a d b e f) ?_;rintro v h' n' ⟨c,hp,hn⟩;simp[go_sem];exact .inl ⟨c,hp,hn⟩
theorem L4 {a b:List Int} (h:a.Perm b):DI a=DI b:=by
 have d:∀x y z:Int,decide (x<=y)=true->decide (y<=z)=true->decide (x<=z)=true:=λx y z c h2=>by simp only[decide_eq_true_eq]at *;exact Int.le_trans c h2
 have to:∀x y:Int,(decide (x<=y)||decide (y<=x))=true:=λx y=>by simp only[kH,decide_eq_true_eq];exact Int.le_total x y
 refine List.Perm.eq_of_pairwise (le:=λx y=>decide (x<=y)=true) (λx y _ _ c h2=>?_) (List.pairwise_mergeSort d to a) (List.pairwise_mergeSort d to b) (((List.mergeSort_perm a _).trans h).trans (List.mergeSort_perm b _).symm);simp only[decide_eq_true_eq]at c h2;exact Int.le_antisymm c h2
theorem bU (es:List (SV×SV)) (a:List Int) (r:es.map (·.1)=a.map AA) (c:a.length<=1048576) {H:Hp} {n q s:Nat} (t:H q=some (.cells [.map s])) (k:H s=some (.map es)):
 BA Tryz.prog 139 [.fn (.func 198) [] [.ptr q 0]] H n (OP 1 ((DI a).map AA) (hset H s none) n):=by
 refine gq Tryz.func139 rfl λi=>?_;simp[go_sem];refine qC (bc es a r c t k) ?_;rintro v h' n' ⟨l,hp,b,BE,u⟩;have hkl:=hp.length_eq;rcases u with⟨h,m,full,rfl⟩|⟨o,full,p,h2,rfl,g⟩
 simp[go_sem];refine(VT m full).use ?_;simp[go_sem];simp only[J2]at h;subst h;have:a=[]:=by simpa using hp.symm
 subst this;exact .inl ⟨b,BE,.inl ⟨by simp[DI],m,full,rfl⟩⟩;simp[go_sem];rw[Dv]at g;refine qC (Xu l (by omega) g) ?_;rintro v h4 n4 ⟨rfl,rfl,rfl⟩;simp[go_sem];have hos:o≠s:=by have:=(i s _ k).1;omega
 refine .inl ⟨b,λj y e=>?_,.inr ⟨o,full,p,h2,?_,?_⟩⟩;have d:j≠s:=by rintro rfl;simp[hset]at e
 have f:=e;rw[AD _ _ d]at f;have:=(i j y f).1;rw[AD _ _ (by omega)];exact BE j y e;have:(DI a).length=l.length:=by rw[<-L4 hp];exact jW _
 simp[this];rw[AC,L4 hp,Dv]
theorem Xr {H:Hp} {n s:Nat}:BA Tryz.prog 140 [.map s] H n (λv h' n'=>v=.fn (.func 198) [] [.ptr n 0]/\h'=hset H n (some (.cells [.map s]))/\n'=n+1):=by
 refine gq Tryz.func140 rfl λho=>?_;simp[go_sem];exact .inl ⟨rfl,rfl,rfl⟩
def IS (d:AI):List Int:=DI ((Bd [] (AE.usL d.flow++d.«end».all)).filter λx=>decide (x≠0))
theorem Tc:∀{l:List Int} (x:Int),l.Nodup->∀(_i j:Nat),l[j]? = some x->(Ed l).eraseIdx j=Ed (l.filter λy=>decide (y≠x))
 | [],x,_,i,j,h=>by simp at h
 | a :: l, x, hn, i, 0, h => by
  rw[jA]at hn;simp only[jG,qh]at h;subst h;have:(a::l).filter (λy=>decide (y≠a))=l:=by
   rw[jZ];simp only[ne_eq,not_true,decide_false,qj,if_false];exact jy.2 λy e=>by simp only[decide_eq_true_eq];rintro rfl;exact hn.1 e
  rw[this];simp[Ed]
 | a::l,x,hn,i,j+1,h=>by
  rw[jA]at hn;have c:l[j]? = some x:=by simpa using h
  have b:a≠x:=by rintro rfl;exact hn.1 (jb c)
  have d:=Tc x hn.2 i j c;rw[jZ];simp only[ne_eq,b,not_false_eq_true,decide_true,if_true];simp only[Ed,qu,List.eraseIdx_cons_succ]at d ⊢;rw[d]
theorem Te {l:List Int} {x:Int} (h:x∉l):(l.filter λy=>decide (y≠x))=l:=jy.2 λy a=>by simp only[decide_eq_true_eq];rintro rfl;exact h a
theorem c74 (d:AI) (hl:d.flow.length<=1048576) (A:AE.sizedL d.flow) (w:d.«end».sized) (B:(Bd [] (AE.usL d.flow++d.«end».all)).length<=1048576):PC 74 [d.enc] (.imm 1 ((IS d).map AA) false):=by
 intro h n;refine gq Tryz.func74 rfl λk=>?_;have e1:n+1+1≠n:=by omega
 have e2:n+1≠n:=by omega
 have e3:n+1+1≠n+1:=by omega
 simp[go_sem,AI.enc,AF.flat,AK.flat,AC,AD,qD];refine qC (bT (SizeOf.sizeOf d.flow+1) d.flow (qP _) hl A [] _ _ (n+2) (n+1) (by simp[hset]) (by simp[hset,Ed])) ?_;rintro v h' n' ⟨rfl,rfl,rfl⟩;simp[go_sem,AC,AD];refine qC (by simpa[AF.enc,AF.flat]using Uh d.«end» w (Bd [] (AE.usL d.flow)) (p:=n+2) (s:=n+1) (by simp[hset]) (by simp[hset])) ?_;rintro v h' n' ⟨rfl,rfl,rfl⟩;rw[<-CF];have f:=Iu (AE.usL d.flow++d.«end».all) [] List.nodup_nil;have m:IS d=DI ((Bd [] (AE.usL d.flow++d.«end».all)).filter λx=>decide (x≠0)):=rfl;generalize Bd [] (AE.usL d.flow++d.«end».all)=out at f B m ⊢;have fin:∀(c:Hp),c (n+2)=some (.cells [.map (n+1)])->c (n+1)=some (.map (Ed (out.filter λx=>decide (x≠0))))->(∀j,j<n->c j=h j)->(∀K:SV->Hp->Nat->Prop,(∀v h' n',B8 n h' n' v (Is (.imm 1 ((IS d).map AA) false) h n)->K v h' n')->
  Ak (B6.plain.call false 0) Tryz.prog 139 [.fn (.func 198) [] [.ptr (n+3) 0]] (hset c (n+3) (some (.cells [.map (n+1)]))) (n+4) K):=λc a1 a2 a3 K u=>by
  have g:(out.filter λx=>decide (x≠0)).length<=1048576:=by have:=qU (λx=>decide (x≠0)) out;omega
  refine qC (bU (Ed (out.filter λx=>decide (x≠0))) (out.filter λx=>decide (x≠0)) (by simp[Ed]) g (s:=n+1) (by simp[hset]) (by rw[AD _ _ (show n+1≠n+3 by omega)];exact a2)) ?_;rintro v h' n' ⟨hle,BE,r⟩;rw[<-m]at r;have q:∀j y,h j=some y->h' j=some y:=λj y e=>by
   have:=(k j y e).1;refine BE j y ?_;rw[AD _ _ (by omega),AD _ _ (by omega),a3 j this,e]
  refine u _ _ _ ?_;rcases r with⟨a,z',full,rfl⟩|⟨o,full,a,h2,rfl,t⟩
  rw[a];exact Jj k q (by simp) rfl;exact T2 Hz (full:=full) k q (show n<=o by omega) (by simp) t
 by_cases i:(0:Int)∈out;obtain⟨j,a,h2⟩:=DS 0 i;rw[jc]at a;have b:=Tc 0 f 0 j h2;simp[go_sem,AC,AD,a,CK];refine qC Xr ?_;rintro v h' n' ⟨rfl,rfl,rfl⟩;simp[go_sem];refine fin _ ?_ ?_ ?_ _ ?_;simp[hset];rw[<-b];simp[hset];intro j z;simp only[hset];grind;intro v h' n' l;simp[go_sem];exact l;have a:=Du 0 i;have b:=Te i;simp[go_sem,AC,AD,a,CK];refine qC Xr ?_;rintro v h' n' ⟨rfl,rfl,rfl⟩;simp[go_sem];refine fin _ ?_ ?_ ?_ _ ?_;simp[hset];rw[b];simp[hset];intro j z;simp only[hset];grind;intro v h' n' l;simp[go_sem];exact l
def HL (z:Nat) (es:List SV) (v:SV) (o:Option Nat) (n m:Nat):Prop:=
 (o=none/\es=[]/\∃z' f,v=.imm z' [] f)\/∃j f,o=some j/\n<=j/\j<m/\v=.sl j 0 z es.length f
def D8 (es:List SV) (o:Option Nat) (h:Hp):Hp:=match o with|none=>h|some j=>hset h j (some (.cells (es.flatMap SV.cells)))
theorem HL.st {z:Nat} {es:List SV} {v:SV} {o:Option Nat} {n m:Nat} (H:HL z es v o n m):v.storable=true/\v.cells=[v]:=by
 rcases H with⟨_,_,z',f,rfl⟩|⟨j,f,_,_,_,rfl⟩<;>exact⟨rfl,rfl⟩
theorem OP.own {z:Nat} {es:List SV} {h h':Hp} {n n':Nat} {v:SV} (H:OP z es h n v h' n'):∃o,HL z es v o n n'/\(∀j y,h j=some y->h' j=some y)/\∀j,o=some j->h' j=some (.cells (es.flatMap SV.cells)):=by
 obtain⟨h1,h2,⟨rfl,d,f,rfl⟩|⟨o,f,a,b,rfl,c⟩⟩:=H;exact⟨none,.inl ⟨rfl,rfl,d,f,rfl⟩,h2,by simp⟩;exact⟨some o,.inr ⟨o,f,rfl,a,b,rfl⟩,h2,by rintro j e;cases e;exact c⟩
theorem HL.mono {z:Nat} {es:List SV} {v:SV} {o:Option Nat} {n n' m m':Nat} (H:HL z es v o n m) (hn:n'<=n) (hm:m<=m'):HL z es v o n' m':=by
 rcases H with⟨a,h2,d,f,b⟩|⟨j,f,a,h2,b,c⟩
 exact .inl ⟨a,h2,d,f,b⟩;exact .inr ⟨j,f,a,by omega,by omega,c⟩
theorem HL.lt {z:Nat} {es:List SV} {v:SV} {o:Option Nat} {n m:Nat} (H:HL z es v o n m):∀j,o=some j->n<=j/\j<m:=by
 rcases H with⟨rfl,_⟩|⟨j,f,rfl,h2,a,_⟩
 simp;rintro i e;cases e;exact⟨h2,a⟩
theorem K1 {z k i:Nat} {es:List SV} {e c:SV} (f:∀e∈es,e.storable=true/\e.cells.length=z) (h:es[i]? = some e) (d:e.cells[k]? = some c):
 i*z+k+1<=(es.flatMap SV.cells).length/\((es.flatMap SV.cells).drop (i*z+k)).take 1=[c]:=by
 obtain⟨g1,g⟩:=JU f h;have he:=(f e (jb h)).2;have a:=(qo.1 d).1;refine⟨by omega,?_⟩;have b:(((es.flatMap SV.cells).drop (i*z)).take z).drop k=e.cells.drop k:=by rw[g]
 rw[List.drop_take,List.drop_drop]at b;have h2:(((es.flatMap SV.cells).drop (i*z+k)).take (z-k)).take 1=(e.cells.drop k).take 1:=by rw[b]
 rw[List.take_take,jO (by omega)]at h2;rw[h2,qG a];simp only[jl,km];rw[(qo.1 d).2]
theorem Kd {cs:List SV} {off:Nat} {c:SV} (h1:off+1<=cs.length) (h2:(cs.drop off).take 1=[c]):cs.take off++c::cs.drop (off+1)=cs:=by
 have:cs.drop off=c::cs.drop (off+1):=by
  rw[qG (by omega)]at h2 ⊢;simp only[jl,km,List.cons.injEq,and_true]at h2;rw[h2]
 rw[<-this,ja]
def trC:Tr:=.pure 0<|.pure 1<|.pure 3<|.pure 4<|.pure 6<|.pure 7<|.pure 9<|.pure 10 <|
 .two 2 13
  (.two 5 13 (.two 8 13 (.two 11 13 (.two 12 13 (.one 13 (.one 14 .nil)) (.one 12 (.one 14 .nil))) (.one 11 (.one 12 (.one 14 .nil)))) (.one 8 (.one 11 (.one 12 (.one 14 .nil))))) (.one 5 (.one 8 (.one 11 (.one 12 (.one 14 .nil))))))
  (.one 2 (.one 5 (.one 8 (.one 11 (.one 12 (.one 14 .nil))))))
set_option maxHeartbeats 2000000 in
theorem Z1 (s:AK) (h1:s.styles.length<=1048576) (h2:s.lists.length<=1048576) (h3:s.comments.length<=1048576) (h4:s.vars.length<=1048576) (h5:∀x∈s.styles,x.props.length<=1048576) (h6:∀x∈s.lists,x.levels.length<=1048576):
 PC 144 [s.enc] s.enc:=by
 intro h n;refine Db Tryz.func144 rfl λI=>?_;refine BP 2 [(1,.iptr s.flat),(2,.ptr (n+1) 0)] (hset h (n+1) (some (.cells [.imm 0 [] true,.imm 0 [] true,.imm 0 [] true,.imm 0 [] true]))) (λm=>m=n+2) ?_ (λm hm=>?_);simp[go_sem,AK.enc,qD,IO];refine⟨AV (by rw[AD _ _ (by omega)];exact I.none (qa n)) (by simp[hset]),λj y=>?_⟩;have:=I j y;simp only[hset];grind;subst hm;refine AT 1 (α:=SV×Option Nat×SV×Option Nat×Nat) (λa=>[(2,.ptr (n+1) 0),(3,.ptr a.2.2.2.2 0)])
  (λa=>hset (D8 (s.styles.map A6.enc) a.2.1 (D8 (s.lists.map Fb.enc) a.2.2.2.1 (hset h (n+1) (some (.cells [.imm 0 [] true,.imm 0 [] true,.imm 0 [] true,.imm 0 [] true]))))) a.2.2.2.2 (some (.cells [a.1,a.2.2.1,BZ s.comments,FI s.vars])))
  (λa m=>HL 6 (s.styles.map A6.enc) a.1 a.2.1 (n+2) m/\HL 2 (s.lists.map Fb.enc) a.2.2.1 a.2.2.2.1 (n+2) m/\n+2<=a.2.2.2.2/\a.2.2.2.2<m/\a.2.1≠some a.2.2.2.2/\a.2.2.2.1≠some a.2.2.2.2/\(∀j,a.2.1=some j->a.2.2.2.1≠some j)) (BX trC rfl (by kernel_rfl) (by kernel_rfl) ?_) ?_
 . simp[go_sem,trC,AK.flat]
   iterate 14 (all_goals (try first
    | (refine LC.use (cJ _ h1) ?_;intro N H1 m1 W1;have lt1:=W1.1;obtain⟨o1,a1,b1,c1⟩:=W1.own;obtain⟨s1,D⟩:=a1.st;simp only[SV.storable,SV.cells]at s1 D;simp[go_sem])
    | (refine LC.use (cK _ h2) ?_;intro O H2 m2 W2;have ZT:=W2.1;obtain⟨C,a2,P,c2⟩:=W2.own;obtain⟨s2,t2⟩:=a2.st;simp only[SV.storable,SV.cells]at s2 t2;simp[go_sem])
    | (refine(aI _ h3).use ?_;simp[go_sem])
    | (refine(aJ _ h4).use ?_;simp[go_sem,s1,D,s2,t2])
    | refine⟨?_,?_⟩))
   all_goals
    have L:=a1.lt;have M:=a2.lt;have ZZ:BT:=.cells [.imm 0 [] true,.imm 0 [] true,.imm 0 [] true,.imm 0 [] true]
    first
     | (have hq:=P (n+2) _ (b1 (n+2) _ (AC _ _ _));simp[go_sem,hq])
     | (have hq:=P m1 _ (AC _ _ _);simp[go_sem,hq])
     | simp[go_sem,AC]
    refine⟨N,o1,O,C,_,⟨a1.mono (by omega) (by omega),a2.mono (by omega) (by omega),?_,?_,λe=>?_,λe=>?_,λj e e'=>?_⟩,IO,λj y=>?_⟩;omega;omega;have:=L _ e;omega;have:=M _ e;omega;have:=L _ e;have:=M _ e';omega;intro hy;have q1:=b1 j y;have q2:=P j y;have q3:=c1 j;have q4:=c2 j;have r1:=L j;have r2:=M j;have q5:=P j (.cells ((s.styles.map A6.enc).flatMap SV.cells));have q6:=I j y;clear b1 P c1 c2 L M W1 W2 a1 a2;simp only[hset]at *;cases o1<;>cases C<;>simp only[D8,hset]at hy<;>grind
 rintro⟨N,o1,O,C,q⟩ m ⟨a1,a2,hq1,hq2,V,W,w⟩;dsimp only at a1 a2 hq1 hq2 V W w ⊢;have L:=a1.lt;have M:=a2.lt;obtain⟨s1,D⟩:=a1.st;obtain⟨s2,t2⟩:=a2.st;simp only[SV.storable,SV.cells]at s1 D s2 t2;generalize S:D8 (s.styles.map A6.enc) o1 (D8 (s.lists.map Fb.enc) C (hset h (n+1) (some (.cells [.imm 0 [] true,.imm 0 [] true,.imm 0 [] true,.imm 0 [] true]))))=B;have B1:∀j,o1=some j->B j=some (.cells ((s.styles.map A6.enc).flatMap SV.cells)):=λj e=>by subst e;rw[<-S];simp[D8,hset]
 have B2:∀j,C=some j->B j=some (.cells ((s.lists.map Fb.enc).flatMap SV.cells)):=λj e=>by
  subst e;rw[<-S];cases o1 with
  | none=>simp[D8,hset]
  | some i=>have:=w i rfl;simp only[D8,hset];grind
 have B3:B (n+1)=some (.cells [.imm 0 [] true,.imm 0 [] true,.imm 0 [] true,.imm 0 [] true]):=by
  rw[<-S];cases o1<;>cases C<;>simp only[D8,hset]<;>grind
 have B4:∀j y,h j=some y->B j=some y:=λj y e=>by
  have:=I j y e;rw[<-S];cases o1<;>cases C<;>simp only[D8,hset]<;>grind
 have X:∀j,o1=some j->j≠q:=λj e e'=>V (by rw[e,e']);have A:∀j,C=some j->j≠q:=λj e e'=>W (by rw[e,e']);clear S;refine Bc 1 [(2,.ptr (n+1) 0),(3,.ptr q 0)] (hset B q (some (.cells [N,O,BZ s.comments,FI s.vars]))) m (AH ?_) (λm' d=>?_)
 . rcases a1 with⟨_,he,Z,f,rfl⟩|⟨j,f,rfl,T,U,rfl⟩
   simp[go_sem,AC];refine An 1 (α:=Unit) (λ_=>[(2,.ptr (n+1) 0),(3,.ptr q 0),(21,AA 0),(22,AA 0)]) (λ_=>hset B q (some (.cells [.imm Z [] f,O,BZ s.comments,FI s.vars]))) (λ_ m'=>m<=m') (λ_=>0) () (qa _) (by simp[Ai]) AB ?_;intro _ m' d;simp[go_sem];exact d
   . have b:=X j rfl;have G:=B1 j rfl;simp[go_sem,AC];refine An 1 (α:=Nat) (λi=>[(2,.ptr (n+1) 0),(3,.ptr q 0),(21,AA s.styles.length),(22,AA i)]) (λ_=>hset B q (some (.cells [.sl j 0 6 s.styles.length f,O,BZ s.comments,FI s.vars]))) (λi m'=>i<=s.styles.length/\m<=m') (λi=>s.styles.length-i) 0 ?_ ?_ ?_ ?_;exact⟨qg _,qa _⟩;simp[Ai];simp;rintro i m' ⟨hi,d⟩;by_cases l:i<s.styles.length
     . have w1:=wS i (by omega);obtain⟨x,Y⟩:∃x,s.styles[i]=x:=⟨_,rfl⟩
       have J:(s.styles.map A6.enc)[i]? = some x.enc:=by simp[l,Y]
       obtain⟨t,u⟩:=K1 (A6.E.size s.styles) J (k:=5) (c:=Af x.props) rfl;have R:=Kd t u;have K:=h5 x (by rw[<-Y];exact ql l);have p:j<m':=by omega
       have r:q<m':=by omega
       have g:=G;generalize(s.styles.map A6.enc).flatMap SV.cells=F at g t u R;simp[go_sem,AC,AD,b,g,l,t,u,p,r]
       repeat first|refine nd (by simp[CM,Ex,DG,Aq,Region.binds]<;>omega) ?_|refine sq ?_|refine aq ?_
       refine jw _ _ _ _ _ _ (V3 x.props K) ?_;simp[go_sem,AD,b,g,l,t,R,p,w1,-Int.natCast_add]
       repeat first|refine nd (by simp[CM,Ex,DG,Aq,Region.binds,b]<;>omega) ?_|refine sq ?_|refine aq ?_
       refine⟨i+1,by omega,⟨by omega,d⟩,IO,λo y=>?_⟩;simp only[hset];grind
     have:i=s.styles.length:=by omega
     subst this;simp[go_sem];exact d
 refine Bc 1 [(2,.ptr (n+1) 0),(3,.ptr q 0)] (hset B q (some (.cells [N,O,BZ s.comments,FI s.vars]))) m (AH ?_) (λm2 hm2=>?_)
 . rcases a2 with⟨_,he,Z,f,rfl⟩|⟨j,f,rfl,T,U,rfl⟩
   simp[go_sem,AC];refine An 1 (α:=Unit) (λ_=>[(2,.ptr (n+1) 0),(3,.ptr q 0),(40,AA 0),(41,AA 0)]) (λ_=>hset B q (some (.cells [N,.imm Z [] f,BZ s.comments,FI s.vars]))) (λ_ m'=>m<=m') (λ_=>0) () d (by simp[Ai]) AB ?_;intro _ m' d;simp[go_sem];exact d
   . have b:=A j rfl;have G:=B2 j rfl;simp[go_sem,AC];refine An 1 (α:=Nat) (λi=>[(2,.ptr (n+1) 0),(3,.ptr q 0),(40,AA s.lists.length),(41,AA i)]) (λ_=>hset B q (some (.cells [N,.sl j 0 2 s.lists.length f,BZ s.comments,FI s.vars]))) (λi m'=>i<=s.lists.length/\m<=m') (λi=>s.lists.length-i) 0 ?_ ?_ ?_ ?_;exact⟨qg _,d⟩;simp[Ai];simp;rintro i m' ⟨hi,d⟩;by_cases l:i<s.lists.length
     . have w1:=wS i (by omega);obtain⟨x,Y⟩:∃x,s.lists[i]=x:=⟨_,rfl⟩
       have J:(s.lists.map Fb.enc)[i]? = some x.enc:=by simp[l,Y]
       obtain⟨t,u⟩:=K1 (Fb.E.size s.lists) J (k:=1) (c:=DL x.levels) rfl;have R:=Kd t u;have K:=h6 x (by rw[<-Y];exact ql l);have p:j<m':=by omega
       have r:q<m':=by omega
       have g:=G;generalize(s.lists.map Fb.enc).flatMap SV.cells=F at g t u R;simp[go_sem,AC,AD,b,g,l,t,u,p,r]
       repeat first|refine nd (by simp[CM,Ex,DG,Aq,Region.binds]<;>omega) ?_|refine sq ?_|refine aq ?_
       refine jw _ _ _ _ _ _ (aK x.levels K) ?_;simp[go_sem,AD,b,g,l,t,R,p,w1,-Int.natCast_add]
       repeat first|refine nd (by simp[CM,Ex,DG,Aq,Region.binds,b]<;>omega) ?_|refine sq ?_|refine aq ?_
       refine⟨i+1,by omega,⟨by omega,d⟩,IO,λo y=>?_⟩;simp only[hset];grind
     have:i=s.lists.length:=by omega
     subst this;simp[go_sem];exact d
 have enq:n+1≠q:=by omega
 have Q:∀(z:Nat) (es:List SV) (v:SV) (o:Option Nat) (H:Hp),(∀e∈es,e.storable=true/\e.cells.length=z)->HL z es v o (n+2) m->(∀j,o=some j->H j=some (.cells (es.flatMap SV.cells)))->Fz H h 1 v (.imm z es false):=λz es v o H hsz ha hH=>by
  rcases ha with⟨_,he,Z,f,rfl⟩|⟨j,f,rfl,T,U,rfl⟩
  rw[he];exact BC (by simp);exact DV (I.none (by omega)) (by simp) (hH j rfl) hsz
 refine AH ?_;simp[go_sem,AC,AD,enq,B3];refine Dy (v:=s.enc) 2 I (λj y e=>?_) (.inr ⟨Q _ _ _ _ _ (A6.E.size _) a1 λj e=>?_,Q _ _ _ _ _ (Fb.E.size _) a2 λj e=>?_,IO,IO,trivial⟩) ?_;have:=I j y e;have:=B4 j y e;simp only[hset];grind;have:=L j e;have:=B1 j e;have:=X j e;simp only[hset];grind;have:=M j e;have:=B2 j e;have:=A j e;simp only[hset];grind;simp[AK.enc,AK.flat,closed,closedL,A6.E.closedL,Fb.E.closedL,Au.E.closedL,Ft.E.closedL]
structure AK.sized (s:AK):Prop where
 styles:s.styles.length<=1048576
 lists:s.lists.length<=1048576
 comments:s.comments.length<=1048576
 vars:s.vars.length<=1048576
 props:∀x∈s.styles,x.props.length<=1048576
 levels:∀x∈s.lists,x.levels.length<=1048576
structure AI.sized (d:AI):Prop where
 len:d.flow.length<=1048576
 flow:AE.sizedL d.flow
 «end» : d.«end».sized
 revs:d.revs.length<=1048576
 set:d.settings.sized
theorem c79 (d:AI) (b:d.sized):PC 79 [d.enc] d.enc:=by
 intro h n;refine gq Tryz.func79 rfl λc=>?_;have a:=b.set;simp[go_sem,AI.enc,AF.flat,AK.flat,AC,AD,qD]
 repeat first|refine nd (by simp[CM,Ex,DG,Aq,Region.binds]<;>omega) ?_|refine sq ?_|refine aq ?_
 refine jw _ _ _ _ _ _ (XS d.flow b.len b.flow) ?_;simp[go_sem,AC,AD]
 repeat first|refine nd (by simp[CM,Ex,DG,Aq,Region.binds]<;>omega) ?_|refine sq ?_|refine aq ?_
 refine jw _ _ _ _ _ _ (by simpa[AF.enc,AF.flat]using Ob d.«end» b.end) ?_;simp[go_sem,AC,AD]
 repeat first|refine nd (by simp[CM,Ex,DG,Aq,Region.binds]<;>omega) ?_|refine sq ?_|refine aq ?_
 refine jw _ _ _ _ _ _ (c76 d.revs b.revs) ?_;simp[go_sem,AC,AD]
 repeat first|refine nd (by simp[CM,Ex,DG,Aq,Region.binds]<;>omega) ?_|refine sq ?_|refine aq ?_
 refine jw _ _ _ _ _ _ (by simpa[AK.enc,AK.flat]using Z1 d.settings a.styles a.lists a.comments a.vars a.props a.levels) ?_;simp[go_sem,AC]
 repeat first|refine nd (by simp[CM,Ex,DG,Aq,Region.binds]<;>omega) ?_|refine sq ?_|refine aq ?_
 exact Ay c (λj y=>by have:=c j y;simp only[hset];grind) rfl (by simp[closed,closedL,AE.E.closedL,Er.E.closedL,Az.E.closedL,Am.E.closedL,Ax.E.closedL,A6.E.closedL,Fb.E.closedL,Au.E.closedL,Ft.E.closedL])
theorem Zz (a b:Int):PC 142 [AA a,AA b] (.bool (decide (a<b))):=by
 intro h n;refine gq Tryz.func142 rfl λc=>?_;simp[go_sem];refine(V1 _).use ?_;simp[go_sem];exact As c rfl rfl
theorem Z0 (a:Int):PC 143 [AA a] (.bool false):=by
 intro h n;refine gq Tryz.func143 rfl λb=>?_;simp[go_sem];exact As b rfl rfl
def Nw (l:List Int) (x:Int) (i:Nat):Int:=match l[i]? with|some a=>if a<x then -1 else if a=x then 0 else 1|none=>0
theorem c78 (l:List Int) (x:Int) (hl:l.length<=1048576):PC 78 [.imm 1 (l.map AA) false,AA x] (.tup [AA (BI (Nw l x) l.length).1,.bool (BI (Nw l x) l.length).2]):=by
 intro h n;refine gq Tryz.func78 rfl λr=>?_;simp[go_sem];generalize hc:Nw l x=c;refine An 1 (α:=Nat×Nat) (λq=>[(0,.imm 1 (l.map AA) false),(1,AA x),(6,AA l.length),(7,AA q.1),(8,AA q.2)]) (λ_=>h) (λq m=>q.1<=q.2/\q.2<=l.length/\n<=m/\Fd c 0 l.length=Fd c q.1 q.2) (λq=>q.2-q.1) (0,l.length) ?_ ?_ AB ?_;simp;simp[Ai];rintro⟨i,j⟩ m ⟨o,s,k,d⟩;dsimp only at o s d;by_cases a:i<j;have t:(i+j) / 2<l.length:=by omega
 have w1:IntKind.i64.wrap ((i:Int)+j)=((i+j:Nat):Int):=by rw[Cl]<;>omega
 have w2:IntKind.u64.wrap ((i+j:Nat):Int)=((i+j:Nat):Int):=by rw[UL]<;>omega
 have w3:(((i+j:Nat):Int)).fdiv 2=(((i+j) / 2:Nat):Int):=by rw[Int.fdiv_eq_ediv_of_nonneg _ (by omega)];omega
 have u:IntKind.i64.wrap (((i+j) / 2:Nat):Int)=(((i+j) / 2:Nat):Int):=by rw[Cl]<;>omega
 have v:IntKind.i64.wrap ((((i+j) / 2:Nat):Int)+1)=(((i+j) / 2+1:Nat):Int):=by rw[Cl]<;>omega
 rw[Fd.eq_def c i j]at d;have b:c ((i+j) / 2)=if l[(i+j) / 2]<x then -1 else if l[(i+j) / 2]=x then 0 else 1:=by rw[<-hc];simp[Nw,t]
 simp[go_sem,a,w1,w2,w3,u,t,-Int.natCast_add,-Int.natCast_ediv];refine qw (Zz _ _) ?_;by_cases hb:l[(i+j) / 2]<x;have Hn:c ((i+j) / 2)<0:=by rw[b,if_pos hb];omega
 simp[a,Hn]at d;simp[go_sem,hb,v,-Int.natCast_add,-Int.natCast_ediv];exact⟨(i+j) / 2+1,j,by omega,⟨by omega,s,k,d⟩,IO,IO⟩;have Hn:¬c ((i+j) / 2)<0:=by rw[b,if_neg hb];split<;>omega
 simp[a,Hn]at d;simp[go_sem,hb,-Int.natCast_add,-Int.natCast_ediv];exact⟨i,(i+j) / 2,by omega,⟨by omega,by omega,k,d⟩,IO,IO⟩;have e:Fd c 0 l.length=i:=by rw[d,Fd.eq_def];simp[a]
 by_cases hi:i<l.length;have b:c i=if l[i]<x then -1 else if l[i]=x then 0 else 1:=by rw[<-hc];simp[Nw,hi]
 by_cases f:l[i]=x;simp[go_sem,a,hi,f];exact As r rfl (by simp[BI,e,hi,b,f]);have g:(l[i]==x)=false:=by simpa using f
 simp[go_sem,a,hi,g];refine(Z0 _).use ?_;simp[go_sem];have p:¬c i=0:=by rw[b,if_neg f];split<;>omega
 exact As r rfl (by simp[BI,e,hi,p]);simp[go_sem,a,hi];exact As r rfl (by simp[BI,e,hi])
theorem c77 (l:List Int) (hl:l.length<=1048576) (r:Ax):PC 77 [r.enc,.iptr [.imm 1 (l.map AA) false]] (.bool (!(BI (Nw l r.id) l.length).2)):=by
 intro h n;refine gq Tryz.func77 rfl λa=>?_;simp[go_sem,Ax.enc,AC];refine(c78 l r.id hl).use ?_;simp[go_sem];exact Ay a (AQ a (qa _) AB) rfl rfl
theorem bK (z:Nat) (full:Bool) (g:FuncId) (a b:List SV):PC 75 [.imm z [] full,.fn (.func g) a b] (.imm 3 [] false):=by
 intro h n;refine gq Tryz.func75 rfl λc=>?_;simp[go_sem];have hI:=(XW [] (by simp) g a b (λ_=>false) (by simp)).wk (us:=[.imm z [] full,.fn (.func g) a b]) 1 ⟨BC (by simp),IO,trivial⟩;refine qw hI ?_;have e:BD (λ_=>false) 0 0 = -1:=by rw[BD];simp
 simp[go_sem,e];exact Jj c AB (by simp) rfl
def AI.norm1 (d:AI):AI:=⟨Ac d.flow,d.«end»,d.revs,d.settings⟩
def AI.normal (d:AI):AI:=⟨Ac d.flow,d.«end»,d.revs.filter λr=>(BI (Nw (IS d.norm1) r.id) (IS d.norm1).length).2,d.settings⟩
theorem ln (d:AI) (g:d.sized) (hn:d.normal.sized) (D:(Bd [] (AE.usL (Ac d.flow)++d.«end».all)).length<=1048576):PC 21 [d.enc] d.normal.enc:=by
 intro h n;refine gq Tryz.func21 rfl λz=>?_;have hs:=g.set;simp[go_sem,AI.enc,AF.flat,AK.flat,AC,AD,qD];refine(c73 d.flow g.len g.flow).use ?_;simp[go_sem,AC,AD];refine qw (by simpa[AI.enc,AI.norm1,AF.flat,AK.flat]using c74 d.norm1 hn.len hn.flow g.end D) ?_;simp[go_sem,AC,AD,AS];have l:(IS d.norm1).length<=1048576:=by
  have A:(IS d.norm1).length=((Bd [] (AE.usL d.norm1.flow++d.norm1.«end».all)).filter λx=>decide (x≠0)).length:=jW _;have h2:=qU (λx=>decide (x≠0)) (Bd [] (AE.usL d.norm1.flow++d.norm1.«end».all));have h4:(Bd [] (AE.usL d.norm1.flow++d.norm1.«end».all)).length<=1048576:=D;omega
 generalize B:IS d.norm1=us at l;refine LC.use (YW _ g.revs) ?_;rintro N f m1 ⟨hle,BE,M⟩;have F:=BE n (.cells ([AG (Ac d.flow)]++d.«end».flat++[Ao d.revs]++d.settings.flat)) (by simp[AC,AD,AF.flat,AK.flat]);obtain⟨p,t,H⟩:∃p:List SV,p.length=11/\f (n+1)=some (.cells p):=⟨_,rfl,BE (n+1) (.cells _) (by simp[AC,AD];rfl)⟩
 have G:=BE (n+2) (.cells [.imm 1 (us.map AA) false]) (by simp[AC,<-B,AI.norm1]);have I:∀j y,h j=some y->f j=some y:=λj y e=>BE j y (by have:=z j y e;simp only[hset];grind);clear BE;have k:∀(b:Hp),(∀j,j=n\/j=n+1\/j<n->b j=f j)->B8 n (hset (hset b n (some (.cells d.normal.enc.cells))) (n+1) (some (.cells d.normal.enc.cells))) m1 d.normal.enc (Is d.normal.enc h n):=λb a=>by
  refine Ay z (λj y e=>?_) rfl ?_;have A:=(z j y e).1;have h2:=I j y e;rw[AD _ _ (by omega),AD _ _ (by omega),a j (by omega),h2];simp[AI.enc,AF.flat,AK.flat,closed,closedL,AE.E.closedL,Er.E.closedL,Az.E.closedL,Am.E.closedL,Ax.E.closedL,A6.E.closedL,Fb.E.closedL,Au.E.closedL,Ft.E.closedL]
 have c:d.normal.revs=d.revs.filter λr=>!(!(BI (Nw us r.id) us.length).2):=by simp[AI.normal,B]
 have m:∀(K:SV->Hp->Nat->Prop),(∀b:Hp,(∀j,j=n\/j=n+1\/j<n->b j=f j)->K (.imm 3 (d.normal.revs.map Ax.enc) false) b m1)->Ak (B6.plain.call false 0) Tryz.prog 75 [N,.fn (.func 77) [] [.ptr (n+2) 0]] f m1 K:=λK q=>by
  rcases M with⟨C,O,full,rfl⟩|⟨o,full,A,h2,rfl,J⟩
  have L:d.normal.revs=[]:=by rw[c];simp only[J2]at C;rw[C];rfl
  rw[L]at q;exact(bK O full 77 [] [.ptr (n+2) 0]).use (q f λ_ _=>rfl);rw[c]at q;simp only[qd];refine kU (bs:=[.sl o 0 3 d.revs.length full,.fn (.func 77) [] [.iptr [.imm 1 (us.map AA) false]]]) (h2:=hset f (n+2) none) 2 (λj y e=>?_) ⟨IO,.inr ⟨rfl,trivial,AV (AC _ _ _) G,trivial⟩,trivial⟩ ?_;simp only[hset]at e;split at e;cases e;exact e;refine qC (d75 d.revs g.revs 77 [] [.iptr [.imm 1 (us.map AA) false]] (λr=>!(BI (Nw us r.id) us.length).2) (λx _=>c77 us l x) (by rw[AD _ _ (by omega)];exact J)) ?_;rintro v h' n' ⟨rfl,rfl,rfl⟩;refine q _ λj hj=>?_;rw[AD _ _ (by omega),AD _ _ (by omega)]
 simp[go_sem];refine m _ λb a=>?_;have i:b n=_:=(a n (.inl rfl)).trans F;have s:b (n+1)=_:=(a (n+1) (.inr (.inl rfl))).trans H;have w:n+1≠n:=by omega
 simp only[AF.flat,AK.flat]at i;simp[go_sem,i,AC];refine qw (by simpa[AI.enc,AI.normal,AF.flat,AK.flat]using c79 d.normal hn) ?_;have u:p.drop 11=[]:=kj (by omega);simp[go_sem,AD,s,t,AC,u];have:=k b a;simpa[AI.enc,AI.normal,AF.flat,AK.flat,SV.cells]using this
theorem WT {h:Hp} {n:Nat} (k:Nat) (h0:0<k) (h1:k<=1073741824):AU Tryz.prog h n .append [22,3] [.imm 0 [] true,.int .i64 k]=some { val:=.sl n 0 11 k false,new:=some (.cells (List.replicate k (BH Tryz.prog 70).cells).flatten) }:=by
 have b:A9 Tryz.prog 22=some 70:=by simp[go_sem]
 have a:Bh Tryz.prog 70=11:=by simp[go_sem]
 have c:(BH Tryz.prog 70).storable=true:=by simp[go_sem]
 have d:(BH Tryz.prog 70).cells.length=11:=by simp[go_sem]
 have e:BY Tryz.prog 70<=65536:=by simp[go_sem]
 have f:A9 Tryz.prog 3=none:=by simp[go_sem]
 have g:Tryz.prog.underlying 3=some (.int .i64):=by kernel_rfl
 simp only[AU,f,Option.isSome_none,qj,if_false,FO,b,g];rw[if_pos ⟨⟨by omega,by omega⟩,by rw[a];omega,e,c,by rw[d,a]⟩,a];simp
theorem bh (k:Nat) (hk:k<=1048576) {h:Hp} {n:Nat}:BA Tryz.prog 256 [.imm 0 [] true,AA k] h n (λv h' n'=>(k=0/\v=.imm 0 [] true/\h'=h/\n'=n)\/(0<k/\∃cs,v=.sl n 0 11 0 false/\h'=hset h n (some (.cells cs))/\n'=n+1)):=by
 refine gq Tryz.func256 rfl λho=>?_;have h0:¬((k:Int)<0):=by omega
 have w0:IntKind.i64.wrap ((k:Int))=k:=by rw[Cl]<;>omega
 have w1:IntKind.i64.wrap 0=0:=by decide
 by_cases b:k=0;subst b;simp[go_sem,w1];exact .inl ⟨rfl,rfl,rfl⟩;have hp:0<k:=by omega
 have hb:(k:Int)<=1073741824:=by omega
 have a:=λh n=>WT (h:=h) (n:=n) k hp (by omega);simp[go_sem,h0,w0,w1,hp,a];exact .inl (.inr ⟨rfl,⟨_,rfl⟩,rfl⟩)
theorem Kw {H:Hp} {p len m:Nat} {s x:SV} {xs ys:List SV} {upd:Option (Nat×Option BT)} (l:(s=.imm 0 [] true/\xs=[]/\len=0/\upd=none)\/∃j cs,s=.sl j 0 11 len false/\H j=some (.cells cs)/\Bg cs 0 (len*11)=some xs/\upd=some (j,none))
 (n:Hd 11 x=true) (k:Dw x=some m) (o:flat H x=some ys) (a:m≠0) (hroom:len+m<=1073741824):
 AU Tryz.prog H p .append [22,22] [s,x]=some { val:=.sl p 0 11 (len+m) false,upd:=upd,new:=some (.cells (xs++ys)) }:=by
 have d:A9 Tryz.prog 22=some 70:=by simp[go_sem]
 have e:Bh Tryz.prog 70=11:=by simp[go_sem]
 have f:(BH Tryz.prog 70).storable=true:=by simp[go_sem]
 have g:(BH Tryz.prog 70).cells.length=11:=by simp[go_sem]
 have h:BY Tryz.prog 70<=65536:=by simp[go_sem]
 have c:dY (len+m) (BY Tryz.prog 70)=true:=by simp only[dY,qq,decide_eq_true_eq];exact⟨by omega,h⟩
 simp only[AU,d,jE,if_true,Cm,k,o,e,n,f,g];have b:Gq 70=none:=by rfl
 rcases l with⟨rfl,rfl,rfl,rfl⟩|⟨j,cs,rfl,i,ht,rfl⟩
 simp[Hd,a,b];simpa using c;simp[Hd,a,flat,i,ht,c,GX b]
theorem OW {H:Hp} {p len:Nat} {s:SV} (e:s=.imm 0 [] true\/∃j,s=.sl j 0 11 len false):
 AU Tryz.prog H p .append [22,22] [s,AG []]=some { val:=s }:=by
 have a:A9 Tryz.prog 22=some 70:=by simp[go_sem]
 have b:Bh Tryz.prog 70=11:=by simp[go_sem]
 have c:(BH Tryz.prog 70).storable=true:=by simp[go_sem]
 have d:(BH Tryz.prog 70).cells.length=11:=by simp[go_sem]
 simp only[AU,a,jE,if_true,Cm,b,c,d];rcases e with rfl|⟨j,rfl⟩<;>simp[Hd,Dw,flat,EH]
def DT (Ls:List (List AE)) (i:Nat):List AE:=(Ls.take i).flatten
theorem LS {a:List (List AE)} {i:Nat} {x:List AE} (h:i<a.length) (b:a[i]=x):DT a (i+1)=DT a i++x:=by
 unfold DT;rw[qb h,b];simp
theorem TM (a:List (List AE)) (i:Nat):(DT a i).length<=a.flatten.length:=by
 have:a.flatten=(a.take i).flatten++(a.drop i).flatten:=by rw[<-List.flatten_append,ja]
 rw[this,DT];simp
theorem Mm (a:List (List AE)):DT a a.length=a.flatten:=by unfold DT;rw[qi]
theorem aF (b:List (List AE)) (hL:b.length<=1048576) (O:b.flatten.length<=1048576):PC 189 [.imm 1 (b.map AG) false] (AG b.flatten):=by
 intro h n;refine gq Tryz.func189 rfl λB=>?_;simp[go_sem];have w:=TM b;refine An 1 (α:=Nat) (λi=>[(0,.imm 1 (b.map AG) false),(3,AA (DT b i).length),(9,.imm 1 (b.map AG) false),(10,AA b.length),(11,AA i)]) (λ_=>h) (λi m=>i<=b.length/\n<=m) (λi=>b.length-i) 0 ?_ ?_ AB ?_;exact⟨qg _,qa n⟩;simp[Ai,DT];rintro i m ⟨hi,f⟩;by_cases d:i<b.length;have w1:=wS i (by omega);obtain⟨x,A⟩:∃x,b[i]=x:=⟨_,rfl⟩
 have c:=LS d A;have k:=w i;have h2:=w (i+1);have K:¬((((DT b (i+1)).length:Nat):Int)<0):=by omega
 have w2:IntKind.i64.wrap (((DT b i).length:Int)+(x.length:Int))=(((DT b (i+1)).length:Nat):Int):=by
  have:(DT b (i+1)).length=(DT b i).length+x.length:=by rw[c,qt]
  rw[Cl]<;>omega
 simp[go_sem,d,A,w2,K,w1,-Int.natCast_add];exact⟨i+1,by omega,⟨by omega,f⟩,IO,IO⟩;have:i=b.length:=by omega
 subst this;rw[Mm];generalize N:b.flatten=F at O;simp[go_sem];refine qC (bh F.length O) ?_;intro v h' n' t;have M:∃o:Option Nat,(∀j,o=some j->n<=j/\j<n')/\n<=n'/\(∀j y,h j=some y->h' j=some y)/\((o=none/\v=.imm 0 [] true)\/∃j cs,o=some j/\v=.sl j 0 11 0 false/\h' j=some (.cells cs)):=by
  rcases t with⟨_,rfl,rfl,rfl⟩|⟨_,cs,rfl,rfl,rfl⟩
  exact⟨none,by simp,f,λ_ _ e=>e,.inl ⟨rfl,rfl⟩⟩;exact⟨some m,by rintro j e;cases e;omega,by omega,AQ B f AB,.inr ⟨m,cs,rfl,rfl,AC _ _ _⟩⟩
 clear t;obtain⟨o0,u,D,C,G⟩:=M;simp[go_sem];refine An 1 (α:=Nat×Option Nat×SV×Hp) (λa=>[(6,a.2.2.1),(25,.imm 1 (b.map AG) false),(26,AA b.length),(27,AA a.1)]) (λa=>a.2.2.2)
  (λa m=>a.1<=b.length/\n<=m/\(∀j,a.2.1=some j->n<=j/\j<m)/\(∀j y,h j=some y->a.2.2.2 j=some y)/\((a.2.1=none/\a.2.2.1=.imm 0 [] true/\DT b a.1=[])\/∃j cs,a.2.1=some j/\a.2.2.1=.sl j 0 11 (DT b a.1).length false/\a.2.2.2 j=some (.cells cs)/\Bg cs 0 ((DT b a.1).length*11)=some (((DT b a.1).map AE.enc).flatMap SV.cells)))
  (λa=>b.length-a.1) (0,o0,v,h') ?_ ?_ AB ?_
 refine⟨qg _,D,u,C,?_⟩;rcases G with⟨k,h2⟩|⟨j,cs,k,h2,K⟩
 exact .inl ⟨k,h2,rfl⟩;exact .inr ⟨j,cs,k,h2,K,by simp[Bg,DT]⟩;simp[Ai];clear G C u D h' v f m hi d n' o0;rintro⟨i,o,v,h'⟩ m ⟨hi,f,r,BE,t⟩;dsimp only at hi r BE t ⊢;by_cases d:i<b.length;have w1:=wS i (by omega);obtain⟨x,A⟩:∃x,b[i]=x:=⟨_,rfl⟩
 have c:=LS d A;have h2:=w (i+1);rw[N,c,qt]at h2;have hbt:A9 Tryz.prog 22=some 70:=by simp[go_sem]
 by_cases I:x=[];subst I;have g:=λ(H:Hp) (p:Nat)=>OW (H:=H) (p:=p) (len:=(DT b i).length) (s:=v) (by
  rcases t with⟨_,k,_⟩|⟨j,cs,_,k,_⟩
  exact .inl k;exact .inr ⟨j,k⟩)
 simp[go_sem,d,A,g,w1,-Int.natCast_add];exact⟨i+1,by omega,o,v,h',⟨by omega,f,r,BE,by simpa[Bg,c]using t⟩,⟨IO,IO⟩,AB⟩;have J:x.length≠0:=by cases x<;>simp at I ⊢
 have hxn:∀z:List SV,z=x.map AE.enc->Dw (.imm 11 z false)=some x.length:=by rintro z rfl;simp[Dw]
 rcases t with⟨rfl,rfl,h0⟩|⟨j,cs,rfl,rfl,L,ht⟩
 rw[h0,qE]at c;have g:=λ(p:Nat)=>Kw (H:=h') (p:=p) (len:=0) (m:=x.length) (s:=.imm 0 [] true) (x:=AG x) (xs:=[]) (ys:=(x.map AE.enc).flatMap SV.cells) (upd:=none) (.inl ⟨rfl,rfl,rfl,rfl⟩) (by simp[Hd]) (by simp[Dw]) rfl J (by omega);simp[go_sem,d,A,g,w1,-Int.natCast_add];refine⟨i+1,by omega,some m,.sl m 0 11 x.length false,hset h' m (some (.cells ((x.map AE.enc).flatMap SV.cells))),⟨by omega,by omega,by rintro j e;cases e;omega,?_,.inr ⟨m,rfl,by rw[c],_,AC _ _ _,?_⟩⟩,⟨IO,IO⟩,AB⟩;exact λj y e=>by rw[AD _ _ (by have:=(B j y e).1;omega)];exact BE j y e
 rw[c];have:=A7 (AE.E.size x);rw[qd]at this;exact⟨by omega,by rw[<-this,qi]⟩;have hjm:=r j rfl;have g:=λ(p:Nat)=>Kw (H:=h') (p:=p) (len:=(DT b i).length) (m:=x.length) (s:=.sl j 0 11 (DT b i).length false) (x:=AG x) (ys:=(x.map AE.enc).flatMap SV.cells) (upd:=some (j,none)) (.inr ⟨j,cs,rfl,L,ht,rfl⟩) (by simp[Hd]) (by simp[Dw]) rfl J (by omega);simp[go_sem,d,A,g,w1,-Int.natCast_add];refine⟨i+1,by omega,some m,.sl m 0 11 ((DT b i).length+x.length) false,hset (hset h' j none) m (some (.cells (((DT b i).map AE.enc).flatMap SV.cells++(x.map AE.enc).flatMap SV.cells))),⟨by omega,by omega,by rintro j e;cases e;omega,?_,.inr ⟨m,rfl,by rw[c,qt],_,AC _ _ _,?_⟩⟩,⟨IO,IO⟩,AB⟩;exact λq y e=>by have:=(B q y e).1;rw[AD _ _ (by omega),AD _ _ (by omega)];exact BE q y e
 rw[c,qc,jm];have a1:=A7 (AE.E.size (DT b i));have a2:=A7 (AE.E.size x);rw[qd]at a1 a2;have a3:(((DT b i).map AE.enc).flatMap SV.cells++(x.map AE.enc).flatMap SV.cells).length=(DT b i++x).length*11:=by rw[qt,a1,a2,qt,jB]
 exact⟨by omega,by rw[<-a3,qi]⟩;have:i=b.length:=by omega
 subst this;rw[Mm,N]at t;simp[go_sem];rcases t with⟨rfl,rfl,rfl⟩|⟨j,cs,rfl,rfl,k,h2⟩
 exact Jj B BE (by simp) rfl;have L:=r j rfl;have hn:=B.none L.1;have Q:=AE.E.size F;have P:∀l:List SV,AZ (Fz h' h 0) l l:=by
  intro l;induction l with
  | nil=>trivial
  | cons a l ih=>exact⟨IO,ih⟩
 refine Dy (v:=AG F) 1 B BE ?_ (AE.E.imm _ _ _ _);exact .inr ⟨hn,by simp,by simp,rfl,cs,_,k,h2,Q,P _⟩
def Ap (l:List AE):Nat:=(l.map λx=>x.text.size).sum
def Da (hp:AF->Prop) (K:Nat):Nat->List AE->Prop
 | 0,_=>False
 | N+1,l=>l.length<=K/\Ap l<=K/\∀x∈l,hp x.head/\Da hp K N x.flow/\x.rows.length<=K/\∀r∈x.rows,hp r.head/\r.cells.length<=K/\∀c∈r.cells,hp c.head/\Da hp K N c.flow
theorem Da.mono {hp hp':AF->Prop} (f:∀x,hp x->hp' x) {K i:Nat} (h:K<=i):∀{N:Nat} {l:List AE},Da hp K N l->Da hp' i N l
 | N+1,l,H=>⟨by have:=H.1;omega,by have:=H.2.1;omega,λx k=>by
  obtain⟨a,b,c,d⟩:=H.2.2 x k;exact⟨f _ a,b.mono f h,by omega,λr g=>⟨f _ (d r g).1,by have:=(d r g).2.1;omega,λe j=>⟨f _ ((d r g).2.2 e j).1,((d r g).2.2 e j).2.mono f h⟩⟩⟩⟩
theorem Cq (a b:List AE):Ap (a++b)=Ap a+Ap b:=by simp[Ap]
theorem JG {l:List AE} {x:AE} (h:x∈l):x.text.size<=Ap l:=by
 induction l with
 | nil=>cases h
 | cons a l ih=>
  have e:Ap (a::l)=a.text.size+Ap l:=by simp[Ap]
  rcases qk.1 h with rfl|h;omega;have:=ih h;omega
theorem Da.sized {hp:AF->Prop} (i:∀x,hp x->x.sized) {K:Nat} (h:K<=1048576):∀{N:Nat} {l:List AE},Da hp K N l->l.length<=1048576/\AE.sizedL l
 | N + 1, l, H => ⟨by have := H.1; omega, vd fun x hx => by
  obtain⟨a,b,c,d⟩:=H.2.2 x hx;have ht:=JG hx;have ht2:=H.2.1;have k:=Da.sized i h b;have j:Aa.sizedL x.rows:=Aa.sizedL_of λr j=>by
   obtain⟨e,f,g⟩:=d r j;have hc:Wl.sizedL r.cells:=Wl.sizedL_of λq n=>by
    obtain⟨u,v⟩:=g q n;have m:=Da.sized i h v;cases q;rw[Wl.sized];exact⟨i _ u,m.1,m.2⟩
   cases r;rw[Aa.sized];exact⟨i _ e,by simp only[Aa.cells]at f;omega,hc⟩
  cases x;rw[AE.sized];exact⟨by simp only[AE.text]at ht;omega,i _ a,k.1,by simp only[AE.rows]at c;omega,k.2,j⟩⟩
def Lh (hp:AF->Prop) (K N:Nat) (x:AE):Prop:=hp x.head/\Da hp K N x.flow/\x.rows.length<=K/\∀r∈x.rows,hp r.head/\r.cells.length<=K/\∀c∈r.cells,hp c.head/\Da hp K N c.flow
theorem dS {hp:AF->Prop} {K N:Nat} {l:List AE}:Da hp K (N+1) l↔l.length<=K/\Ap l<=K/\∀x∈l,Lh hp K N x:=Iff.rfl
theorem M8 {hp:AF->Prop} {K N:Nat} {x:AE} (H:Lh hp K N x) (t:ByteArray):Lh hp K N (.mk x.kind x.code x.id t x.head x.flow x.rows):=by cases x;exact H
theorem MR (out:List AE) (x:AE):Ap (BK out x)<=Ap out+x.text.size:=by
 unfold BK;split;omega;split;rename_i y a;obtain⟨ys,rfl⟩:∃ys,out=ys++[y]:=by
  rcases List.eq_nil_or_concat out with rfl|⟨ys,z,rfl⟩
  simp at a;simp only[List.concat_eq_append]at a ⊢;rw[JZ]at a;cases a;exact⟨ys,rfl⟩
 split;simp[Ap,AE.addText,AE.text];omega;simp[Ap];omega;simp[Ap]
theorem Nz {p:AE->Prop} (hp:∀x t,p x->p (.mk x.kind x.code x.id t x.head x.flow x.rows)) {out:List AE} {x:AE} (a:∀y∈out,p y) (h2:p x):∀y∈BK out x,p y:=λy b=>by
 rcases Jg b with h|h|⟨z,c,h⟩
 exact a y h;rw[h];exact h2;rw[h];exact hp z _ (a z c)
theorem QL (l:List AE) (out:List AE):Ap (l.foldl BK out)<=Ap out+Ap l:=by
 induction l generalizing out with
 | nil=>simp[Ap]
 | cons a l ih=>
  have h1:=ih (BK out a);have h2:=MR out a;have e:Ap (a::l)=a.text.size+Ap l:=by simp[Ap]
  simp only[qM];omega
theorem LV (l:List AE) (out:List AE):(l.foldl BK out).length<=out.length+l.length:=by
 induction l generalizing out with
 | nil=>simp
 | cons a l ih=>
  have h1:=ih (BK out a);have h2:=Jf out a;simp only[qM,qF];omega
theorem Mq {p:AE->Prop} (hp:∀x t,p x->p (.mk x.kind x.code x.id t x.head x.flow x.rows)) (l:List AE) (out:List AE) (h1:∀y∈out,p y) (h2:∀y∈l,p y):∀y∈l.foldl BK out,p y:=by
 induction l generalizing out with
 | nil=>exact h1
 | cons a l ih=>exact ih (BK out a) (Nz hp h1 (h2 a (by simp))) λy hy=>h2 y (by simp[hy])
theorem FT {hp:AF->Prop} {K:Nat}:∀{N:Nat} {l:List AE},Da hp K N l->Da hp K N (Ac l)
 | N+1,l,H=>by
  rw[dS]at H ⊢;unfold Ac EM;rw[kM];refine⟨?_,?_,?_⟩;have:=LV (l.map AE.nrm) [];simp at this;omega;have:=QL (l.map AE.nrm) [];have e:Ap (l.map AE.nrm)=Ap l:=by simp only[Ap,Qw];congr 1;exact jT λx _=>by simp only[YP,(QP x).2.2.2.1]
  have k:Ap []=0:=rfl;rw[e,k]at this;omega;refine Mq (p:=Lh hp K N) (λx t h=>M8 h t) _ _ (λy g=>by cases g) λy g=>?_;obtain⟨x,s,rfl⟩:=qy.1 g;obtain⟨a,b,c,d⟩:=H.2.2 x s;obtain⟨_,_,_,_,m,n,i⟩:=QP x;refine⟨by rw[m];exact a,by rw[n];exact FT b,?_,?_⟩;rw[i];have:=qU (λr=>!decide (r.cells.length=0)) (x.rows.map Aa.nrm);simp only[qd]at this;omega;rw[i];intro r q;obtain⟨r0,h0,rfl⟩:=qy.1 (qW.1 q).1;obtain⟨u,v,w⟩:=d r0 h0;have f:(Aa.nrm r0).head=r0.head/\(Aa.nrm r0).cells=r0.cells.map Wl.nrm:=by cases r0;rw[Aa.nrm,Uo];exact⟨rfl,rfl⟩
  refine⟨by rw[f.1];exact u,by rw[f.2,qd];exact v,?_⟩;rw[f.2];intro c hc;obtain⟨c0,o,rfl⟩:=qy.1 hc;obtain⟨z,A⟩:=w c0 o;have j:(Wl.nrm c0).head=c0.head/\(Wl.nrm c0).flow=Ac c0.flow:=by cases c0;rw[Wl.nrm];exact⟨rfl,rfl⟩
  exact⟨by rw[j.1];exact z,by rw[j.2];exact FT A⟩
theorem L0 {y:AE} {a b:Nat}:(y.setText (y.text.extract a b)).text.size<=y.text.size:=by
 cases y;simp[AE.setText,AE.text];omega
theorem Nm (cu:Int) (s:List AE×List AE) (p:Int×AE):Ap (Cb cu s p).1<=Ap s.1+p.2.text.size/\Ap (Cb cu s p).2<=Ap s.2+p.2.text.size:=by
 unfold Cb;split;exact⟨by simp[Cq];simp[Ap],by simp⟩;split;exact⟨by simp,by simp[Cq];simp[Ap]⟩;dsimp only;simp only[Cq];constructor;have:∀x:AE,Ap [x]=x.text.size:=by simp[Ap]
 rw[this];have:=@L0 p.2;exact Nat.add_le_add_left (this) _;have:∀x:AE,Ap [x]=x.text.size:=by simp[Ap]
 rw[this];have:=@L0 p.2;exact Nat.add_le_add_left (this) _
theorem Mh (l:List AE) (cu:Int):∀k,k<=l.length->Ap (DJ l cu k).1<=Ap (l.take k)/\Ap (DJ l cu k).2<=Ap (l.take k)
 | 0,_=>by simp[DJ,Ap]
 | k+1,h=>by
  rw[Gw l cu k h,qb h,Cq];have h1:=Mh l cu k (by omega);have h2:=Nm cu (DJ l cu k) (CI (l.take k),l[k]);have h3:Ap [l[k]]=l[k].text.size:=by simp[Ap]
  dsimp only at h2;omega
theorem On {p:AE->Prop} (hp:∀x t,p x->p (.mk x.kind x.code x.id t x.head x.flow x.rows)) (cu:Int) (s:List AE×List AE) (q:Int×AE) (e:∀y∈s.1,p y) (h2:∀y∈s.2,p y) (d:p q.2):(∀y∈(Cb cu s q).1,p y)/\∀y∈(Cb cu s q).2,p y:=by
 have c:∀(a:List AE) (y:AE),(∀z∈a,p z)->p y->∀z∈a++[y],p z:=λa y h h' z b=>by
  rcases qe.1 b with b|b;exact h z b;rw[qv.1 b];exact h'
 unfold Cb;split;exact⟨c _ _ e d,h2⟩;split;exact⟨e,c _ _ h2 d⟩;exact⟨c _ _ e (hp _ _ d),c _ _ h2 (hp _ _ d)⟩
theorem LN {p:AE->Prop} (hp:∀x t,p x->p (.mk x.kind x.code x.id t x.head x.flow x.rows)) (l:List AE) (cu:Int) (h:∀y∈l,p y):∀k,k<=l.length->(∀y∈(DJ l cu k).1,p y)/\∀y∈(DJ l cu k).2,p y
 | 0,_=>by simp[DJ]
 | k+1,hk=>by
  rw[Gw l cu k hk];have a:=LN hp l cu h k (by omega);exact On hp _ _ _ a.1 a.2 (h _ (ql _))
theorem Li {hp:AF->Prop} {K N:Nat} {l:List AE} (cu:Int) (H:Da hp K (N+1) l):Da hp K (N+1) (Bj l cu).1/\Da hp K (N+1) (Bj l cu).2:=by
 rw[dS]at H;have h1:=EU l cu;have h2:=Mh l cu _ (qa _);have a:=LN (p:=Lh hp K N) (λx t h=>M8 h t) l cu H.2.2 _ (qa _);rw[qi]at h2;exact⟨⟨by omega,by have:=h2.1;unfold Bj;omega,a.1⟩,⟨by omega,by have:=h2.2;unfold Bj;omega,a.2⟩⟩
theorem DB {hp:AF->Prop} {K N:Nat} {l:List AE} (a b:Int) (H:Da hp K (N+1) l):Da hp K (N+1) (Ad l a b).1:=by
 unfold Ad;split;exact FT (Li a (Li b H).1).2;exact⟨by simp,by simp[Ap],by simp⟩
theorem MU (l:List AE):(Ac l).length<=l.length:=by
 have:=LV (AE.nrmL l) [];rw[kM]at this;unfold Ac EM;rw[kM];simpa using this
theorem EC (l:List AE) (a b:Int):(Ad l a b).1.length<=l.length:=by
 unfold Ad;split;have h1:=EU l b;have h2:=EU (Bj l b).1 a;have h3:=MU (Bj (Bj l b).1 a).2;dsimp only;omega;simp
structure BW where
 head:AF
 mid:Bool
 units:Int
def BW.enc (p:BW):SV:=.agg (p.head.flat++[.bool p.mid,AA p.units])
structure Av where
 id:Int
 a:Int
 b:Int
def Av.enc (s:Av):SV:=.agg [AA s.id,AA s.a,AA s.b]
def AE.put (x:AE) (h:AF) (f:List AE) (r:List Aa):AE:=.mk x.kind x.code x.id x.text h f r
section
variable {σ : Type} (f : σ → BW → AF × Bool × σ) (it : Int → List AE → Bool → σ → List AE × σ) (mid : Bool)
def Cg (q:List Wl×σ) (c:Wl):List Wl×σ:=
 if(f q.2 ⟨c.head,mid,1⟩).2.1 then(q.1++[.mk c.id (f q.2 ⟨c.head,mid,1⟩).1 (it c.id c.flow mid (f q.2 ⟨c.head,mid,1⟩).2.2).1],(it c.id c.flow mid (f q.2 ⟨c.head,mid,1⟩).2.2).2)
 else(q.1,(f q.2 ⟨c.head,mid,1⟩).2.2)
def DQ (l:List Wl) (s:σ):List Wl×σ:=l.foldl (Cg f it mid) ([],s)
def DM (q:List Aa×σ) (r:Aa):List Aa×σ:=
 if(f q.2 ⟨r.head,mid,1⟩).2.1 then(q.1++[.mk (f q.2 ⟨r.head,mid,1⟩).1 (DQ f it mid r.cells (f q.2 ⟨r.head,mid,1⟩).2.2).1],(DQ f it mid r.cells (f q.2 ⟨r.head,mid,1⟩).2.2).2)
 else(q.1,(f q.2 ⟨r.head,mid,1⟩).2.2)
def GT (l:List Aa) (s:σ):List Aa×σ:=l.foldl (DM f it mid) ([],s)
def By (x:AE) (s:σ):(List AE×List Aa)×σ:=
 if x.kind=6 then(((it x.id x.flow mid s).1,x.rows),(it x.id x.flow mid s).2)
 else if x.kind=7 then((x.flow,(GT f it mid x.rows s).1),(GT f it mid x.rows s).2)
 else((x.flow,x.rows),s)
def Bt (q:List AE×σ) (x:AE):List AE×σ:=
 let r:=f q.2 ⟨x.head,mid,(A8 [x]).1⟩
 if r.2.1 then(q.1++[x.put r.1 (By f it mid x r.2.2).1.1 (By f it mid x r.2.2).1.2],(By f it mid x r.2.2).2)
 else(q.1,r.2.2)
def BL (l:List AE) (s:σ):List AE×σ:=l.foldl (Bt f it mid) ([],s)
end
section
variable {σ : Type} (f : σ → BW → AF × Bool × σ) (sc : Av)
def EX (id:Int) (l:List AE) (mid:Bool):Bool:=decide (id=sc.id) && !mid&&decide (0<=sc.a)&&decide (sc.a<=sc.b)&&decide (sc.b<=(A8 l).1)
def Al:Nat->Int->List AE->Bool->σ->List AE×σ
 | 0,_,_,_,s=>([],s)
 | N + 1, id, l, mid, s =>
  if EX sc id l mid then
   let p1:=BL f (Al N) false (Ad l 0 sc.a).1 s
   let p2:=BL f (Al N) true (Ad l sc.a sc.b).1 p1.2
   let p3:=BL f (Al N) false (Ad l sc.b (A8 l).1).1 p2.2
   (p1.1++p2.1++p3.1,p3.2)
  else BL f (Al N) mid l s
end
theorem DE {α β:Type} (g:β->α->β) (b:β) (l:List α) (i:Nat) (x:α) (h:i<l.length) (a:l[i]=x):(l.take (i+1)).foldl g b=g ((l.take i).foldl g b) x:=by
 rw[qb h,kg,a];rfl
section
variable {σ : Type} {f : σ → BW → AF × Bool × σ} {it : Int → List AE → Bool → σ → List AE × σ} {mid : Bool}
theorem LG (l:List Wl) (z:List Wl×σ):(l.foldl (Cg f it mid) z).1.length<=z.1.length+l.length:=by
 induction l generalizing z with
 | nil=>simp
 | cons a l ih=>
  have:=ih (Cg f it mid z a);have h2:(Cg f it mid z a).1.length<=z.1.length+1:=by unfold Cg;split<;>simp
  simp only[qM,qF];omega
theorem NL (l:List Aa) (z:List Aa×σ):(l.foldl (DM f it mid) z).1.length<=z.1.length+l.length:=by
 induction l generalizing z with
 | nil=>simp
 | cons a l ih=>
  have:=ih (DM f it mid z a);have h2:(DM f it mid z a).1.length<=z.1.length+1:=by unfold DM;split<;>simp
  simp only[qM,qF];omega
theorem GP (l:List AE) (z:List AE×σ):(l.foldl (Bt f it mid) z).1.length<=z.1.length+l.length:=by
 induction l generalizing z with
 | nil=>simp
 | cons a l ih=>
  have:=ih (Bt f it mid z a);have h2:(Bt f it mid z a).1.length<=z.1.length+1:=by unfold Bt;dsimp only;split<;>simp
  simp only[qM,qF];omega
end
section
variable {hp : AF → Prop} {σ : Type} {f : σ → BW → AF × Bool × σ} {it : Int → List AE → Bool → σ → List AE × σ} {mid : Bool} {K N : Nat}
theorem FQ {α β:Type} (g:β->α->β) (I:β->Prop):∀(l:List α) (b:β),I b->(∀b x,x∈l->I b->I (g b x))->I (l.foldl g b)
 | [],_,h,_=>h
 | x::l,b,h,H=>FQ g I l _ (H b x (by simp) h) λb y a=>H b y (by simp[a])
theorem Eu {α:Type} {p:α->Prop} {l:List α} {x:α} (h:∀y∈l,p y) (b:p x):∀y∈l++[x],p y:=λy a=>by
 rcases qe.1 a with a|a;exact h y a;rw[qv.1 a];exact b
theorem HW {sc:Av} (k:∀s p,hp p.head->hp (f s p).1):∀(N:Nat) (id:Int) (l:List AE) (mid:Bool) (s:σ),Da hp K N l->Da hp (3*K) N (Al f sc N id l mid s).1/\(Al f sc N id l mid s).1.length<=3*K
 | 0,_,_,_,_,h=>h.elim
 | N + 1, id, l, mid, s, h => by
  have d:∀mid l s,Da hp K (N+1) l->(BL f (Al f sc N) mid l s).1.length<=K/\Ap (BL f (Al f sc N) mid l s).1<=K/\∀x∈(BL f (Al f sc N) mid l s).1,Lh hp (3*K) N x:=by
   clear h;intro mid l s h;obtain⟨w,h2,y⟩:=dS.1 h;have cells:∀(cs:List Wl) s,cs.length<=K->(∀c∈cs,hp c.head/\Da hp K N c.flow)->(DQ f (Al f sc N) mid cs s).1.length<=3*K/\∀c∈(DQ f (Al f sc N) mid cs s).1,hp c.head/\Da hp (3*K) N c.flow:=λcs s hl hc=>by
    refine⟨by have:=LG (f:=f) (it:=Al f sc N) (mid:=mid) cs ([],s);simp at this;unfold DQ;omega,?_⟩;refine FQ _ (λq:List Wl×σ=>∀c∈q.1,hp c.head/\Da hp (3*K) N c.flow) cs _ (by simp) λq c g i=>?_;unfold Cg;split;exact Eu i ⟨k _ _ (hc c g).1,(HW k N _ _ _ _ (hc c g).2).1⟩;exact i
   have rows:∀(rs:List Aa) s,rs.length<=K->(∀r∈rs,hp r.head/\r.cells.length<=K/\∀c∈r.cells,hp c.head/\Da hp K N c.flow)->(GT f (Al f sc N) mid rs s).1.length<=3*K/\∀r∈(GT f (Al f sc N) mid rs s).1,hp r.head/\r.cells.length<=3*K/\∀c∈r.cells,hp c.head/\Da hp (3*K) N c.flow:=λrs s hl hc=>by
    refine⟨by have:=NL (f:=f) (it:=Al f sc N) (mid:=mid) rs ([],s);simp at this;unfold GT;omega,?_⟩;refine FQ _ (λq:List Aa×σ=>∀r∈q.1,hp r.head/\r.cells.length<=3*K/\∀c∈r.cells,hp c.head/\Da hp (3*K) N c.flow) rs _ (by simp) λq r g i=>?_;unfold DM;split;exact Eu i ⟨k _ _ (hc r g).1,cells _ _ (hc r g).2.1 (hc r g).2.2⟩;exact i
   refine⟨by have:=GP (f:=f) (it:=Al f sc N) (mid:=mid) l ([],s);simp at this;unfold BL;omega,?_,?_⟩;have:∀(l:List AE) (q:List AE×σ),Ap (l.foldl (Bt f (Al f sc N) mid) q).1<=Ap q.1+Ap l:=by
    intro l
    induction l with
    | nil=>intro q;simp
    | cons a l ih =>
     intro q;have e:Ap (a::l)=a.text.size+Ap l:=by simp[Ap]
     have w:=ih (Bt f (Al f sc N) mid q a);have h2:Ap (Bt f (Al f sc N) mid q a).1<=Ap q.1+a.text.size:=by
      unfold Bt;dsimp only;split;rw[Cq];simp[Ap,AE.put,AE.text];dsimp only;omega
     simp only[qM];omega
   have:=this l ([],s);have v:Ap []=0:=rfl;unfold BL;simp only[v]at this;omega;refine FQ _ (λq:List AE×σ=>∀x∈q.1,Lh hp (3*K) N x) l _ (by simp) λq x g i=>?_;obtain⟨a1,a2,a3,a4⟩:=y x g;unfold Bt;dsimp only;split;refine Eu i ?_;have o:K<=3*K:=by omega
   have up:Da hp (3*K) N x.flow:=a2.mono (λ_ h=>h) o;have up2:x.rows.length<=3*K/\∀r∈x.rows,hp r.head/\r.cells.length<=3*K/\∀c∈r.cells,hp c.head/\Da hp (3*K) N c.flow:=⟨by omega,λr m=>⟨(a4 r m).1,by have:=(a4 r m).2.1;omega,λc hc=>⟨((a4 r m).2.2 c hc).1,((a4 r m).2.2 c hc).2.mono (λ_ h=>h) o⟩⟩⟩
   unfold By;split;exact⟨k _ _ a1,(HW k N _ _ _ _ a2).1,up2⟩;split;exact⟨k _ _ a1,up,rows _ _ a3 a4⟩;exact⟨k _ _ a1,up,up2⟩;exact i
  rw[Al];split;have n:=d false _ s (DB 0 sc.a h);generalize BL f (Al f sc N) false (Ad l 0 sc.a).1 s=q1 at n ⊢;have t:=d true _ q1.2 (DB sc.a sc.b h);dsimp only;generalize BL f (Al f sc N) true (Ad l sc.a sc.b).1 q1.2=q2 at t ⊢;have u:=d false _ q2.2 (DB sc.b (A8 l).1 h);generalize BL f (Al f sc N) false (Ad l sc.b (A8 l).1).1 q2.2=q3 at u ⊢;refine⟨dS.2 ⟨by simp;omega,by simp only[Cq];omega,λx j=>?_⟩,by simp;omega⟩;simp only[qe]at j;rcases j with(j|j)|j;exact n.2.2 x j;exact t.2.2 x j;exact u.2.2 x j;have n:=d mid _ s h;exact⟨dS.2 ⟨by omega,by omega,n.2.2⟩,by omega⟩
end
theorem QR {hp:AF->Prop} {L:List Int} (d:∀h,hp h->∀u∈h.all,u∈L) {K:Nat}:∀{N:Nat} {l:List AE},Da hp K N l->∀u∈AE.usL l,u∈L
 | N + 1, l, H => by
  obtain⟨n,o,b⟩:=dS.1 H;clear H n o
  induction l with
  | nil=>simp[AE.usL]
  | cons x l ih=>
   intro u a;rw[AE.usL,qe]at a;rcases a with a|a;obtain⟨a1,a2,a3,a4⟩:=b x (by simp);cases x with
   | mk k c i t h f r=>
    simp only[AE.us,qe,AE.head,AE.flow,AE.rows]at *;rcases a with a|a;exact d h a1 u a;split at a;exact QR d a2 u a;split at a;clear a3 b
    induction r with
    | nil=>simp[Aa.usL]at a
    | cons r rs ihr=>
     rw[Aa.usL,qe]at a;rcases a with a|a;obtain⟨b1,g,e⟩:=a4 r (by simp);cases r with
     | mk h2 cs=>
      simp only[Aa.us,qe,Aa.head,Aa.cells]at *;rcases a with a|a;exact d h2 b1 u a;clear a4 ihr g
      induction cs with
      | nil=>simp[Wl.usL]at a
      | cons q cs ihc=>
       rw[Wl.usL,qe]at a;rcases a with a|a;obtain⟨j,m⟩:=e q (by simp);cases q with
       | mk i3 b f3=>
        simp only[Wl.us,qe,Wl.head,Wl.flow]at *;rcases a with a|a;exact d b j u a;exact QR d m u a
       exact ihc (λc hc=>e c (by simp[hc])) a
     exact ihr (λr p=>a4 r (by simp[p])) a
    cases a
   exact ih (λx s=>b x (by simp[s])) u a
theorem PP:∀{l L:List Int},l.Nodup->(∀u∈l,u∈L)->l.length<=L.length
 | [],_,_,_=>by simp
 | a::l,L,h,H=>by
  rw[jA]at h;have b:=H a (by simp);have:=PP (l:=l) (L:=L.erase a) h.2 λu c=>(List.mem_erase_of_ne (by rintro rfl;exact h.1 c)).2 (H u (by simp[c]));rw[List.length_erase_of_mem b]at this;have hp:0<L.length:=List.length_pos_of_mem b;simp only[qF];omega
theorem UW {X L:List Int} (h:∀u∈X,u∈L):(Bd [] X).length<=L.length:=
 PP (Iu X [] List.nodup_nil) λu a=>h u (by simpa using(LA u X []).1 a)
end Go.Proofs.YtgakninlhfkkmaaGreat.Sh
