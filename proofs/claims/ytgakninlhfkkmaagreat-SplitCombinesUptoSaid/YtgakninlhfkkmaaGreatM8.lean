/- A part of the proof (part 8 of 17). -/
import Derived.Test.YtgakninlhfkkmaaGreatM7
namespace Go.Proofs.YtgakninlhfkkmaaGreat.Sh
open Proofs
set_option maxRecDepth 10000
theorem AE.setText_sized {y:AE} (h:y.sized) (a b:Nat):(y.setText (y.text.extract a b)).sized:=by
 cases y with
 | mk k c i t hd f r=>
  simp only[AE.setText,AE.sized,AE.text,AE.kind,AE.code,AE.id,AE.head,AE.flow,AE.rows]at h ⊢;refine⟨?_,h.2⟩;have:=h.1;simp;omega
theorem MO (cu:Int) (s:List AE×List AE) (p:Int×AE) (hp:p.2.sized) (h1:∀x∈s.1,x.sized) (h2:∀x∈s.2,x.sized):(∀x∈(Cb cu s p).1,x.sized)/\∀x∈(Cb cu s p).2,x.sized:=by
 unfold Cb;split;refine⟨λx hx=>?_,h2⟩;rcases qe.1 hx with hx|hx;exact h1 x hx;rw[qv.1 hx];exact hp;split;refine⟨h1,λx hx=>?_⟩;rcases qe.1 hx with hx|hx;exact h2 x hx;rw[qv.1 hx];exact hp;refine⟨λx hx=>?_,λx hx=>?_⟩;rcases qe.1 hx with hx|hx;exact h1 x hx;rw[qv.1 hx];exact AE.setText_sized hp _ _;rcases qe.1 hx with hx|hx;exact h2 x hx;rw[qv.1 hx];exact AE.setText_sized hp _ _
theorem I1 (l:List AE) (cu:Int) (hs:∀x∈l,x.sized):∀k,k<=l.length->(∀x∈(DJ l cu k).1,x.sized)/\∀x∈(DJ l cu k).2,x.sized
 | 0,_=>by simp[DJ]
 | k+1,h=>by
  rw[Gw l cu k h];have h2:=I1 l cu hs k (by omega);exact MO _ _ _ (hs _ (ql _)) h2.1 h2.2
theorem Hl (l:List AE) (cu:Int) (hs:AE.sizedL l):AE.sizedL (Bj l cu).1/\AE.sizedL (Bj l cu).2:=
 ⟨vd (I1 l cu (ka hs) _ (qa _)).1,vd (I1 l cu (ka hs) _ (qa _)).2⟩
theorem EU (l:List AE) (cu:Int):(Bj l cu).1.length<=l.length/\(Bj l cu).2.length<=l.length:=LO l cu _ (qa _)
theorem AE.sizedL_text {l:List AE} (h:AE.sizedL l):∀x∈l,x.text.size<=1048576:=λx hx=>by
 have:=ka h x hx;cases x;simp only[AE.sized,AE.text]at this ⊢;exact this.1
def Ad (l:List AE) (a b:Int):List AE×Int:=if ET l a b=0 then(Ac (Bj (Bj l b).1 a).2,0)else([],ET l a b)
theorem Rh (l:List AE) (a b:Int) (hl:l.length<=1048576) (hs:AE.sizedL l):PC 180 [AG l,AA a,AA b] (.tup [AG (Ad l a b).1,AA (Ad l a b).2]):=by
 intro h n;refine gq Tryz.func180 rfl λho=>?_;simp[go_sem];refine(aX l a b hl (AE.sizedL_text hs)).use ?_;by_cases hc:ET l a b=0;have s1:=(Hl l b hs).1;have l1:=(EU l b).1;have s2:=(Hl _ a s1).2;have l2:=(EU (Bj l b).1 a).2;simp[go_sem,hc];refine(Xh l b hl (AE.sizedL_text hs)).use ?_;simp[go_sem];refine(Xh _ a (by omega) (AE.sizedL_text s1)).use ?_;simp[go_sem];refine(c73 _ (by omega) s2).use ?_;simp[go_sem];refine As ho (by simp[closed,closedL,AE.E.closedL]) ?_;simp[Ad,hc];simp[go_sem,hc];have e:Ad l a b=([],ET l a b):=by simp[Ad,hc]
 rw[e];exact Dy 2 ho AB (.inr ⟨BC (by simp),IO,trivial⟩) (by simp[closed,closedL])
def AF.revs (h:AF):List Int:=(if h.ins=0 then[]else[h.ins])++h.dels.map (·.rev)++h.layers.map (·.rev)
def AF.revsK (h:AF) (i j:Nat):List Int:=(if h.ins=0 then[]else[h.ins])++(h.dels.take i).map (·.rev)++(h.layers.take j).map (·.rev)
theorem AF.revsK_len (h:AF) (i j:Nat) (hi:i<=h.dels.length) (hj:j<=h.layers.length):(h.revsK i j).length<=1+i+j:=by
 unfold AF.revsK;split<;>simp<;>omega
theorem Kx {H:Hp} {n m k p:Nat} {es:List Int} {x:Int} {o:Option Nat} (hA:Ar n m 1 o (es.map AA)) (hl:es.length<=1073741823) (h1:H k=some (.cells [AA x])) (h2:∀j,o=some j->H j=some (.cells (es.map AA))):
 AU Tryz.prog H p .append [61,61] [AM 1 o (es.map AA),.sl k 0 1 1 true]=some { val:=.sl p 0 1 (es.length+1) false,upd:=o.map λj=>(j,none),new:=some (.cells (es.map AA++[AA x])) }:=by
 have:=Dp (P:=Tryz.prog) (H:=H) (t:=61) (t2:=61) (el:=3) (by simp[go_sem]) (by simp[go_sem]) (by simp[go_sem]) (by simp) (by simp[go_sem]) (by simp[go_sem]) (by simp[go_sem]) (by simp;omega) hA (e:=AA x) rfl h1 (λj e=>by rw[h2 j e,Dv]) p;rw[this,Dv];simp[SV.cells]
theorem JI (o:Option Nat) (l:List Int) (h:Hp):AN o (l.map AA) h=match o with|none=>h|some j=>hset h j (some (.cells (l.map AA))):=by
 cases o<;>simp[AN,Dv]
theorem Zp (hd:AF) (hs:hd.sized) (hrl:hd.revs.length<=1048576):PC 114 [hd.enc] (.imm 1 ((DI (Ca hd.revs)).map AA) false):=by
 intro h n;refine Db Tryz.func114 rfl λho=>?_;have hn0:=ho.none (qa n);refine BP 2 [(1,.iptr hd.flat)] h (λm=>m=n+1) ?_ (λm hm=>?_);simp[go_sem,AF.enc];exact⟨AV hn0 (by simp[AC]),AQ ho (qa _) AB⟩;subst hm;refine BM 1 (α:=Unit) (λ_=>[(1,.iptr hd.flat),(3,AM 1 none [])]) (λ_=>h) (λ_ m=>m=n+1) (by simp[go_sem,AM]) (λ_ m hm=>?_);subst hm;refine BM 1 (α:=Option Nat) (λo=>[(1,.iptr hd.flat),(3,AM 1 o ((hd.revsK 0 0).map AA))]) (λo=>AN o ((hd.revsK 0 0).map AA) h) (λo m=>n<m/\Ar (n+1) m 1 o ((hd.revsK 0 0).map AA)) ?_ (λo m hm=>?_);by_cases e:hd.ins=0;simp[go_sem,AF.flat,e,AF.revsK];exact⟨none,jK _ _ _,IO,AB⟩;have hap:=λ(H:Hp) (k p:Nat) (h1:H k=some (.cells [AA hd.ins]))=>Kx (H:=H) (k:=k) (p:=p) (es:=[]) (x:=hd.ins) (jK 0 0 1) (by simp) h1 (by simp);simp only[qS,jI,kh,qE]at hap;simp[go_sem,AF.flat,e,AF.revsK];rw[hap _ _ _ (by simp[AC])];simp[go_sem];refine⟨some (n+1+1),?_,?_,?_⟩;exact(jK (n+1) (n+1) 1).push (e:=AA hd.ins) rfl rfl (by omega) (by omega);simp[AM,IO];intro j y;have:=ho j y;simp only[AN,hset,SV.cells,qK,jY,jq];grind;obtain⟨hnm,hA⟩:=hm;refine AH ?_;simp[go_sem,AF.flat];refine An 1 (α:=Nat×Option Nat) (λq=>[(1,.iptr hd.flat),(3,AM 1 q.2 ((hd.revsK q.1 0).map AA)),(20,AP hd.dels),(21,AA hd.dels.length),(22,AA q.1)]) (λq=>AN q.2 ((hd.revsK q.1 0).map AA) h)
  (λq m=>q.1<=hd.dels.length/\n<m/\Ar (n+1) m 1 q.2 ((hd.revsK q.1 0).map AA)) (λq=>hd.dels.length-q.1) (0,o) ?_ ?_ AB ?_
 exact⟨qg _,hnm,hA⟩;simp[Ai,AF.flat];clear hA hnm;rintro⟨i,o⟩ m ⟨hi,hnm,hA⟩;dsimp only at hi hA ⊢;have hsd:=hs.dels;have hsl:=hs.layers;have hlen:=hd.revsK_len i 0 hi (qg _);have hon:∀j,o=some j->n<j/\j<m:=λj e=>by have:=hA.lt j e;omega
 by_cases hlt:i<hd.dels.length;have w1:=wS i (by omega);obtain⟨x,hx⟩:∃x,hd.dels[i]=x:=⟨_,rfl⟩
 have hsn:hd.revsK (i+1) 0=hd.revsK i 0++[x.rev]:=by
  unfold AF.revsK;rw[qb hlt,hx];simp
 simp[go_sem,hlt,hx,Az.enc,AC,AS,AF.flat];rw[Kx (x:=x.rev) hA (by omega) (by simp[AC]) (by
  intro j e;have:=hon j e;subst e;simp only[JI,hset];grind)]
 simp[go_sem,w1,-Int.natCast_add];refine⟨i+1,by omega,some (m+1+1),⟨by omega,by omega,?_⟩,⟨?_,IO⟩,?_⟩;rw[hsn,qc];exact hA.push rfl rfl (by omega) (by omega);rw[hsn];simp[AM,IO];rw[hsn];intro j y;have:=ho j y;have:=hon j;simp only[JI];simp only[hset,qc,qu,qS];cases o<;>simp only[kh,jk,hset]<;>grind;have:i=hd.dels.length:=by omega
 subst this;simp[go_sem,AF.flat];refine An 1 (α:=Nat×Option Nat) (λq=>[(1,.iptr hd.flat),(3,AM 1 q.2 ((hd.revsK hd.dels.length q.1).map AA)),(34,AL hd.layers),(35,AA hd.layers.length),(36,AA q.1)]) (λq=>AN q.2 ((hd.revsK hd.dels.length q.1).map AA) h)
  (λq m=>q.1<=hd.layers.length/\n<m/\Ar (n+1) m 1 q.2 ((hd.revsK hd.dels.length q.1).map AA)) (λq=>hd.layers.length-q.1) (0,o) ?_ ?_ AB ?_
 exact⟨qg _,hnm,hA⟩;simp[Ai,AF.flat];clear hA hnm hlen hon;rintro⟨i,o⟩ m ⟨hi,hnm,hA⟩;dsimp only at hi hA ⊢;have hlen:=hd.revsK_len hd.dels.length i (qa _) hi;have hon:∀j,o=some j->n<j/\j<m:=λj e=>by have:=hA.lt j e;omega
 by_cases hlt:i<hd.layers.length;have w1:=wS i (by omega);obtain⟨x,hx⟩:∃x,hd.layers[i]=x:=⟨_,rfl⟩
 have hsn:hd.revsK hd.dels.length (i+1)=hd.revsK hd.dels.length i++[x.rev]:=by
  unfold AF.revsK;rw[qb hlt,hx];simp
 simp[go_sem,hlt,hx,Am.enc,AC,AS,AF.flat];rw[Kx (x:=x.rev) hA (by omega) (by simp[AC]) (by
  intro j e;have:=hon j e;subst e;simp only[JI,hset];grind)]
 simp[go_sem,w1,-Int.natCast_add];refine⟨i+1,by omega,some (m+1+1),⟨by omega,by omega,?_⟩,⟨?_,IO⟩,?_⟩;rw[hsn,qc];exact hA.push rfl rfl (by omega) (by omega);rw[hsn];simp[AM,IO];rw[hsn];intro j y;have:=ho j y;have:=hon j;simp only[JI];simp only[hset,qc,qu,qS];cases o<;>simp only[kh,jk,hset]<;>grind;have:i=hd.layers.length:=by omega
 subst this;have hR:hd.revsK hd.dels.length hd.layers.length=hd.revs:=by simp[AF.revsK,AF.revs]
 rw[hR]at hA hlen ⊢;cases o with
 | none=>
  have he:=hA.none rfl;simp only[List.map_eq_nil_iff]at he;simp[go_sem,AF.flat,AM,AN];refine kU (bs:=[.imm 1 [.imm 1 (hd.revs.map AA) false] false]) (h2:=h) 2 (AQ ho (by omega) AB) ⟨?_,trivial⟩ ((Xc hd.revs hrl).use ?_);rw[he];refine .inr ⟨ho.none (show n<=m by omega),by simp,rfl,rfl,[.imm 0 [] true],[.imm 0 [] true],AC _ _ _,by simp[Bg],by simp[SV.storable,SV.cells],?_⟩;exact⟨BC (by simp),trivial⟩;simp[go_sem];exact As ho (by simp[closed,Hz.closedL]) rfl
 | some q=>
  have hq:=hon q rfl;simp[go_sem,AF.flat,AM];refine kU (bs:=[.imm 1 [.imm 1 (hd.revs.map AA) false] false]) (h2:=h) 2 (by intro j y;have:=ho j y;simp only[AN,hset];grind) ⟨?_,trivial⟩ ((Xc hd.revs hrl).use ?_);refine .inr ⟨ho.none (show n<=m by omega),by simp,rfl,rfl,_,_,AC _ _ _,by simp[Bg];rfl,by simp[SV.storable,SV.cells],?_⟩;refine⟨?_,trivial⟩;have:=DV (h':=hset (AN (some q) (hd.revs.map AA) h) m (some (.cells [.sl q 0 1 hd.revs.length false]))) (h:=h) (k:=0) (z:=1) (o:=q) (es:=hd.revs.map AA) (full:=false) (full':=false) (ho.none (by omega)) (by simp) (by rw[AD _ _ (by omega)];simp[AN,hset]) (Hz.size _);simpa using this;simp[go_sem];exact As ho (by simp[closed,Hz.closedL]) rfl
theorem Ru (l:List Int) (x:Int):x∈DI l↔x∈l:=(List.mergeSort_perm l _).mem_iff
theorem Nl (l:List Int):(Ca l).length<=l.length:=by have:=IX l l.length (qa _);simpa using this
def AF.uses (h:AF) (rev:Int):Bool:=decide (rev∈h.revs)
theorem c38 (hd:AF) (hs:hd.sized) (hrl:hd.revs.length<=1048576) (rev:Int):PC 38 [hd.enc,AA rev] (.bool (hd.uses rev)):=by
 intro h n;refine gq Tryz.func38 rfl λho=>?_;simp[go_sem,AF.enc,AF.flat,AC];refine qw (by simpa[AF.enc,AF.flat]using Zp hd hs hrl) ?_;simp[go_sem];have hl:(DI (Ca hd.revs)).length<=1048576:=by
  have h1:(DI (Ca hd.revs)).length=(Ca hd.revs).length:=jW _;have:=Nl hd.revs;omega
 refine(Vz _ rev hl).use ?_;simp[go_sem];exact Ay ho (AQ ho (qa _) AB) (by simp[AF.uses,Ru,Ri]) rfl
def Ez (out:List Int) (x:Int):List Int:=if x∈out then out else out++[x]
def Bd (out l:List Int):List Int:=l.foldl Ez out
theorem CF (out a b:List Int):Bd out (a++b)=Bd (Bd out a) b:=kg
theorem LA (x:Int):∀(l out:List Int),x∈Bd out l↔x∈out\/x∈l
 | [],out=>by simp[Bd]
 | a::l,out=>by
  have ih:=LA x l (Ez out a);have e:Bd out (a::l)=Bd (Ez out a) l:=rfl;rw[e,ih];unfold Ez;split;rename_i h;constructor;rintro(h1|h1);exact .inl h1;exact .inr (qL _ h1);rintro(h1|h1);exact .inl h1;rcases qk.1 h1 with rfl|h1;exact .inl h;exact .inr h1;simp only[qe,qk,List.not_mem_nil,or_false,or_assoc]
theorem Iu:∀(l out:List Int),out.Nodup->(Bd out l).Nodup
 | [],_,h=>h
 | a::l,out,h=>by
  have e:Bd out (a::l)=Bd (Ez out a) l:=rfl;rw[e];refine Iu l _ ?_;unfold Ez;split;exact h;rename_i hn;rw[List.nodup_append];refine⟨h,by simp,λx hx y hy=>?_⟩;simp at hy;rintro rfl;subst hy;exact hn hx
theorem OV:∀(l out:List Int),(Bd out l).length<=out.length+l.length
 | [],out=>by simp[Bd]
 | a::l,out=>by
  have e:Bd out (a::l)=Bd (Ez out a) l:=rfl;rw[e];have:=OV l (Ez out a);have h2:(Ez out a).length<=out.length+1:=by unfold Ez;split<;>simp
  simp;omega
theorem Qk (out:List Int) (x:Int):
 (∃i v,DH (AA x) (Ed out) 0=some (some (i,v))/\(Ed out).modify i (λ_=>(AA x,.bool true))=Ed (Ez out x))\/(DH (AA x) (Ed out) 0=some none/\Ed out++[(AA x,.bool true)]=Ed (Ez out x)):=by
 by_cases hm:x∈out;obtain⟨j,h1,h2⟩:=DS 0 hm;refine .inl ⟨0+j,_,h1,?_⟩;have:=JD h2;rw[jc,Ez,if_pos hm];exact this;refine .inr ⟨Du 0 hm,?_⟩;rw[Ez,if_neg hm];simp[Ed]
def AF.all (h:AF):List Int:=h.ins::(h.dels.map (·.rev)++h.layers.map (·.rev))
theorem Uh (hd:AF) (hsz:hd.sized) (out:List Int) {H:Hp} {n p s:Nat} (hp:H p=some (.cells [.map s])) (hs:H s=some (.map (Ed out))):
 BA Tryz.prog 137 [hd.enc,.ptr p 0] H n (λv h' n'=>v=.tup []/\h'=hset H s (some (.map (Ed (Bd out hd.all))))/\n'=n):=by
 refine Db Tryz.func137 rfl λho=>?_;have hpn:=(ho p _ hp).1;have hsn:=(ho s _ hs).1;have hps:p≠s:=by rintro rfl;rw[hp]at hs;cases hs
 have e1:p≠n:=by omega
 have e2:s≠n:=by omega
 have hsd:=hsz.dels;have hsl:=hsz.layers;have A:∀l:List Int,hd.all=hd.ins::l->Bd out hd.all=Bd (Ez out hd.ins) l:=λl e=>by rw[e];rfl
 refine BP 2 [(1,.ptr p 0),(2,.iptr hd.flat)] H (λm=>m=n+1) ?_ (λm hm=>?_);simp[go_sem,AF.enc,IO];exact⟨AV (ho.none (qa n)) (by simp[AC]),AQ ho (qa _) AB⟩;subst hm;refine BP 1 [(1,.ptr p 0),(2,.iptr hd.flat)] (hset H s (some (.map (Ed (Ez out hd.ins))))) (λm=>m=n+1) ?_ (λm hm=>?_);rcases Qk out hd.ins with⟨i,v,h1,h2⟩|⟨h1,h2⟩<;>simp[go_sem,AF.flat,hp,hs,h1,h2,CK];subst hm;refine AH ?_;simp[go_sem,AF.flat];refine An 1 (α:=Nat) (λi=>[(1,.ptr p 0),(2,.iptr hd.flat),(13,AP hd.dels),(14,AA hd.dels.length),(15,AA i)]) (λi=>hset H s (some (.map (Ed (Bd (Ez out hd.ins) ((hd.dels.take i).map (·.rev)))))))
  (λi m=>i<=hd.dels.length/\n<m) (λi=>hd.dels.length-i) 0 ?_ ?_ ?_ ?_
 exact⟨qg _,qP n⟩;simp[Ai,AF.flat];exact AB;rintro i m ⟨hi,hnm⟩;have e3:p≠m:=by omega
 have e4:s≠m:=by omega
 by_cases hlt:i<hd.dels.length
 . have w1:=wS i (by omega);obtain⟨x,hx⟩:∃x,hd.dels[i]=x:=⟨_,rfl⟩
   have hsn:Bd (Ez out hd.ins) ((hd.dels.take (i+1)).map (·.rev))=Ez (Bd (Ez out hd.ins) ((hd.dels.take i).map (·.rev))) x.rev:=by
    rw[qb hlt,hx,qc,CF];rfl
   generalize Bd (Ez out hd.ins) ((hd.dels.take i).map (·.rev))=o2 at hsn ⊢;rcases Qk o2 x.rev with⟨k,v,h1,h2⟩|⟨h1,h2⟩<;>simp[go_sem,AF.flat,hlt,hx,Az.enc,hp,h1,h2,CK,w1,AC,AD,e3,e4,hps,-Int.natCast_add]
   all_goals
    refine⟨i+1,by omega,⟨by omega,by omega⟩,IO,?_⟩;rw[<-kz,hsn];intro j y;have:=ho j y;simp only[hset];grind
 . have:i=hd.dels.length:=by omega
   subst this;rw[qi];generalize hO:Bd (Ez out hd.ins) (hd.dels.map (·.rev))=out1;simp[go_sem,AF.flat];refine An 1 (α:=Nat) (λi=>[(1,.ptr p 0),(2,.iptr hd.flat),(25,AL hd.layers),(26,AA hd.layers.length),(27,AA i)]) (λi=>hset H s (some (.map (Ed (Bd out1 ((hd.layers.take i).map (·.rev)))))))
    (λi m=>i<=hd.layers.length/\n<m) (λi=>hd.layers.length-i) 0 ?_ ?_ ?_ ?_
   exact⟨qg _,hnm⟩;simp[Ai,AF.flat];exact AB;clear hi hnm e3 e4 m hlt;rintro i m ⟨hi,hnm⟩;have e3:p≠m:=by omega
   have e4:s≠m:=by omega
   by_cases hlt:i<hd.layers.length
   . have w1:=wS i (by omega);obtain⟨x,hx⟩:∃x,hd.layers[i]=x:=⟨_,rfl⟩
     have hsn:Bd out1 ((hd.layers.take (i+1)).map (·.rev))=Ez (Bd out1 ((hd.layers.take i).map (·.rev))) x.rev:=by
      rw[qb hlt,hx,qc,CF];rfl
     generalize Bd out1 ((hd.layers.take i).map (·.rev))=o2 at hsn ⊢;rcases Qk o2 x.rev with⟨k,v,h1,h2⟩|⟨h1,h2⟩<;>simp[go_sem,AF.flat,hlt,hx,Am.enc,hp,h1,h2,CK,w1,AC,AD,e3,e4,hps,-Int.natCast_add]
     all_goals
      refine⟨i+1,by omega,⟨by omega,by omega⟩,IO,?_⟩;rw[<-kz,hsn];intro j y;have:=ho j y;simp only[hset];grind
   have:i=hd.layers.length:=by omega
   subst this;rw[qi];simp[go_sem,AF.flat];have hfin:Bd out1 (hd.layers.map (·.rev))=Bd out hd.all:=by
    rw[<-hO,<-CF];exact(A _ rfl).symm
   rw[hfin];refine .inr ⟨0,.tup [],_,IO,by simp[closed,closedL],λo x e=>⟨e,?_⟩,rfl,rfl,rfl⟩;have:=ho o x;simp only[hset]at e;split at e;subst_vars;cases e;refine⟨hsn,?_⟩;simp[BQ,Ed,closed];exact this e
mutual
def AE.us:AE->List Int
 | .mk k _ _ _ h f r=>h.all++(if k=6 then AE.usL f else if k=7 then Aa.usL r else[])
def AE.usL:List AE->List Int
 | []=>[]
 | x::l=>x.us++AE.usL l
def Aa.us:Aa->List Int
 | .mk h c=>h.all++Cell.usL c
def Aa.usL:List Aa->List Int
 | []=>[]
 | x::l=>x.us++Aa.usL l
def Cell.us:Cell->List Int
 | .mk _ h f=>h.all++AE.usL f
def Cell.usL:List Cell->List Int
 | []=>[]
 | x::l=>x.us++Cell.usL l
end
theorem AE.usL_append:∀a b:List AE,AE.usL (a++b)=AE.usL a++AE.usL b
 | [],b=>by simp[AE.usL]
 | x::a,b=>by rw[qz,AE.usL,AE.usL_append a b,AE.usL,qn]
theorem Aa.usL_append:∀a b:List Aa,Aa.usL (a++b)=Aa.usL a++Aa.usL b
 | [],b=>by simp[Aa.usL]
 | x::a,b=>by rw[qz,Aa.usL,Aa.usL_append a b,Aa.usL,qn]
theorem Cell.usL_append:∀a b:List Cell,Cell.usL (a++b)=Cell.usL a++Cell.usL b
 | [],b=>by simp[Cell.usL]
 | x::a,b=>by rw[qz,Cell.usL,Cell.usL_append a b,Cell.usL,qn]
theorem U8 {H h':Hp} {n n' s:Nat} {y:BT} (ho:Es H n) (hsn:s<n) (hc:BQ n y=true) (hh:∀j z,hset H s (some y) j=some z->h' j=some z):
 B8 n h' n' (.tup []) (λv h2 n2=>v=.tup []/\h2=hset H s (some y)/\n2=n):=by
 refine .inr ⟨0,.tup [],_,IO,by simp[closed,closedL],λo x e=>⟨hh o x e,?_⟩,rfl,rfl,rfl⟩;simp only[hset]at e;split at e;subst_vars;cases e;exact⟨hsn,hc⟩;exact ho o x e
theorem HY (n:Nat) (out:List Int):BQ n (.map (Ed out))=true:=by simp[BQ,Ed,closed]
theorem bT:∀(N:Nat) (l:List AE),SizeOf.sizeOf l<N->l.length<=1048576->AE.sizedL l->∀(out:List Int) (H:Hp) (n p s:Nat),H p=some (.cells [.map s])->H s=some (.map (Ed out))->
 BA Tryz.prog 138 [AG l,.fn (.func 137) [] [.ptr p 0]] H n (λv h' n'=>v=.tup []/\h'=hset H s (some (.map (Ed (Bd out (AE.usL l)))))/\n'=n):=by
 intro N
 induction N with
 | zero=>intro l h;omega
 | succ N ih=>
 intro l hN hl hs out H n p s hp hsm;refine gq Tryz.func138 rfl λho=>?_;have hpn:=(ho p _ hp).1;have hsn:=(ho s _ hsm).1;have hps:p≠s:=by rintro rfl;rw[hp]at hsm;cases hsm
 simp[go_sem];refine An 1 (α:=Nat) (λi=>[(1,.fn (.func 137) [] [.ptr p 0]),(10,AG l),(11,AA l.length),(12,AA i)]) (λi=>hset H s (some (.map (Ed (Bd out (AE.usL (l.take i)))))))
  (λi m=>i<=l.length/\n<=m) (λi=>l.length-i) 0 ?_ ?_ ?_ ?_
 exact⟨qg _,qa n⟩;simp[Ai];intro j y;simp only[hset,km,AE.usL,Bd,List.foldl_nil];grind;rintro i m ⟨hi,hnm⟩;have e3:p≠m:=by omega
 have e4:s≠m:=by omega
 by_cases hlt:i<l.length;have w1:=wS i (by omega);obtain⟨x,hx⟩:∃x,l[i]=x:=⟨_,rfl⟩
 have hxm:x∈l:=by rw[<-hx];exact ql hlt
 have hxs:=ka hs x hxm;have hxp:=D7 hxs;have htk:AE.usL (l.take (i+1))=AE.usL (l.take i)++x.us:=by
  rw[qb hlt,hx,AE.usL_append];simp[AE.usL]
 have hA:Bd out (AE.usL (l.take (i+1)))=Bd (Bd out (AE.usL (l.take i))) x.us:=by rw[htk,CF]
 generalize Bd out (AE.usL (l.take i))=o2 at hA ⊢;simp[go_sem,hlt,hx,qx,AC];refine qC (by simpa[AF.enc,AF.flat]using Uh x.head hxp.1 o2 (p:=p) (s:=s) (by simp[hset,e3,hps,hp]) (by simp[hset,e4])) ?_;rintro v h' n' ⟨rfl,rfl,rfl⟩;have hxu:x.us=x.head.all++(if x.kind=6 then AE.usL x.flow else if x.kind=7 then Aa.usL x.rows else[]):=by cases x;rfl
 by_cases k6:x.kind=6;have hxf:x.flow.length<=1048576/\AE.sizedL x.flow:=by cases x;rw[AE.sized]at hxs;exact⟨hxs.2.2.1,hxs.2.2.2.2.1⟩
 simp[go_sem,AC,AD,e4.symm,k6];refine qC (ih x.flow (by have:=Mn hxm;omega) hxf.1 hxf.2 (Bd o2 x.head.all) _ _ p s (by simp[hset,e3,hps,hp]) (by simp[hset])) ?_;rintro v h' n' ⟨rfl,rfl,rfl⟩;simp[go_sem,w1,-Int.natCast_add];refine⟨i+1,by omega,⟨by omega,by omega⟩,IO,?_⟩;rw[hA,hxu,if_pos k6,CF];intro j y;have:=ho j y;simp only[hset];grind;by_cases k7:x.kind=7;have hxr:x.rows.length<=1048576/\Aa.sizedL x.rows:=by cases x;rw[AE.sized]at hxs;exact⟨hxs.2.2.2.1,hxs.2.2.2.2.2⟩
 rw[if_neg k6,if_pos k7]at hxu;simp[go_sem,AC,AD,e4.symm,k7];generalize hO3:Bd o2 x.head.all=o3;refine An 1 (α:=Nat) (λq=>[(1,.fn (.func 137) [] [.ptr p 0]),(10,AG l),(11,AA l.length),(12,AA i),(31,A3 x.rows),(32,AA x.rows.length),(33,AA q)]) (λq=>hset H s (some (.map (Ed (Bd o3 (Aa.usL (x.rows.take q)))))))
  (λq m=>q<=x.rows.length/\n<=m) (λq=>x.rows.length-q) 0 ?_ ?_ ?_ ?_
 exact⟨qg _,by omega⟩;simp[Ai];intro j y;have:=ho j y;simp only[hset,km,Aa.usL,Bd,List.foldl_nil];grind;clear e3 e4 hnm m;rintro q m ⟨hq,hnm⟩;have e3:p≠m:=by omega
 have e4:s≠m:=by omega
 by_cases hqt:q<x.rows.length;have w2:=wS q (by omega);obtain⟨r,hr⟩:∃r,x.rows[q]=r:=⟨_,rfl⟩
 have hrm:r∈x.rows:=by rw[<-hr];exact ql hqt
 have hrs:=Aa.sizedL_mem hxr.2 r hrm;have hrk:Aa.usL (x.rows.take (q+1))=Aa.usL (x.rows.take q)++r.us:=by
  rw[qb hqt,hr,Aa.usL_append];simp[Aa.usL]
 have hB:Bd o3 (Aa.usL (x.rows.take (q+1)))=Bd (Bd o3 (Aa.usL (x.rows.take q))) r.us:=by rw[hrk,CF]
 have hru:r.us=r.head.all++Cell.usL r.cells:=by cases r;rfl
 have hrc:r.head.sized/\r.cells.length<=1048576/\Cell.sizedL r.cells:=by cases r;rw[Aa.sized]at hrs;exact hrs
 generalize Bd o3 (Aa.usL (x.rows.take q))=o4 at hB ⊢;simp[go_sem,hqt,hr,qQ,AC];refine qC (by simpa[AF.enc,AF.flat]using Uh r.head hrc.1 o4 (p:=p) (s:=s) (by simp[hset,e3,hps,hp]) (by simp[hset,e4])) ?_;rintro v h' n' ⟨rfl,rfl,rfl⟩;simp[go_sem,AC,AD,e4.symm];generalize hO5:Bd o4 r.head.all=o5;refine An 1 (α:=Nat) (λw=>[(1,.fn (.func 137) [] [.ptr p 0]),(10,AG l),(11,AA l.length),(12,AA i),(31,A3 x.rows),(32,AA x.rows.length),(33,AA q),(42,BS r.cells),(43,AA r.cells.length),(44,AA w)]) (λw=>hset H s (some (.map (Ed (Bd o5 (Cell.usL (r.cells.take w)))))))
  (λw m=>w<=r.cells.length/\n<=m) (λw=>r.cells.length-w) 0 ?_ ?_ ?_ ?_
 exact⟨qg _,by omega⟩;simp[Ai];intro j y;have:=ho j y;simp only[hset,km,Cell.usL,Bd,List.foldl_nil];grind;clear e3 e4 hnm m;rintro w m ⟨hw,hnm⟩;have e3:p≠m:=by omega
 have e4:s≠m:=by omega
 by_cases hwt:w<r.cells.length;have w3:=wS w (by omega);obtain⟨c,hc⟩:∃c,r.cells[w]=c:=⟨_,rfl⟩
 have hcm:c∈r.cells:=by rw[<-hc];exact ql hwt
 have hcs:=ve hrc.2.2 c hcm;have hck:Cell.usL (r.cells.take (w+1))=Cell.usL (r.cells.take w)++c.us:=by
  rw[qb hwt,hc,Cell.usL_append];simp[Cell.usL]
 have hC:Bd o5 (Cell.usL (r.cells.take (w+1)))=Bd (Bd o5 (Cell.usL (r.cells.take w))) c.us:=by rw[hck,CF]
 have hcu:c.us=c.head.all++AE.usL c.flow:=by cases c;rfl
 have hcc:c.head.sized/\c.flow.length<=1048576/\AE.sizedL c.flow:=by cases c;rw[Cell.sized]at hcs;exact hcs
 generalize Bd o5 (Cell.usL (r.cells.take w))=o6 at hC ⊢;simp[go_sem,hwt,hc,jh,AC];refine qC (by simpa[AF.enc,AF.flat]using Uh c.head hcc.1 o6 (p:=p) (s:=s) (by simp[hset,e3,hps,hp]) (by simp[hset,e4])) ?_;rintro v h' n' ⟨rfl,rfl,rfl⟩;simp[go_sem,AC,AD,e4.symm];refine qC (ih c.flow (by have:=Me hxm hrm hcm;omega) hcc.2.1 hcc.2.2 (Bd o6 c.head.all) _ _ p s (by simp[hset,e3,hps,hp]) (by simp[hset])) ?_;rintro v h' n' ⟨rfl,rfl,rfl⟩;simp[go_sem,w3,-Int.natCast_add];refine⟨w+1,by omega,⟨by omega,by omega⟩,IO,?_⟩;rw[hC,hcu,CF];intro j y;have:=ho j y;simp only[hset];grind;have:w=r.cells.length:=by omega
 subst this;rw[qi];simp[go_sem,w2,-Int.natCast_add];refine⟨q+1,by omega,⟨by omega,by omega⟩,IO,?_⟩;rw[hB,hru,CF,hO5];exact AB;have:q=x.rows.length:=by omega
 subst this;rw[qi];simp[go_sem,w1,-Int.natCast_add];refine⟨i+1,by omega,⟨by omega,by omega⟩,IO,?_⟩;rw[hA,hxu,CF,hO3];exact AB;simp[go_sem,AC,AD,e4.symm,k6,k7,w1,-Int.natCast_add];refine⟨i+1,by omega,⟨by omega,by omega⟩,IO,?_⟩;rw[hA,hxu,if_neg k6,if_neg k7,jq];intro j y;have:=ho j y;simp only[hset];grind;have:i=l.length:=by omega
 subst this;rw[qi];simp[go_sem];exact U8 ho hsn (HY _ _) λ_ _ e=>e
section
variable {P : Program} {E : B6} {evs : Operand → SV} {o : Oper} {h : Hp} {n : Nat} {K : SV → Hp → Nat → Prop}
theorem JT {α:Type} (f:α->Nat):∀(L:List α),(L.map f).Nodup->∀(i:Nat) (hi:i<L.length),L.filter (λx=>f x !=f L[i])=L.eraseIdx i
 | a :: L, hn, 0, hi => by
  rw[qu,jA]at hn;rw[jZ];simp only[List.getElem_cons_zero,bne_self_eq_false,qj,if_false,List.eraseIdx_cons_zero];exact jy.2 λx hx=>by
   simp only[bne_iff_ne,ne_eq];intro e;exact hn.1 (e▸qy.2 ⟨x,hx,rfl⟩)
 | a :: L, hn, i + 1, hi => by
  rw[qu,jA]at hn;rw[jZ];simp only[ju,List.eraseIdx_cons_succ];have ha:(f a !=f (L[i]'(by simpa using hi)))=true:=by
   simp only[bne_iff_ne,ne_eq];intro e;exact hn.1 (e▸qy.2 ⟨_,ql _,rfl⟩)
  rw[if_pos ha,JT f L hn.2 i (by simpa using hi)]
theorem NQ {t:TypeId} {x:Operand} {m:Nat} {es:List (SV×SV)} (ho:o.op=.range t x) (ht:(Ko P t).isSome=true) (hx:evs x=.map m) (hm:h m=some (.map es))
 (hk:K (.ptr n 0) (hset (hset h m none) n (some (.iter es none))) (n+1)):EI E P evs o h n K:=by
 refine⟨by rw[ho];simp,λc ev _ _ R F hv=>?_⟩;have hvx:=hv x;rw[hx,V]at hvx;obtain⟨bm,hρ,hev⟩:=hvx;obtain⟨b',ents,clock,g1,g2,g3,g4⟩:=R.obj _ _ hm;rw[hρ]at g1;cases g1;obtain⟨⟨kt,e⟩,ht⟩:=jn.1 ht;have hu:=EE ht;have hgo:(getObj bm).run P c.w=.ok (.map ents clock) c.w:=by simp[getObj,Sem.run,g2]
 have hrun:(execOp ev o).run P c.w=.ok (.value (.pointer (some ⟨c.w.heap.size,0,none⟩))) (c.w.alloc (.mapIter (some bm) clock #[] clock)):=by
  simp[execOp,ho,Instr.range,AO hu,hev,hgo]
 have R1:=R.kill m hm;have hn1:(c.kill m).ρ n=none:=F n (qa _);have X1:=c.kill_ext m;have hlt:bm<c.w.heap.size:=(qp.1 g2).1;have X2:=(c.kill m).alloc_ext n (.mapIter (some bm) clock #[] clock) hn1;have R2:=R1.alloc hn1 (x:=.iter es none) (b:=.mapIter (some bm) clock #[] clock) ⟨c.w.heap.size,bm,ents,clock,#[],by simp[Cx.alloc,Cx.kill],by simp[Cx.alloc,Cx.kill,Bk],
  by simp[Cx.alloc,Cx.kill,Bk,jz,kv hlt,g2],by
   simp only[Cx.alloc,Cx.kill];rintro(h1|h1);exact h1.2 0 hρ;omega,g4,by
   have:(ents.toList.filter λe=>!(#[]:Array Nat).contains e.born)=ents.toList:=jy.2 λ_ _=>by simp
   rw[this];exact vc (λ_ _ g=>⟨kR (X1.trans X2) g.1,kR (X1.trans X2) g.2⟩) g3,by simp⟩
 refine⟨_,.ptr n 0,_,n+1,(c.kill m).alloc n (.mapIter (some bm) clock #[] clock),by rw[hrun];rfl,?_,R2,λj hj=>?_,⟨X1.trans X2,je n,λj hj=>?_⟩,hk⟩;rw[V];exact⟨c.w.heap.size,0,by simp[Cx.alloc,Cx.kill],rfl⟩;simp only[Cx.alloc,Cx.kill];rw[if_neg (by omega)];exact F j (by omega);simp only[Cx.alloc,Cx.kill];rw[if_neg (by omega)]
theorem SG {x:Operand} {q:Nat} {left:List (SV×SV)} {p:SV×SV} (ho:o.op=.entry x) (hx:evs x=.ptr q 0) (hq:h q=some (.iter left (some p)))
 (hk:K (.tup [p.1,p.2]) h n):EI E P evs o h n K:=by
 refine⟨by rw[ho];simp,λc ev _ _ R F hv=>?_⟩;have hvx:=hv x;rw[hx,V]at hvx;obtain⟨b,st,hρ,hev⟩:=hvx;obtain⟨b',bm,ents,clock,seen,g1,g2,g3,g4,g5,g6,g7⟩:=R.obj _ _ hq;rw[hρ]at g1;cases g1;obtain⟨e,k1,k2,k3,k4⟩:=g7 p rfl;have hgo:(getObj b).run P c.w=.ok (.mapIter (some bm) clock seen clock) c.w:=by simp[getObj,Sem.run,g2]
 have hgm:(getObj bm).run P c.w=.ok (.map ents clock) c.w:=by simp[getObj,Sem.run,g3]
 have hfind:ents.find? (λy=>y.born==e.born)=some e:=by
  rw[<-Array.find?_toList];have:∀l:List MapEntry,(l.map (·.born)).Nodup->e∈l->l.find? (λy=>y.born==e.born)=some e:=by
   intro l
   induction l with
   | nil=>intro _ h;cases h
   | cons a l ih=>
    intro hn he;rw[qu,jA]at hn;rw[List.find?_cons];rcases qk.1 he with rfl|he;simp;have:(a.born==e.born)=false:=by
     simp only[beq_eq_false_iff_ne,ne_eq];intro h2;exact hn.1 (h2▸qy.2 ⟨e,he,rfl⟩)
    rw[this];exact ih hn.2 he
  exact this _ g5.2 k1
 refine⟨.tuple #[e.key,e.val],.tup [p.1,p.2],h,n,c,?_,by simp only[V,VL];exact⟨_,rfl,_,_,rfl,k3,_,_,rfl,k4,rfl⟩,R,F,ke n c,hk⟩;simp[execOp,ho,Instr.entry,hev,hgo,k2,hgm,hfind]
theorem Pg {x:Operand} {q:Nat} {left:List (SV×SV)} {last:Option (SV×SV)} (ho:o.op=.next x false) (hx:evs x=.ptr q 0) (hq:h q=some (.iter left last))
 (hk:∀(i:Nat) (hi:i<left.length),K (.tup [.bool true,left[i].1,left[i].2]) (hset h q (some (.iter (left.eraseIdx i) (some left[i])))) n) (h0:left=[]->K (.tup [.bool false]) h n):EI E P evs o h n K:=by
 refine⟨by rw[ho];simp,λc ev _ _ R F hv=>?_⟩;have hvx:=hv x;rw[hx,V]at hvx;obtain⟨b,st,hρ,hev⟩:=hvx;obtain⟨b',bm,ents,clock,seen,g1,g2,g3,g4,g5,g6,g7⟩:=R.obj _ _ hq;rw[hρ]at g1;cases g1;have hgo:(getObj b).run P c.w=.ok (.mapIter (some bm) clock seen clock) c.w:=by simp[getObj,Sem.run,g2]
 have hgm:(getObj bm).run P c.w=.ok (.map ents clock) c.w:=by simp[getObj,Sem.run,g3]
 have hgone:(!seen.isEmpty && !ents.isEmpty&&ents.all λy=>decide (y.born ≥ clock))=false:=by
  cases he:ents.isEmpty with
  | true=>simp
  | false =>
   have hne:0<ents.size:=by rcases Nat.eq_zero_or_pos ents.size with h|h;simp[Array.isEmpty,h]at he;exact h
   have:(ents.all λy=>decide (y.born ≥ clock))=false:=by
    rw[Array.all_eq_false];refine⟨0,hne,?_⟩;have:=g5.1 ents[0] (by simp);simp;exact this
   simp[this]
 generalize hL:ents.filter (λy=>!seen.contains y.born)=L;have hLl:L.toList=ents.toList.filter λe=>!seen.contains e.born:=by rw[<-hL];simp
 have BE:L.filter (λy=>decide (y.born<clock))=L:=by
  apply Array.ext';rw[Array.toList_filter];exact jy.2 λy hy=>by
   rw[hLl]at hy;simpa using g5.1 y (qW.1 hy).1
 have hnew:L.filter (λy=>decide (y.born ≥ clock)) = #[]:=by
  apply Array.ext';rw[Array.toList_filter];exact List.filter_eq_nil_iff.2 λy hy=>by
   rw[hLl]at hy;simpa using g5.1 y (qW.1 hy).1
 rw[<-hLl]at g6;have hlen:left.length=L.size:=by have:=g6.length;simpa using this
 by_cases hz:L.size=0
 . have hl0:left=[]:=kD (by omega);have hL0:L = #[]:=Array.eq_empty_of_size_eq_zero hz;refine⟨.tuple #[.bool false],.tup [.bool false],h,n,c,?_,by simp[V,VL],R,F,ke n c,h0 hl0⟩;subst hL0;simp only[execOp,ho,Instr.next,hev,jJ,Sem.run_bind,Sem.run_pure,hgo,Result.andThen_ok,hgm,hgone,qj,if_false,hL,BE,hnew];simp[Question.forced]
 . have hch:∃i w1,(choose (.mapNext L.size)).run P c.w=.ok i w1/\i<L.size/\(w1=c.w\/w1=c.w.drew):=by
    rw[run_choose_drew];by_cases hf:(Question.mapNext L.size).forced=true;rw[if_pos hf];exact⟨0,_,rfl,by omega,.inl rfl⟩;rw[if_neg hf];exact⟨_,_,rfl,Nat.mod_lt _ (by omega),.inr rfl⟩
   obtain⟨i,w1,hch,hi,hw1⟩:=hch;obtain⟨c1,hc1,X1,R1,F1,hρ1⟩:∃c1:Cx,c1.w=w1/\DZ c c1/\Bn h c1/\Fr n c1/\c1.ρ=c.ρ:=by
    rcases hw1 with rfl|rfl;exact⟨c,rfl,kZ c,R,F,rfl⟩;exact⟨c.drew,rfl,c.drew_ext,R.drew,λj hj=>F j hj,rfl⟩
   subst hc1;have hh1:c1.w.heap=c.w.heap:=by rcases hw1 with e|e<;>rw[e]<;>rfl
   have hil:i<left.length:=by omega
   obtain⟨e,he,hr1,hr2⟩:=g6.get (i:=i) (a:=left[i]) (by simp[hil]);have heL:L[i]? = some e:=by simpa using he
   have hemem:e∈ents.toList:=by
    have:=jb he;rw[hLl]at this;exact(qW.1 this).1
   have hisE:L.isEmpty=false:=by cases hb:L.isEmpty with|false=>rfl|true=>(simp at hb;subst hb;simp at hz)
   have hblt:b<c.w.heap.size:=(qp.1 g2).1;have hset':∀ob:Obj,(setObj b ob).run P c1.w=.ok () { c1.w with heap:=c1.w.heap.setIfInBounds b ob }:=λob=>by simp[setObj,Sem.run,hh1,g2]
   have hrun:(execOp ev o).run P c.w=.ok (.value (.tuple #[.bool true,e.key,e.val])) { c1.w with heap:=c1.w.heap.setIfInBounds b (.mapIter (some bm) clock (seen.push e.born) clock) }:=by
    have hcand:((if L.isEmpty then #[none]else #[])++(L ++ #[]).map some:Array (Option MapEntry))=L.map some:=by simp[hisE]
    simp only[execOp,ho,Instr.next,hev,jJ,Sem.run_bind,Sem.run_pure,hgo,Result.andThen_ok,hgm,hgone,qj,if_false,hL,BE,hnew,hcand,Array.size_map,hch];simp[heL,hset']
   have hbm:bm≠b:=by rintro rfl;rw[g2]at g3;cases g3
   obtain⟨R2,X2⟩:=R1.write (w':={ c1.w with heap:=c1.w.heap.setIfInBounds b (.mapIter (some bm) clock (seen.push e.born) clock) }) (y:=.iter (left.eraseIdx i) (some left[i])) hq (by rw[hρ1];exact hρ) (by simp)
    (λb' hb'=>by simp[jH (Ne.symm hb')]) (by simp[rm,hh1,g2]) rfl rfl (λX=>by
      have XX:=X1.trans X;refine⟨b,bm,ents,clock,seen.push e.born,by show c1.ρ q=_;rw[hρ1];exact hρ,by simp[hh1,hblt],?_,?_,g5,?_,?_⟩;show(c1.w.heap.setIfInBounds b _)[bm]? = _;rw[jH hbm.symm,hh1];exact g3;exact λhb=>(XX.keep bm (qp.1 g3).1 g4).1 hb;have hnd:(L.toList.map (·.born)).Nodup:=by rw[hLl];exact g5.2.sublist (List.filter_sublist.map _)
      have hee:L.toList[i]'(by simpa using hi)=e:=by
       have:=(qo.1 he).2;exact this
      have h1:=JT (λx:MapEntry=>x.born) L.toList hnd i (by simpa using hi);rw[hee]at h1;have h2:(ents.toList.filter λx=>!(seen.push e.born).contains x.born)=L.toList.filter λx=>x.born !=e.born:=by
       rw[hLl,List.filter_filter];congr 1;funext x;by_cases hx:x.born=e.born<;>simp[hx]
      rw[h2,h1];exact vc (λ_ _ g=>⟨kR XX g.1,kR XX g.2⟩) (AZ.eraseIdx i g6);intro p hp;cases hp;exact⟨e,hemem,by simp,kR XX hr1,kR XX hr2⟩)
   exact⟨_,.tup [.bool true,left[i].1,left[i].2],_,n,_,hrun,by
    have XX:=X1.trans X2;simp only[V,VL];exact⟨_,rfl,_,_,rfl,rfl,_,_,rfl,kR XX hr1,_,_,rfl,kR XX hr2,rfl⟩,R2,λj hj=>F1 j hj,⟨X1.trans X2,qa _,λj _=>by show c1.ρ j=_;rw[hρ1]⟩,hk i hil⟩
end
structure YK (E:B6) (l:Nat) (ks0:List Int) (J:List Int->(Nat->Prop)->Hp->Nat->Prop):Prop where
 step:∀ks x D h m,(∃rest,(ks++[x]++rest).Perm ks0)->J ks D h m->FJ E Tryz.prog l [AA x] h m (He (J (ks++[x])) (λ_ _ _=>False) D h m)
 keep:∀ks D h m h' m',J ks D h m->m<=m'->(∀o,D o->h' o=h o)->J ks D h' m'
 lt:∀ks D h m,J ks D h m->∀o,D o->o<m
theorem HU {α β:Type} (f:α->β):∀(l:List α) (i:Nat),(l.eraseIdx i).map f=(l.map f).eraseIdx i
 | [],_=>by simp
 | a::l,0=>by simp
 | a::l,i+1=>by simp[HU f l i]
theorem KY {α:Type}:∀(l:List α) (i:Nat) (hi:i<l.length),(l[i]::l.eraseIdx i).Perm l
 | a::l,0,_=>by simp
 | a::l,i+1,hi=>by
  have ih:=KY l i (by simpa using hi);simp only[ju,List.eraseIdx_cons_succ];exact(List.Perm.swap _ _ _).trans (ih.cons a)
theorem Lt {ks lk ks0:List Int} (h:(ks++lk).Perm ks0) {i:Nat} (hi:i<lk.length):(ks++[lk[i]]++lk.eraseIdx i).Perm ks0:=by
 refine List.Perm.trans ?_ h;rw[qn];refine List.Perm.append_left ks ?_;exact KY lk i hi
section
variable {E : B6} {yl : Nat} {J : List Int → (Nat → Prop) → Hp → Nat → Prop}
theorem aH {ks0:List Int} (Y:YK E yl ks0 J) (es:List (SV×SV)) (hk:es.map (·.1)=ks0.map AA) {H:Hp} {n q s:Nat} {D:Nat->Prop} (hq:H q=some (.cells [.map s])) (hs:H s=some (.map es)) (hDs:¬D s) (hJ:J [] D H n):
 Ak E Tryz.prog 198 [.fn (.yield yl) [] [],.ptr q 0] H n (λ_ h' m'=>∃ks D',ks.Perm ks0/\n<=m'/\(∀o,D' o->D o\/(n<=o/\o<m'))/\(∀o,¬D o->o<n->o≠s->h' o=H o)/\J ks D' h' m'):=by
 refine gq Tryz.func198 rfl λho=>?_;have hqn:=(ho q _ hq).1;have hsn:=(ho s _ hs).1;have hDn:=Y.lt _ _ _ _ hJ;simp[go_sem,hq];refine NQ (m:=s) (es:=es) rfl (by simp[go_sem]) (by simp[go_sem]) hs ?_;simp[go_sem];refine An 1 (α:=(List Int×List Int)×(List (SV×SV)×Option (SV×SV))×(Nat->Prop)×Hp) (λa=>[(0,.fn (.yield yl) [] []),(5,.ptr n 0)]) (λa=>a.2.2.2)
  (λa m=>n<m/\a.2.2.2 n=some (.iter a.2.1.1 a.2.1.2)/\a.2.1.1.map (·.1)=a.1.2.map AA/\(a.1.1++a.1.2).Perm ks0/\J a.1.1 a.2.2.1 a.2.2.2 m/\(∀o,a.2.2.1 o->D o\/(n<o/\o<m))/\(∀o,¬D o->o<n->o≠s->a.2.2.2 o=H o)) (λa=>a.1.2.length)
  (([],ks0),(es,none),D,hset (hset H s none) n (some (.iter es none))) ?_ ?_ AB ?_
 refine⟨qP n,AC _ _ _,hk,List.Perm.refl _,Y.keep _ _ _ _ _ _ hJ (je n) λo g=>?_,λo g=>.inl g,λo g1 g2 g3=>?_⟩;have:=hDn o g;show hset (hset H s none) n _ o=H o;rw[AD _ _ (by omega),AD _ _ (by rintro rfl;exact hDs g)];show hset (hset H s none) n _ o=H o;rw[AD _ _ (by omega),AD _ _ g3];simp[Ai];rintro⟨⟨ks,lk⟩,⟨left,last⟩,D2,h2⟩ m ⟨hnm,hit,hlk,hperm,hJ2,hD2,BE⟩;dsimp only at hit hlk hperm hJ2 hD2 BE ⊢;have hn2:¬D2 n:=λg=>by rcases hD2 n g with g|g;have:=hDn n g;omega;omega
 have hll:left.length=lk.length:=by have:=congrArg List.length hlk;simpa using this
 simp[go_sem];refine Pg (q:=n) (left:=left) (last:=last) rfl (by simp[go_sem]) hit (λi hi=>?_) λh0=>?_;have hil:i<lk.length:=by omega
 have hx:left[i].1=AA lk[i]:=by
  have:=congrArg (λl=>l[i]?) hlk;simpa[hi,hil]using this
 simp[go_sem];refine SG (q:=n) (left:=left.eraseIdx i) (p:=left[i]) rfl (by simp[go_sem]) (AC _ _ _) ?_;simp[go_sem,hx];refine FJ.mono (Y.step ks lk[i] D2 _ _ ⟨_,Lt hperm hil⟩ (Y.keep _ _ _ _ _ _ hJ2 (qa m) λo g=>AD _ _ (by rintro rfl;exact hn2 g))) ?_;rintro v h3 m3 ⟨hm3,D3,hDD,hh3,⟨rfl,hj⟩|⟨_,hj⟩⟩;simp[go_sem];refine⟨ks++[lk[i]],lk.eraseIdx i,by rw[List.length_eraseIdx];simp[hil];omega,left.eraseIdx i,some left[i],D3,h3,⟨by omega,?_,?_,?_,hj,λo g=>?_,λo g1 g2 g3=>?_⟩,AB⟩;rw[hh3 n hn2 hnm];exact AC _ _ _;rw[HU,HU,hlk];exact Lt hperm hil;rcases hDD o g with g|g;rcases hD2 o g with g|g;exact .inl g;exact .inr (by omega);exact .inr (by omega);have:¬D2 o:=λg=>by rcases hD2 o g with g|g;exact g1 g;omega
 rw[hh3 o this (by omega),AD _ _ (by omega)];exact BE o g1 g2 g3;exact hj.elim;have hlk0:lk=[]:=kD (by rw[<-hll,h0];rfl);subst hlk0;simp[go_sem];refine .inl ⟨ks,by simpa using hperm,by omega,D2,λo g=>?_,BE,hJ2⟩;rcases hD2 o g with g|g;exact .inl g;exact .inr (by omega)
end
theorem bn (es:List (SV×SV)) (ks0:List Int) (hk:es.map (·.1)=ks0.map AA) (hlen:ks0.length<=1048576) {H:Hp} {n q s:Nat} (hq:H q=some (.cells [.map s])) (hs:H s=some (.map es)):
 BA Tryz.prog 260 [.imm 0 [] true,.fn (.func 198) [] [.ptr q 0]] H n (λv h' n'=>∃ks:List Int,ks.Perm ks0/\OP 1 (ks.map AA) (hset H s none) n v h' n'):=by
 refine cA Tryz.func260 rfl (by kernel_rfl) (by kernel_rfl) (by simp[go_sem]) λho B=>?_;have hqn:=(ho q _ hq).1;have hsn:=(ho s _ hs).1;have hqs:q≠s:=by rintro rfl;rw[hq]at hs;cases hs
 simp[go_sem];refine Fa rfl rfl rfl λE1 l R hY=>?_;let J:List Int->(Nat->Prop)->Hp->Nat->Prop:=λks D hh m=>∃o:Option Nat,D=(λj=>j=n\/j=n+1\/o=some j)/\n+1<m/\hh n=some (.cells [AM 1 o (ks.map AA)])/\hh (n+1)=some (.loop (R .ready none))/\Ar (n+2) m 1 o (ks.map AA)/\∀j,o=some j->hh j=some (.cells (ks.map AA));have Y:YK E1 l ks0 J:=by
  refine⟨?_,?_,?_⟩
  . rintro ks x D hh m ⟨rest,hp⟩ ⟨o,hDe,g0,g1,g2,g3,g4⟩;have hkl:ks.length+1<=1048576:=by have:=hp.length_eq;simp at this;omega
    refine hY _ _ _ _ g2 rfl (Ii ?_);have e1:n≠m:=by omega
    have e2:n+1≠m:=by omega
    have e4:n≠m+1:=by omega
    have hon:∀j,o=some j->n+2<=j/\j<m:=λj e=>g3.lt j e;simp[go_sem,Jp,AD,g1,g2];rw[Kx (x:=x) g3 (by omega) (by simp[hset]) (by
     intro j e;have:=hon j e;have:=g4 j e;simp only[hset];grind)]
    have done:∀(H2:Hp) (o2:Nat),o2=m+1->(∀j,¬(j=n\/j=n+1\/o=some j)->j<m->H2 j=hh j)->H2 n=some (.cells [.sl o2 0 1 (ks.length+1) false])->H2 o2=some (.cells (ks.map AA++[AA x]))->H2 (n+1)=some (.loop (R .busy none))->
     ∀sa,ID (n+1) R (He (J (ks++[x])) (λ_ _ _=>False) D hh m) .normal sa H2 (m+1+1):=by
     rintro H2 o2 rfl k0 k1 k2 k3 sa;subst hDe;refine⟨k3,by omega,λj=>j=n\/j=n+1\/some (m+1)=some j,λj g=>?_,λj g1 g2=>?_,.inl ⟨rfl,some (m+1),rfl,by omega,?_,AC _ _ _,?_,λj e=>?_⟩⟩;rcases g with g|g|g;exact .inl (.inl g);exact .inl (.inr (.inl g));cases g;exact .inr (by omega);rw[AD _ _ (λe=>g1 (.inr (.inl e)))];exact k0 j g1 g2;rw[AD _ _ (by omega),k1];simp[AM];rw[qc];exact g3.push rfl rfl (by omega) (by omega);cases e;rw[AD _ _ (by omega),k2,qc];rfl
    cases o with
    | none=>
     simp[go_sem,AD,g1,e1,e4,AM];refine done _ _ rfl (λj h1 h2=>?_) ?_ ?_ ?_ _;simp only[hset];grind;simp only[hset];grind;simp only[hset];grind;simp only[hset];grind
    | some j=>
     have hj:=hon j rfl;have e3:n≠j:=by omega
     simp[go_sem,AD,g1,e1,e3,e4,AM];refine done _ _ rfl (λj h1 h2=>?_) ?_ ?_ ?_ _;simp only[hset];grind;simp only[hset];grind;simp only[hset];grind;simp only[hset];grind
  rintro ks D hh m h' m' ⟨o,rfl,g0,g1,g2,g3,g4⟩ hm hD;exact⟨o,rfl,by omega,by rw[hD _ (.inl rfl)];exact g1,by rw[hD _ (.inr (.inl rfl))];exact g2,g3.mono hm,λj e=>by rw[hD _ (.inr (.inr e))];exact g4 j e⟩;rintro ks D hh m ⟨o,rfl,g0,g1,g2,g3,g4⟩ j (rfl|rfl|e);omega;omega;exact(g3.lt j e).2
 refine kS (aH Y es hk (D:=λj=>j=n\/j=n+1) (s:=s) ?_ ?_ ?_ ?_) ?_;simp[hset];rw[if_neg (by omega),if_neg (by omega)];exact hq;simp[hset];rw[if_neg (by omega),if_neg (by omega)];exact hs;omega;exact⟨none,by simp,by omega,by simp[hset,AM],by simp[hset],jK _ _ _,by simp⟩;rintro _ h' m' ⟨ks,D',hperm,hm,hD,BE,o,rfl,g0,g1,g2,g3,g4⟩;refine⟨_,_,g2,by simp,?_⟩;simp[go_sem,AD,g1];refine .inl ⟨ks,hperm,by omega,λj y e=>?_,?_⟩;have hjs:j≠s:=by rintro rfl;simp[hset]at e
 rw[AD _ _ hjs]at e;have:=(ho j y e).1;rw[AD _ _ (by omega),BE j (by omega) (by omega) hjs,AD _ _ (by omega),AD _ _ (by omega),e];cases o with
 | none=>
  have he:=g3.none rfl;exact .inl ⟨he,0,true,rfl⟩
 | some j=>
  have:=g3.lt j rfl;exact .inr ⟨j,false,by omega,by omega,by simp[AM],by rw[AD _ _ (by omega),Dv];exact g4 j rfl⟩
theorem bc (es:List (SV×SV)) (ks0:List Int) (hk:es.map (·.1)=ks0.map AA) (hlen:ks0.length<=1048576) {H:Hp} {n q s:Nat} (hq:H q=some (.cells [.map s])) (hs:H s=some (.map es)):
 BA Tryz.prog 196 [.fn (.func 198) [] [.ptr q 0]] H n (λv h' n'=>∃ks:List Int,ks.Perm ks0/\OP 1 (ks.map AA) (hset H s none) n v h' n'):=by
 refine gq Tryz.func196 rfl λho=>?_;simp[go_sem];refine qC (bn es ks0 hk hlen hq hs) ?_;rintro v h' n' ⟨ks,hp,hn⟩;simp[go_sem];exact .inl ⟨ks,hp,hn⟩
theorem L4 {a b:List Int} (h:a.Perm b):DI a=DI b:=by
 have tr:∀x y z:Int,decide (x<=y)=true->decide (y<=z)=true->decide (x<=z)=true:=λx y z h1 h2=>by simp only[decide_eq_true_eq]at *;exact Int.le_trans h1 h2
 have to:∀x y:Int,(decide (x<=y)||decide (y<=x))=true:=λx y=>by simp only[kH,decide_eq_true_eq];exact Int.le_total x y
 refine List.Perm.eq_of_pairwise (le:=λx y=>decide (x<=y)=true) (λx y _ _ h1 h2=>?_) (List.pairwise_mergeSort tr to a) (List.pairwise_mergeSort tr to b) (((List.mergeSort_perm a _).trans h).trans (List.mergeSort_perm b _).symm);simp only[decide_eq_true_eq]at h1 h2;exact Int.le_antisymm h1 h2
theorem bU (es:List (SV×SV)) (ks0:List Int) (hk:es.map (·.1)=ks0.map AA) (hlen:ks0.length<=1048576) {H:Hp} {n q s:Nat} (hq:H q=some (.cells [.map s])) (hs:H s=some (.map es)):
 BA Tryz.prog 139 [.fn (.func 198) [] [.ptr q 0]] H n (OP 1 ((DI ks0).map AA) (hset H s none) n):=by
 refine gq Tryz.func139 rfl λho=>?_;simp[go_sem];refine qC (bc es ks0 hk hlen hq hs) ?_;rintro v h' n' ⟨ks,hp,hle,BE,hv⟩;have hkl:=hp.length_eq;rcases hv with⟨he,z',full,rfl⟩|⟨o,full,h1,h2,rfl,h3⟩
 simp[go_sem];refine(VT z' full).use ?_;simp[go_sem];simp only[List.map_eq_nil_iff]at he;subst he;have:ks0=[]:=by simpa using hp.symm
 subst this;exact .inl ⟨hle,BE,.inl ⟨by simp[DI],z',full,rfl⟩⟩;simp[go_sem];rw[Dv]at h3;refine qC (Xu ks (by omega) h3) ?_;rintro v h4 n4 ⟨rfl,rfl,rfl⟩;simp[go_sem];have hos:o≠s:=by have:=(ho s _ hs).1;omega
 refine .inl ⟨hle,λj y e=>?_,.inr ⟨o,full,h1,h2,?_,?_⟩⟩;have hjs:j≠s:=by rintro rfl;simp[hset]at e
 have e2:=e;rw[AD _ _ hjs]at e2;have:=(ho j y e2).1;rw[AD _ _ (by omega)];exact BE j y e;have:(DI ks0).length=ks.length:=by rw[<-L4 hp];exact jW _
 simp[this];rw[AC,L4 hp,Dv]
theorem Xr {H:Hp} {n s:Nat}:BA Tryz.prog 140 [.map s] H n (λv h' n'=>v=.fn (.func 198) [] [.ptr n 0]/\h'=hset H n (some (.cells [.map s]))/\n'=n+1):=by
 refine gq Tryz.func140 rfl λho=>?_;simp[go_sem];exact .inl ⟨rfl,rfl,rfl⟩
def IS (d:AI):List Int:=DI ((Bd [] (AE.usL d.flow++d.«end».all)).filter λx=>decide (x≠0))
theorem Tc:∀{l:List Int} (x:Int),l.Nodup->∀(_i j:Nat),l[j]? = some x->(Ed l).eraseIdx j=Ed (l.filter λy=>decide (y≠x))
 | [],x,_,i,j,h=>by simp at h
 | a :: l, x, hn, i, 0, h => by
  rw[jA]at hn;simp only[jG,qh]at h;subst h;have:(a::l).filter (λy=>decide (y≠a))=l:=by
   rw[jZ];simp only[ne_eq,not_true,decide_false,qj,if_false];exact jy.2 λy hy=>by simp only[decide_eq_true_eq];rintro rfl;exact hn.1 hy
  rw[this];simp[Ed]
 | a::l,x,hn,i,j+1,h=>by
  rw[jA]at hn;have hx:l[j]? = some x:=by simpa using h
  have hax:a≠x:=by rintro rfl;exact hn.1 (jb hx)
  have ih:=Tc x hn.2 i j hx;rw[jZ];simp only[ne_eq,hax,not_false_eq_true,decide_true,if_true];simp only[Ed,qu,List.eraseIdx_cons_succ]at ih ⊢;rw[ih]
theorem Te {l:List Int} {x:Int} (h:x∉l):(l.filter λy=>decide (y≠x))=l:=jy.2 λy hy=>by simp only[decide_eq_true_eq];rintro rfl;exact h hy
theorem c74 (d:AI) (hl:d.flow.length<=1048576) (hs:AE.sizedL d.flow) (he:d.«end».sized) (hu:(Bd [] (AE.usL d.flow++d.«end».all)).length<=1048576):PC 74 [d.enc] (.imm 1 ((IS d).map AA) false):=by
 intro h n;refine gq Tryz.func74 rfl λho=>?_;have e1:n+1+1≠n:=by omega
 have e2:n+1≠n:=by omega
 have e3:n+1+1≠n+1:=by omega
 simp[go_sem,AI.enc,AF.flat,AK.flat,AC,AD,qD];refine qC (bT (SizeOf.sizeOf d.flow+1) d.flow (qP _) hl hs [] _ _ (n+2) (n+1) (by simp[hset]) (by simp[hset,Ed])) ?_;rintro v h' n' ⟨rfl,rfl,rfl⟩;simp[go_sem,AC,AD];refine qC (by simpa[AF.enc,AF.flat]using Uh d.«end» he (Bd [] (AE.usL d.flow)) (p:=n+2) (s:=n+1) (by simp[hset]) (by simp[hset])) ?_;rintro v h' n' ⟨rfl,rfl,rfl⟩;rw[<-CF];have hnd:=Iu (AE.usL d.flow++d.«end».all) [] List.nodup_nil;have hU:IS d=DI ((Bd [] (AE.usL d.flow++d.«end».all)).filter λx=>decide (x≠0)):=rfl;generalize Bd [] (AE.usL d.flow++d.«end».all)=out at hnd hu hU ⊢;have fin:∀(H2:Hp),H2 (n+2)=some (.cells [.map (n+1)])->H2 (n+1)=some (.map (Ed (out.filter λx=>decide (x≠0))))->(∀j,j<n->H2 j=h j)->(∀K:SV->Hp->Nat->Prop,(∀v h' n',B8 n h' n' v (Is (.imm 1 ((IS d).map AA) false) h n)->K v h' n')->
  Ak (B6.plain.call false 0) Tryz.prog 139 [.fn (.func 198) [] [.ptr (n+3) 0]] (hset H2 (n+3) (some (.cells [.map (n+1)]))) (n+4) K):=λH2 a1 a2 a3 K hK=>by
  have hfl:(out.filter λx=>decide (x≠0)).length<=1048576:=by have:=qU (λx=>decide (x≠0)) out;omega
  refine qC (bU (Ed (out.filter λx=>decide (x≠0))) (out.filter λx=>decide (x≠0)) (by simp[Ed]) hfl (s:=n+1) (by simp[hset]) (by rw[AD _ _ (show n+1≠n+3 by omega)];exact a2)) ?_;rintro v h' n' ⟨hle,BE,hv⟩;rw[<-hU]at hv;have hh:∀j y,h j=some y->h' j=some y:=λj y e=>by
   have:=(ho j y e).1;refine BE j y ?_;rw[AD _ _ (by omega),AD _ _ (by omega),a3 j this,e]
  refine hK _ _ _ ?_;rcases hv with⟨h1,z',full,rfl⟩|⟨o,full,h1,h2,rfl,h3⟩
  rw[h1];exact Jj ho hh (by simp) rfl;exact T2 Hz (full:=full) ho hh (show n<=o by omega) (by simp) h3
 by_cases hm:(0:Int)∈out;obtain⟨j,h1,h2⟩:=DS 0 hm;rw[jc]at h1;have hkd:=Tc 0 hnd 0 j h2;simp[go_sem,AC,AD,h1,CK];refine qC Xr ?_;rintro v h' n' ⟨rfl,rfl,rfl⟩;simp[go_sem];refine fin _ ?_ ?_ ?_ _ ?_;simp[hset];rw[<-hkd];simp[hset];intro j hj;simp only[hset];grind;intro v h' n' hr;simp[go_sem];exact hr;have h1:=Du 0 hm;have hkd:=Te hm;simp[go_sem,AC,AD,h1,CK];refine qC Xr ?_;rintro v h' n' ⟨rfl,rfl,rfl⟩;simp[go_sem];refine fin _ ?_ ?_ ?_ _ ?_;simp[hset];rw[hkd];simp[hset];intro j hj;simp only[hset];grind;intro v h' n' hr;simp[go_sem];exact hr
def HL (z:Nat) (es:List SV) (v:SV) (o:Option Nat) (n m:Nat):Prop:=
 (o=none/\es=[]/\∃z' f,v=.imm z' [] f)\/∃j f,o=some j/\n<=j/\j<m/\v=.sl j 0 z es.length f
def D8 (es:List SV) (o:Option Nat) (h:Hp):Hp:=match o with|none=>h|some j=>hset h j (some (.cells (es.flatMap SV.cells)))
theorem HL.st {z:Nat} {es:List SV} {v:SV} {o:Option Nat} {n m:Nat} (H:HL z es v o n m):v.storable=true/\v.cells=[v]:=by
 rcases H with⟨_,_,z',f,rfl⟩|⟨j,f,_,_,_,rfl⟩<;>exact⟨rfl,rfl⟩
theorem OP.own {z:Nat} {es:List SV} {h h':Hp} {n n':Nat} {v:SV} (H:OP z es h n v h' n'):∃o,HL z es v o n n'/\(∀j y,h j=some y->h' j=some y)/\∀j,o=some j->h' j=some (.cells (es.flatMap SV.cells)):=by
 obtain⟨h1,h2,⟨rfl,z',f,rfl⟩|⟨o,f,h3,h4,rfl,h5⟩⟩:=H;exact⟨none,.inl ⟨rfl,rfl,z',f,rfl⟩,h2,by simp⟩;exact⟨some o,.inr ⟨o,f,rfl,h3,h4,rfl⟩,h2,by rintro j e;cases e;exact h5⟩
theorem HL.mono {z:Nat} {es:List SV} {v:SV} {o:Option Nat} {n n' m m':Nat} (H:HL z es v o n m) (hn:n'<=n) (hm:m<=m'):HL z es v o n' m':=by
 rcases H with⟨h1,h2,z',f,h3⟩|⟨j,f,h1,h2,h3,h4⟩
 exact .inl ⟨h1,h2,z',f,h3⟩;exact .inr ⟨j,f,h1,by omega,by omega,h4⟩
theorem HL.lt {z:Nat} {es:List SV} {v:SV} {o:Option Nat} {n m:Nat} (H:HL z es v o n m):∀j,o=some j->n<=j/\j<m:=by
 rcases H with⟨rfl,_⟩|⟨j,f,rfl,h2,h3,_⟩
 simp;rintro i e;cases e;exact⟨h2,h3⟩
theorem K1 {z k i:Nat} {es:List SV} {e c:SV} (hs:∀e∈es,e.storable=true/\e.cells.length=z) (h:es[i]? = some e) (hk:e.cells[k]? = some c):
 i*z+k+1<=(es.flatMap SV.cells).length/\((es.flatMap SV.cells).drop (i*z+k)).take 1=[c]:=by
 obtain⟨g1,g2⟩:=JU hs h;have he:=(hs e (jb h)).2;have hlt:=(qo.1 hk).1;refine⟨by omega,?_⟩;have h1:(((es.flatMap SV.cells).drop (i*z)).take z).drop k=e.cells.drop k:=by rw[g2]
 rw[List.drop_take,kP]at h1;have h2:(((es.flatMap SV.cells).drop (i*z+k)).take (z-k)).take 1=(e.cells.drop k).take 1:=by rw[h1]
 rw[List.take_take,jO (by omega)]at h2;rw[h2,qG hlt];simp only[jl,km];rw[(qo.1 hk).2]
theorem Kd {cs:List SV} {off:Nat} {c:SV} (h1:off+1<=cs.length) (h2:(cs.drop off).take 1=[c]):cs.take off++c::cs.drop (off+1)=cs:=by
 have:cs.drop off=c::cs.drop (off+1):=by
  rw[qG (by omega)]at h2 ⊢;simp only[jl,km,List.cons.injEq,and_true]at h2;rw[h2]
 rw[<-this,ja]
def trC:Tr:=.pure 0<|.pure 1<|.pure 3<|.pure 4<|.pure 6<|.pure 7<|.pure 9<|.pure 10 <|
 .two 2 13
  (.two 5 13 (.two 8 13 (.two 11 13 (.two 12 13 (.one 13 (.one 14 .nil)) (.one 12 (.one 14 .nil))) (.one 11 (.one 12 (.one 14 .nil)))) (.one 8 (.one 11 (.one 12 (.one 14 .nil))))) (.one 5 (.one 8 (.one 11 (.one 12 (.one 14 .nil))))))
  (.one 2 (.one 5 (.one 8 (.one 11 (.one 12 (.one 14 .nil))))))
set_option maxHeartbeats 2000000 in
theorem Z1 (s:AK) (h1:s.styles.length<=1048576) (h2:s.lists.length<=1048576) (h3:s.comments.length<=1048576) (h4:s.vars.length<=1048576) (h5:∀x∈s.styles,x.props.length<=1048576) (h6:∀x∈s.lists,x.levels.length<=1048576):
 PC 144 [s.enc] s.enc:=by
 intro h n;refine Db Tryz.func144 rfl λho=>?_;refine BP 2 [(1,.iptr s.flat),(2,.ptr (n+1) 0)] (hset h (n+1) (some (.cells [.imm 0 [] true,.imm 0 [] true,.imm 0 [] true,.imm 0 [] true]))) (λm=>m=n+2) ?_ (λm hm=>?_);simp[go_sem,AK.enc,qD,IO];refine⟨AV (by rw[AD _ _ (by omega)];exact ho.none (qa n)) (by simp[hset]),λj y=>?_⟩;have:=ho j y;simp only[hset];grind;subst hm;refine AT 1 (α:=SV×Option Nat×SV×Option Nat×Nat) (λa=>[(2,.ptr (n+1) 0),(3,.ptr a.2.2.2.2 0)])
  (λa=>hset (D8 (s.styles.map A6.enc) a.2.1 (D8 (s.lists.map Fb.enc) a.2.2.2.1 (hset h (n+1) (some (.cells [.imm 0 [] true,.imm 0 [] true,.imm 0 [] true,.imm 0 [] true]))))) a.2.2.2.2 (some (.cells [a.1,a.2.2.1,BZ s.comments,FI s.vars])))
  (λa m=>HL 6 (s.styles.map A6.enc) a.1 a.2.1 (n+2) m/\HL 2 (s.lists.map Fb.enc) a.2.2.1 a.2.2.2.1 (n+2) m/\n+2<=a.2.2.2.2/\a.2.2.2.2<m/\a.2.1≠some a.2.2.2.2/\a.2.2.2.1≠some a.2.2.2.2/\(∀j,a.2.1=some j->a.2.2.2.1≠some j)) (BX trC rfl (by kernel_rfl) (by kernel_rfl) ?_) ?_
 . simp[go_sem,trC,AK.flat]
   iterate 14 (all_goals (try first
    | (refine LC.use (cJ _ h1) ?_;intro v1 H1 m1 W1;have lt1:=W1.1;obtain⟨o1,a1,b1,c1⟩:=W1.own;obtain⟨s1,t1⟩:=a1.st;simp only[SV.storable,SV.cells]at s1 t1;simp[go_sem])
    | (refine LC.use (cK _ h2) ?_;intro v2 H2 m2 W2;have ZT:=W2.1;obtain⟨o2,a2,b2,c2⟩:=W2.own;obtain⟨s2,t2⟩:=a2.st;simp only[SV.storable,SV.cells]at s2 t2;simp[go_sem])
    | (refine(aI _ h3).use ?_;simp[go_sem])
    | (refine(aJ _ h4).use ?_;simp[go_sem,s1,t1,s2,t2])
    | refine⟨?_,?_⟩))
   all_goals
    have L1:=a1.lt;have L2:=a2.lt;have ZZ:BT:=.cells [.imm 0 [] true,.imm 0 [] true,.imm 0 [] true,.imm 0 [] true]
    first
     | (have hq:=b2 (n+2) _ (b1 (n+2) _ (AC _ _ _));simp[go_sem,hq])
     | (have hq:=b2 m1 _ (AC _ _ _);simp[go_sem,hq])
     | simp[go_sem,AC]
    refine⟨v1,o1,v2,o2,_,⟨a1.mono (by omega) (by omega),a2.mono (by omega) (by omega),?_,?_,λe=>?_,λe=>?_,λj e e'=>?_⟩,IO,λj y=>?_⟩;omega;omega;have:=L1 _ e;omega;have:=L2 _ e;omega;have:=L1 _ e;have:=L2 _ e';omega;intro hy;have q1:=b1 j y;have q2:=b2 j y;have q3:=c1 j;have q4:=c2 j;have r1:=L1 j;have r2:=L2 j;have q5:=b2 j (.cells ((s.styles.map A6.enc).flatMap SV.cells));have q6:=ho j y;clear b1 b2 c1 c2 L1 L2 W1 W2 a1 a2;simp only[hset]at *;cases o1<;>cases o2<;>simp only[D8,hset]at hy<;>grind
 rintro⟨v1,o1,v2,o2,q⟩ m ⟨a1,a2,hq1,hq2,hn1,hn2,hn12⟩;dsimp only at a1 a2 hq1 hq2 hn1 hn2 hn12 ⊢;have L1:=a1.lt;have L2:=a2.lt;obtain⟨s1,t1⟩:=a1.st;obtain⟨s2,t2⟩:=a2.st;simp only[SV.storable,SV.cells]at s1 t1 s2 t2;generalize hB:D8 (s.styles.map A6.enc) o1 (D8 (s.lists.map Fb.enc) o2 (hset h (n+1) (some (.cells [.imm 0 [] true,.imm 0 [] true,.imm 0 [] true,.imm 0 [] true]))))=B;have B1:∀j,o1=some j->B j=some (.cells ((s.styles.map A6.enc).flatMap SV.cells)):=λj e=>by subst e;rw[<-hB];simp[D8,hset]
 have B2:∀j,o2=some j->B j=some (.cells ((s.lists.map Fb.enc).flatMap SV.cells)):=λj e=>by
  subst e;rw[<-hB];cases o1 with
  | none=>simp[D8,hset]
  | some i=>have:=hn12 i rfl;simp only[D8,hset];grind
 have B3:B (n+1)=some (.cells [.imm 0 [] true,.imm 0 [] true,.imm 0 [] true,.imm 0 [] true]):=by
  rw[<-hB];cases o1<;>cases o2<;>simp only[D8,hset]<;>grind
 have B4:∀j y,h j=some y->B j=some y:=λj y e=>by
  have:=ho j y e;rw[<-hB];cases o1<;>cases o2<;>simp only[D8,hset]<;>grind
 have hqn:∀j,o1=some j->j≠q:=λj e e'=>hn1 (by rw[e,e']);have hqn2:∀j,o2=some j->j≠q:=λj e e'=>hn2 (by rw[e,e']);clear hB;refine Bc 1 [(2,.ptr (n+1) 0),(3,.ptr q 0)] (hset B q (some (.cells [v1,v2,BZ s.comments,FI s.vars]))) m (AH ?_) (λm' hm'=>?_)
 . rcases a1 with⟨_,he,z',f,rfl⟩|⟨j,f,rfl,hj1,hj2,rfl⟩
   simp[go_sem,AC];refine An 1 (α:=Unit) (λ_=>[(2,.ptr (n+1) 0),(3,.ptr q 0),(21,AA 0),(22,AA 0)]) (λ_=>hset B q (some (.cells [.imm z' [] f,v2,BZ s.comments,FI s.vars]))) (λ_ m'=>m<=m') (λ_=>0) () (qa _) (by simp[Ai]) AB ?_;intro _ m' hm';simp[go_sem];exact hm'
   . have hjq:=hqn j rfl;have hBj:=B1 j rfl;simp[go_sem,AC];refine An 1 (α:=Nat) (λi=>[(2,.ptr (n+1) 0),(3,.ptr q 0),(21,AA s.styles.length),(22,AA i)]) (λ_=>hset B q (some (.cells [.sl j 0 6 s.styles.length f,v2,BZ s.comments,FI s.vars]))) (λi m'=>i<=s.styles.length/\m<=m') (λi=>s.styles.length-i) 0 ?_ ?_ ?_ ?_;exact⟨qg _,qa _⟩;simp[Ai];simp;rintro i m' ⟨hi,hm'⟩;by_cases hlt:i<s.styles.length
     . have w1:=wS i (by omega);obtain⟨x,hx⟩:∃x,s.styles[i]=x:=⟨_,rfl⟩
       have hx':(s.styles.map A6.enc)[i]? = some x.enc:=by simp[hlt,hx]
       obtain⟨g1,g2⟩:=K1 (A6.E.size s.styles) hx' (k:=5) (c:=Af x.props) rfl;have g3:=Kd g1 g2;have hxl:=h5 x (by rw[<-hx];exact ql hlt);have hjm:j<m':=by omega
       have hqm:q<m':=by omega
       have hBj':=hBj;generalize(s.styles.map A6.enc).flatMap SV.cells=F at hBj' g1 g2 g3;simp[go_sem,AC,AD,hjq,hBj',hlt,g1,g2,hjm,hqm]
       repeat first|refine nd (by simp[CM,Ex,DG,Aq,Region.binds]<;>omega) ?_|refine sq ?_|refine aq ?_
       refine jw _ _ _ _ _ _ (V3 x.props hxl) ?_;simp[go_sem,AD,hjq,hBj',hlt,g1,g3,hjm,w1,-Int.natCast_add]
       repeat first|refine nd (by simp[CM,Ex,DG,Aq,Region.binds,hjq]<;>omega) ?_|refine sq ?_|refine aq ?_
       refine⟨i+1,by omega,⟨by omega,hm'⟩,IO,λo y=>?_⟩;simp only[hset];grind
     have:i=s.styles.length:=by omega
     subst this;simp[go_sem];exact hm'
 refine Bc 1 [(2,.ptr (n+1) 0),(3,.ptr q 0)] (hset B q (some (.cells [v1,v2,BZ s.comments,FI s.vars]))) m (AH ?_) (λm2 hm2=>?_)
 . rcases a2 with⟨_,he,z',f,rfl⟩|⟨j,f,rfl,hj1,hj2,rfl⟩
   simp[go_sem,AC];refine An 1 (α:=Unit) (λ_=>[(2,.ptr (n+1) 0),(3,.ptr q 0),(40,AA 0),(41,AA 0)]) (λ_=>hset B q (some (.cells [v1,.imm z' [] f,BZ s.comments,FI s.vars]))) (λ_ m'=>m<=m') (λ_=>0) () hm' (by simp[Ai]) AB ?_;intro _ m' hm';simp[go_sem];exact hm'
   . have hjq:=hqn2 j rfl;have hBj:=B2 j rfl;simp[go_sem,AC];refine An 1 (α:=Nat) (λi=>[(2,.ptr (n+1) 0),(3,.ptr q 0),(40,AA s.lists.length),(41,AA i)]) (λ_=>hset B q (some (.cells [v1,.sl j 0 2 s.lists.length f,BZ s.comments,FI s.vars]))) (λi m'=>i<=s.lists.length/\m<=m') (λi=>s.lists.length-i) 0 ?_ ?_ ?_ ?_;exact⟨qg _,hm'⟩;simp[Ai];simp;rintro i m' ⟨hi,hm'⟩;by_cases hlt:i<s.lists.length
     . have w1:=wS i (by omega);obtain⟨x,hx⟩:∃x,s.lists[i]=x:=⟨_,rfl⟩
       have hx':(s.lists.map Fb.enc)[i]? = some x.enc:=by simp[hlt,hx]
       obtain⟨g1,g2⟩:=K1 (Fb.E.size s.lists) hx' (k:=1) (c:=DL x.levels) rfl;have g3:=Kd g1 g2;have hxl:=h6 x (by rw[<-hx];exact ql hlt);have hjm:j<m':=by omega
       have hqm:q<m':=by omega
       have hBj':=hBj;generalize(s.lists.map Fb.enc).flatMap SV.cells=F at hBj' g1 g2 g3;simp[go_sem,AC,AD,hjq,hBj',hlt,g1,g2,hjm,hqm]
       repeat first|refine nd (by simp[CM,Ex,DG,Aq,Region.binds]<;>omega) ?_|refine sq ?_|refine aq ?_
       refine jw _ _ _ _ _ _ (aK x.levels hxl) ?_;simp[go_sem,AD,hjq,hBj',hlt,g1,g3,hjm,w1,-Int.natCast_add]
       repeat first|refine nd (by simp[CM,Ex,DG,Aq,Region.binds,hjq]<;>omega) ?_|refine sq ?_|refine aq ?_
       refine⟨i+1,by omega,⟨by omega,hm'⟩,IO,λo y=>?_⟩;simp only[hset];grind
     have:i=s.lists.length:=by omega
     subst this;simp[go_sem];exact hm'
 have enq:n+1≠q:=by omega
 have fz1:∀(z:Nat) (es:List SV) (v:SV) (o:Option Nat) (H:Hp),(∀e∈es,e.storable=true/\e.cells.length=z)->HL z es v o (n+2) m->(∀j,o=some j->H j=some (.cells (es.flatMap SV.cells)))->Fz H h 1 v (.imm z es false):=λz es v o H hsz ha hH=>by
  rcases ha with⟨_,he,z',f,rfl⟩|⟨j,f,rfl,hj1,hj2,rfl⟩
  rw[he];exact BC (by simp);exact DV (ho.none (by omega)) (by simp) (hH j rfl) hsz
 refine AH ?_;simp[go_sem,AC,AD,enq,B3];refine Dy (v:=s.enc) 2 ho (λj y e=>?_) (.inr ⟨fz1 _ _ _ _ _ (A6.E.size _) a1 λj e=>?_,fz1 _ _ _ _ _ (Fb.E.size _) a2 λj e=>?_,IO,IO,trivial⟩) ?_;have:=ho j y e;have:=B4 j y e;simp only[hset];grind;have:=L1 j e;have:=B1 j e;have:=hqn j e;simp only[hset];grind;have:=L2 j e;have:=B2 j e;have:=hqn2 j e;simp only[hset];grind;simp[AK.enc,AK.flat,closed,closedL,A6.E.closedL,Fb.E.closedL,Au.E.closedL,Ft.E.closedL]
structure AK.sized (s:AK):Prop where
 styles:s.styles.length<=1048576
 lists:s.lists.length<=1048576
 comments:s.comments.length<=1048576
 vars:s.vars.length<=1048576
 props:∀x∈s.styles,x.props.length<=1048576
 levels:∀x∈s.lists,x.levels.length<=1048576
structure AI.sized (d:AI):Prop where
 len:d.flow.length<=1048576
 flow:AE.sizedL d.flow
 «end» : d.«end».sized
 revs:d.revs.length<=1048576
 set:d.settings.sized
theorem c79 (d:AI) (hd:d.sized):PC 79 [d.enc] d.enc:=by
 intro h n;refine gq Tryz.func79 rfl λho=>?_;have hs:=hd.set;simp[go_sem,AI.enc,AF.flat,AK.flat,AC,AD,qD]
 repeat first|refine nd (by simp[CM,Ex,DG,Aq,Region.binds]<;>omega) ?_|refine sq ?_|refine aq ?_
 refine jw _ _ _ _ _ _ (XS d.flow hd.len hd.flow) ?_;simp[go_sem,AC,AD]
 repeat first|refine nd (by simp[CM,Ex,DG,Aq,Region.binds]<;>omega) ?_|refine sq ?_|refine aq ?_
 refine jw _ _ _ _ _ _ (by simpa[AF.enc,AF.flat]using Ob d.«end» hd.end) ?_;simp[go_sem,AC,AD]
 repeat first|refine nd (by simp[CM,Ex,DG,Aq,Region.binds]<;>omega) ?_|refine sq ?_|refine aq ?_
 refine jw _ _ _ _ _ _ (c76 d.revs hd.revs) ?_;simp[go_sem,AC,AD]
 repeat first|refine nd (by simp[CM,Ex,DG,Aq,Region.binds]<;>omega) ?_|refine sq ?_|refine aq ?_
 refine jw _ _ _ _ _ _ (by simpa[AK.enc,AK.flat]using Z1 d.settings hs.styles hs.lists hs.comments hs.vars hs.props hs.levels) ?_;simp[go_sem,AC]
 repeat first|refine nd (by simp[CM,Ex,DG,Aq,Region.binds]<;>omega) ?_|refine sq ?_|refine aq ?_
 exact Ay ho (λj y=>by have:=ho j y;simp only[hset];grind) rfl (by simp[closed,closedL,AE.E.closedL,Er.E.closedL,Az.E.closedL,Am.E.closedL,Ax.E.closedL,A6.E.closedL,Fb.E.closedL,Au.E.closedL,Ft.E.closedL])
theorem Zz (a b:Int):PC 142 [AA a,AA b] (.bool (decide (a<b))):=by
 intro h n;refine gq Tryz.func142 rfl λho=>?_;simp[go_sem];refine(V1 _).use ?_;simp[go_sem];exact As ho rfl rfl
theorem Z0 (a:Int):PC 143 [AA a] (.bool false):=by
 intro h n;refine gq Tryz.func143 rfl λho=>?_;simp[go_sem];exact As ho rfl rfl
def Nw (l:List Int) (x:Int) (i:Nat):Int:=match l[i]? with|some a=>if a<x then -1 else if a=x then 0 else 1|none=>0
theorem c78 (l:List Int) (x:Int) (hl:l.length<=1048576):PC 78 [.imm 1 (l.map AA) false,AA x] (.tup [AA (BI (Nw l x) l.length).1,.bool (BI (Nw l x) l.length).2]):=by
 intro h n;refine gq Tryz.func78 rfl λho=>?_;simp[go_sem];generalize hc:Nw l x=c;refine An 1 (α:=Nat×Nat) (λq=>[(0,.imm 1 (l.map AA) false),(1,AA x),(6,AA l.length),(7,AA q.1),(8,AA q.2)]) (λ_=>h) (λq m=>q.1<=q.2/\q.2<=l.length/\n<=m/\Fd c 0 l.length=Fd c q.1 q.2) (λq=>q.2-q.1) (0,l.length) ?_ ?_ AB ?_;simp;simp[Ai];rintro⟨i,j⟩ m ⟨hij,hj,hnm,hf⟩;dsimp only at hij hj hf;by_cases hlt:i<j;have hm:(i+j) / 2<l.length:=by omega
 have w1:IntKind.i64.wrap ((i:Int)+j)=((i+j:Nat):Int):=by rw[Cl]<;>omega
 have w2:IntKind.u64.wrap ((i+j:Nat):Int)=((i+j:Nat):Int):=by rw[UL]<;>omega
 have w3:(((i+j:Nat):Int)).fdiv 2=(((i+j) / 2:Nat):Int):=by rw[Int.fdiv_eq_ediv_of_nonneg _ (by omega)];omega
 have w4:IntKind.i64.wrap (((i+j) / 2:Nat):Int)=(((i+j) / 2:Nat):Int):=by rw[Cl]<;>omega
 have w5:IntKind.i64.wrap ((((i+j) / 2:Nat):Int)+1)=(((i+j) / 2+1:Nat):Int):=by rw[Cl]<;>omega
 rw[Fd.eq_def c i j]at hf;have hcv:c ((i+j) / 2)=if l[(i+j) / 2]<x then -1 else if l[(i+j) / 2]=x then 0 else 1:=by rw[<-hc];simp[Nw,hm]
 simp[go_sem,hlt,w1,w2,w3,w4,hm,-Int.natCast_add,-Int.natCast_ediv];refine qw (Zz _ _) ?_;by_cases hb:l[(i+j) / 2]<x;have Hn:c ((i+j) / 2)<0:=by rw[hcv,if_pos hb];omega
 simp[hlt,Hn]at hf;simp[go_sem,hb,w5,-Int.natCast_add,-Int.natCast_ediv];exact⟨(i+j) / 2+1,j,by omega,⟨by omega,hj,hnm,hf⟩,IO,IO⟩;have Hn:¬c ((i+j) / 2)<0:=by rw[hcv,if_neg hb];split<;>omega
 simp[hlt,Hn]at hf;simp[go_sem,hb,-Int.natCast_add,-Int.natCast_ediv];exact⟨i,(i+j) / 2,by omega,⟨by omega,by omega,hnm,hf⟩,IO,IO⟩;have e:Fd c 0 l.length=i:=by rw[hf,Fd.eq_def];simp[hlt]
 by_cases hi:i<l.length;have hcv:c i=if l[i]<x then -1 else if l[i]=x then 0 else 1:=by rw[<-hc];simp[Nw,hi]
 by_cases he:l[i]=x;simp[go_sem,hlt,hi,he];exact As ho rfl (by simp[BI,e,hi,hcv,he]);have he':(l[i]==x)=false:=by simpa using he
 simp[go_sem,hlt,hi,he'];refine(Z0 _).use ?_;simp[go_sem];have hne:¬c i=0:=by rw[hcv,if_neg he];split<;>omega
 exact As ho rfl (by simp[BI,e,hi,hne]);simp[go_sem,hlt,hi];exact As ho rfl (by simp[BI,e,hi])
theorem c77 (l:List Int) (hl:l.length<=1048576) (r:Ax):PC 77 [r.enc,.iptr [.imm 1 (l.map AA) false]] (.bool (!(BI (Nw l r.id) l.length).2)):=by
 intro h n;refine gq Tryz.func77 rfl λho=>?_;simp[go_sem,Ax.enc,AC];refine(c78 l r.id hl).use ?_;simp[go_sem];exact Ay ho (AQ ho (qa _) AB) rfl rfl
theorem bK (z:Nat) (full:Bool) (g:FuncId) (a b:List SV):PC 75 [.imm z [] full,.fn (.func g) a b] (.imm 3 [] false):=by
 intro h n;refine gq Tryz.func75 rfl λho=>?_;simp[go_sem];have hI:=(XW [] (by simp) g a b (λ_=>false) (by simp)).wk (us:=[.imm z [] full,.fn (.func g) a b]) 1 ⟨BC (by simp),IO,trivial⟩;refine qw hI ?_;have e:BD (λ_=>false) 0 0 = -1:=by rw[BD];simp
 simp[go_sem,e];exact Jj ho AB (by simp) rfl
def AI.norm1 (d:AI):AI:=⟨Ac d.flow,d.«end»,d.revs,d.settings⟩
def AI.normal (d:AI):AI:=⟨Ac d.flow,d.«end»,d.revs.filter λr=>(BI (Nw (IS d.norm1) r.id) (IS d.norm1).length).2,d.settings⟩
theorem c21 (d:AI) (hd:d.sized) (hn:d.normal.sized) (hu:(Bd [] (AE.usL (Ac d.flow)++d.«end».all)).length<=1048576):PC 21 [d.enc] d.normal.enc:=by
 intro h n;refine gq Tryz.func21 rfl λho=>?_;have hs:=hd.set;simp[go_sem,AI.enc,AF.flat,AK.flat,AC,AD,qD];refine(c73 d.flow hd.len hd.flow).use ?_;simp[go_sem,AC,AD];refine qw (by simpa[AI.enc,AI.norm1,AF.flat,AK.flat]using c74 d.norm1 hn.len hn.flow hd.end hu) ?_;simp[go_sem,AC,AD,AS];have hul:(IS d.norm1).length<=1048576:=by
  have h1:(IS d.norm1).length=((Bd [] (AE.usL d.norm1.flow++d.norm1.«end».all)).filter λx=>decide (x≠0)).length:=jW _;have h2:=qU (λx=>decide (x≠0)) (Bd [] (AE.usL d.norm1.flow++d.norm1.«end».all));have h4:(Bd [] (AE.usL d.norm1.flow++d.norm1.«end».all)).length<=1048576:=hu;omega
 generalize hU:IS d.norm1=us at hul;refine LC.use (YW _ hd.revs) ?_;rintro v1 H1 m1 ⟨hle,BE,hv⟩;have HA:=BE n (.cells ([AG (Ac d.flow)]++d.«end».flat++[Ao d.revs]++d.settings.flat)) (by simp[AC,AD,AF.flat,AK.flat]);obtain⟨cz,hcz,HC⟩:∃cz:List SV,cz.length=11/\H1 (n+1)=some (.cells cz):=⟨_,rfl,BE (n+1) (.cells _) (by simp[AC,AD];rfl)⟩
 have HB:=BE (n+2) (.cells [.imm 1 (us.map AA) false]) (by simp[AC,<-hU,AI.norm1]);have HO:∀j y,h j=some y->H1 j=some y:=λj y e=>BE j y (by have:=ho j y e;simp only[hset];grind);clear BE;have fin2:∀(H2:Hp),(∀j,j=n\/j=n+1\/j<n->H2 j=H1 j)->B8 n (hset (hset H2 n (some (.cells d.normal.enc.cells))) (n+1) (some (.cells d.normal.enc.cells))) m1 d.normal.enc (Is d.normal.enc h n):=λH2 a=>by
  refine Ay ho (λj y e=>?_) rfl ?_;have h1:=(ho j y e).1;have h2:=HO j y e;rw[AD _ _ (by omega),AD _ _ (by omega),a j (by omega),h2];simp[AI.enc,AF.flat,AK.flat,closed,closedL,AE.E.closedL,Er.E.closedL,Az.E.closedL,Am.E.closedL,Ax.E.closedL,A6.E.closedL,Fb.E.closedL,Au.E.closedL,Ft.E.closedL]
 have hrev:d.normal.revs=d.revs.filter λr=>!(!(BI (Nw us r.id) us.length).2):=by simp[AI.normal,hU]
 have rest:∀(K:SV->Hp->Nat->Prop),(∀H2:Hp,(∀j,j=n\/j=n+1\/j<n->H2 j=H1 j)->K (.imm 3 (d.normal.revs.map Ax.enc) false) H2 m1)->Ak (B6.plain.call false 0) Tryz.prog 75 [v1,.fn (.func 77) [] [.ptr (n+2) 0]] H1 m1 K:=λK hK=>by
  rcases hv with⟨he,z',full,rfl⟩|⟨o,full,h1,h2,rfl,h3⟩
  have hr:d.normal.revs=[]:=by rw[hrev];simp only[List.map_eq_nil_iff]at he;rw[he];rfl
  rw[hr]at hK;exact(bK z' full 77 [] [.ptr (n+2) 0]).use (hK H1 λ_ _=>rfl);rw[hrev]at hK;simp only[qd];refine kU (bs:=[.sl o 0 3 d.revs.length full,.fn (.func 77) [] [.iptr [.imm 1 (us.map AA) false]]]) (h2:=hset H1 (n+2) none) 2 (λj y e=>?_) ⟨IO,.inr ⟨rfl,trivial,AV (AC _ _ _) HB,trivial⟩,trivial⟩ ?_;simp only[hset]at e;split at e;cases e;exact e;refine qC (d75 d.revs hd.revs 77 [] [.iptr [.imm 1 (us.map AA) false]] (λr=>!(BI (Nw us r.id) us.length).2) (λx _=>c77 us hul x) (by rw[AD _ _ (by omega)];exact h3)) ?_;rintro v h' n' ⟨rfl,rfl,rfl⟩;refine hK _ λj hj=>?_;rw[AD _ _ (by omega),AD _ _ (by omega)]
 simp[go_sem];refine rest _ λH2 a=>?_;have HA2:H2 n=_:=(a n (.inl rfl)).trans HA;have HC2:H2 (n+1)=_:=(a (n+1) (.inr (.inl rfl))).trans HC;have hn1:n+1≠n:=by omega
 simp only[AF.flat,AK.flat]at HA2;simp[go_sem,HA2,AC];refine qw (by simpa[AI.enc,AI.normal,AF.flat,AK.flat]using c79 d.normal hn) ?_;have hdz:cz.drop 11=[]:=kj (by omega);simp[go_sem,AD,HC2,hcz,AC,hdz];have:=fin2 H2 a;simpa[AI.enc,AI.normal,AF.flat,AK.flat,SV.cells]using this
theorem WT {h:Hp} {n:Nat} (k:Nat) (h0:0<k) (h1:k<=1073741824):AU Tryz.prog h n .append [22,3] [.imm 0 [] true,.int .i64 k]=some { val:=.sl n 0 11 k false,new:=some (.cells (List.replicate k (BH Tryz.prog 70).cells).flatten) }:=by
 have e1:A9 Tryz.prog 22=some 70:=by simp[go_sem]
 have e2:Bh Tryz.prog 70=11:=by simp[go_sem]
 have e3:(BH Tryz.prog 70).storable=true:=by simp[go_sem]
 have e4:(BH Tryz.prog 70).cells.length=11:=by simp[go_sem]
 have e5:BY Tryz.prog 70<=65536:=by simp[go_sem]
 have e6:A9 Tryz.prog 3=none:=by simp[go_sem]
 have e7:Tryz.prog.underlying 3=some (.int .i64):=by kernel_rfl
 simp only[AU,e6,Option.isSome_none,qj,if_false,FO,e1,e7];rw[if_pos ⟨⟨by omega,by omega⟩,by rw[e2];omega,e5,e3,by rw[e4,e2]⟩,e2];simp
theorem bh (k:Nat) (hk:k<=1048576) {h:Hp} {n:Nat}:BA Tryz.prog 256 [.imm 0 [] true,AA k] h n (λv h' n'=>(k=0/\v=.imm 0 [] true/\h'=h/\n'=n)\/(0<k/\∃cs,v=.sl n 0 11 0 false/\h'=hset h n (some (.cells cs))/\n'=n+1)):=by
 refine gq Tryz.func256 rfl λho=>?_;have h0:¬((k:Int)<0):=by omega
 have w0:IntKind.i64.wrap ((k:Int))=k:=by rw[Cl]<;>omega
 have w1:IntKind.i64.wrap 0=0:=by decide
 by_cases hz:k=0;subst hz;simp[go_sem,w1];exact .inl ⟨rfl,rfl,rfl⟩;have hp:0<k:=by omega
 have hb:(k:Int)<=1073741824:=by omega
 have hmk:=λh n=>WT (h:=h) (n:=n) k hp (by omega);simp[go_sem,h0,w0,w1,hp,hmk];exact .inl (.inr ⟨rfl,⟨_,rfl⟩,rfl⟩)
theorem Kw {H:Hp} {p len m:Nat} {s x:SV} {xs ys:List SV} {upd:Option (Nat×Option BT)} (hs:(s=.imm 0 [] true/\xs=[]/\len=0/\upd=none)\/∃j cs,s=.sl j 0 11 len false/\H j=some (.cells cs)/\Bg cs 0 (len*11)=some xs/\upd=some (j,none))
 (hx:Hd 11 x=true) (hm:Dw x=some m) (hy:flat H x=some ys) (hm0:m≠0) (hroom:len+m<=1073741824):
 AU Tryz.prog H p .append [22,22] [s,x]=some { val:=.sl p 0 11 (len+m) false,upd:=upd,new:=some (.cells (xs++ys)) }:=by
 have e1:A9 Tryz.prog 22=some 70:=by simp[go_sem]
 have e2:Bh Tryz.prog 70=11:=by simp[go_sem]
 have e3:(BH Tryz.prog 70).storable=true:=by simp[go_sem]
 have e4:(BH Tryz.prog 70).cells.length=11:=by simp[go_sem]
 have e5:BY Tryz.prog 70<=65536:=by simp[go_sem]
 have hr:C4 (len+m) (BY Tryz.prog 70)=true:=by simp only[C4,qq,decide_eq_true_eq];exact⟨by omega,e5⟩
 simp only[AU,e1,jE,if_true,Cm,hm,hy,e2,hx,e3,e4];have e6:Gq 70=none:=by rfl
 rcases hs with⟨rfl,rfl,rfl,rfl⟩|⟨j,cs,rfl,hj,ht,rfl⟩
 simp[Hd,hm0,e6];simpa using hr;simp[Hd,hm0,flat,hj,ht,hr,GX e6]
theorem OW {H:Hp} {p len:Nat} {s:SV} (hs:s=.imm 0 [] true\/∃j,s=.sl j 0 11 len false):
 AU Tryz.prog H p .append [22,22] [s,AG []]=some { val:=s }:=by
 have e1:A9 Tryz.prog 22=some 70:=by simp[go_sem]
 have e2:Bh Tryz.prog 70=11:=by simp[go_sem]
 have e3:(BH Tryz.prog 70).storable=true:=by simp[go_sem]
 have e4:(BH Tryz.prog 70).cells.length=11:=by simp[go_sem]
 simp only[AU,e1,jE,if_true,Cm,e2,e3,e4];rcases hs with rfl|⟨j,rfl⟩<;>simp[Hd,Dw,flat,EH]
def DT (Ls:List (List AE)) (i:Nat):List AE:=(Ls.take i).flatten
theorem LS {Ls:List (List AE)} {i:Nat} {x:List AE} (h:i<Ls.length) (hx:Ls[i]=x):DT Ls (i+1)=DT Ls i++x:=by
 unfold DT;rw[qb h,hx];simp
theorem TM (Ls:List (List AE)) (i:Nat):(DT Ls i).length<=Ls.flatten.length:=by
 have:Ls.flatten=(Ls.take i).flatten++(Ls.drop i).flatten:=by rw[<-List.flatten_append,ja]
 rw[this,DT];simp
theorem Mm (Ls:List (List AE)):DT Ls Ls.length=Ls.flatten:=by unfold DT;rw[qi]
theorem aF (Ls:List (List AE)) (hL:Ls.length<=1048576) (hT:Ls.flatten.length<=1048576):PC 189 [.imm 1 (Ls.map AG) false] (AG Ls.flatten):=by
 intro h n;refine gq Tryz.func189 rfl λho=>?_;simp[go_sem];have hle:=TM Ls;refine An 1 (α:=Nat) (λi=>[(0,.imm 1 (Ls.map AG) false),(3,AA (DT Ls i).length),(9,.imm 1 (Ls.map AG) false),(10,AA Ls.length),(11,AA i)]) (λ_=>h) (λi m=>i<=Ls.length/\n<=m) (λi=>Ls.length-i) 0 ?_ ?_ AB ?_;exact⟨qg _,qa n⟩;simp[Ai,DT];rintro i m ⟨hi,hnm⟩;by_cases hlt:i<Ls.length;have w1:=wS i (by omega);obtain⟨x,hx⟩:∃x,Ls[i]=x:=⟨_,rfl⟩
 have hsn:=LS hlt hx;have h1:=hle i;have h2:=hle (i+1);have h3:¬((((DT Ls (i+1)).length:Nat):Int)<0):=by omega
 have w2:IntKind.i64.wrap (((DT Ls i).length:Int)+(x.length:Int))=(((DT Ls (i+1)).length:Nat):Int):=by
  have:(DT Ls (i+1)).length=(DT Ls i).length+x.length:=by rw[hsn,qt]
  rw[Cl]<;>omega
 simp[go_sem,hlt,hx,w2,h3,w1,-Int.natCast_add];exact⟨i+1,by omega,⟨by omega,hnm⟩,IO,IO⟩;have:i=Ls.length:=by omega
 subst this;rw[Mm];generalize hF:Ls.flatten=F at hT;simp[go_sem];refine qC (bh F.length hT) ?_;intro v h' n' hv;have hst:∃o:Option Nat,(∀j,o=some j->n<=j/\j<n')/\n<=n'/\(∀j y,h j=some y->h' j=some y)/\((o=none/\v=.imm 0 [] true)\/∃j cs,o=some j/\v=.sl j 0 11 0 false/\h' j=some (.cells cs)):=by
  rcases hv with⟨_,rfl,rfl,rfl⟩|⟨_,cs,rfl,rfl,rfl⟩
  exact⟨none,by simp,hnm,λ_ _ e=>e,.inl ⟨rfl,rfl⟩⟩;exact⟨some m,by rintro j e;cases e;omega,by omega,AQ ho hnm AB,.inr ⟨m,cs,rfl,rfl,AC _ _ _⟩⟩
 clear hv;obtain⟨o0,hlt0,hnn,hh0,hv0⟩:=hst;simp[go_sem];refine An 1 (α:=Nat×Option Nat×SV×Hp) (λa=>[(6,a.2.2.1),(25,.imm 1 (Ls.map AG) false),(26,AA Ls.length),(27,AA a.1)]) (λa=>a.2.2.2)
  (λa m=>a.1<=Ls.length/\n<=m/\(∀j,a.2.1=some j->n<=j/\j<m)/\(∀j y,h j=some y->a.2.2.2 j=some y)/\((a.2.1=none/\a.2.2.1=.imm 0 [] true/\DT Ls a.1=[])\/∃j cs,a.2.1=some j/\a.2.2.1=.sl j 0 11 (DT Ls a.1).length false/\a.2.2.2 j=some (.cells cs)/\Bg cs 0 ((DT Ls a.1).length*11)=some (((DT Ls a.1).map AE.enc).flatMap SV.cells)))
  (λa=>Ls.length-a.1) (0,o0,v,h') ?_ ?_ AB ?_
 refine⟨qg _,hnn,hlt0,hh0,?_⟩;rcases hv0 with⟨h1,h2⟩|⟨j,cs,h1,h2,h3⟩
 exact .inl ⟨h1,h2,rfl⟩;exact .inr ⟨j,cs,h1,h2,h3,by simp[Bg,DT]⟩;simp[Ai];clear hv0 hh0 hlt0 hnn h' v hnm m hi hlt n' o0;rintro⟨i,o,v,h'⟩ m ⟨hi,hnm,hon,BE,hv⟩;dsimp only at hi hon BE hv ⊢;by_cases hlt:i<Ls.length;have w1:=wS i (by omega);obtain⟨x,hx⟩:∃x,Ls[i]=x:=⟨_,rfl⟩
 have hsn:=LS hlt hx;have h2:=hle (i+1);rw[hF,hsn,qt]at h2;have hbt:A9 Tryz.prog 22=some 70:=by simp[go_sem]
 by_cases hx0:x=[];subst hx0;have hap:=λ(H:Hp) (p:Nat)=>OW (H:=H) (p:=p) (len:=(DT Ls i).length) (s:=v) (by
  rcases hv with⟨_,h1,_⟩|⟨j,cs,_,h1,_⟩
  exact .inl h1;exact .inr ⟨j,h1⟩)
 simp[go_sem,hlt,hx,hap,w1,-Int.natCast_add];exact⟨i+1,by omega,o,v,h',⟨by omega,hnm,hon,BE,by simpa[Bg,hsn]using hv⟩,⟨IO,IO⟩,AB⟩;have hxl:x.length≠0:=by cases x<;>simp at hx0 ⊢
 have hxn:∀z:List SV,z=x.map AE.enc->Dw (.imm 11 z false)=some x.length:=by rintro z rfl;simp[Dw]
 rcases hv with⟨rfl,rfl,h0⟩|⟨j,cs,rfl,rfl,hj,ht⟩
 rw[h0,qE]at hsn;have hap:=λ(p:Nat)=>Kw (H:=h') (p:=p) (len:=0) (m:=x.length) (s:=.imm 0 [] true) (x:=AG x) (xs:=[]) (ys:=(x.map AE.enc).flatMap SV.cells) (upd:=none) (.inl ⟨rfl,rfl,rfl,rfl⟩) (by simp[Hd]) (by simp[Dw]) rfl hxl (by omega);simp[go_sem,hlt,hx,hap,w1,-Int.natCast_add];refine⟨i+1,by omega,some m,.sl m 0 11 x.length false,hset h' m (some (.cells ((x.map AE.enc).flatMap SV.cells))),⟨by omega,by omega,by rintro j e;cases e;omega,?_,.inr ⟨m,rfl,by rw[hsn],_,AC _ _ _,?_⟩⟩,⟨IO,IO⟩,AB⟩;exact λj y e=>by rw[AD _ _ (by have:=(ho j y e).1;omega)];exact BE j y e
 rw[hsn];have:=A7 (AE.E.size x);rw[qd]at this;exact⟨by omega,by rw[<-this,qi]⟩;have hjm:=hon j rfl;have hap:=λ(p:Nat)=>Kw (H:=h') (p:=p) (len:=(DT Ls i).length) (m:=x.length) (s:=.sl j 0 11 (DT Ls i).length false) (x:=AG x) (ys:=(x.map AE.enc).flatMap SV.cells) (upd:=some (j,none)) (.inr ⟨j,cs,rfl,hj,ht,rfl⟩) (by simp[Hd]) (by simp[Dw]) rfl hxl (by omega);simp[go_sem,hlt,hx,hap,w1,-Int.natCast_add];refine⟨i+1,by omega,some m,.sl m 0 11 ((DT Ls i).length+x.length) false,hset (hset h' j none) m (some (.cells (((DT Ls i).map AE.enc).flatMap SV.cells++(x.map AE.enc).flatMap SV.cells))),⟨by omega,by omega,by rintro j e;cases e;omega,?_,.inr ⟨m,rfl,by rw[hsn,qt],_,AC _ _ _,?_⟩⟩,⟨IO,IO⟩,AB⟩;exact λq y e=>by have:=(ho q y e).1;rw[AD _ _ (by omega),AD _ _ (by omega)];exact BE q y e
 rw[hsn,qc,jm];have a1:=A7 (AE.E.size (DT Ls i));have a2:=A7 (AE.E.size x);rw[qd]at a1 a2;have a3:(((DT Ls i).map AE.enc).flatMap SV.cells++(x.map AE.enc).flatMap SV.cells).length=(DT Ls i++x).length*11:=by rw[qt,a1,a2,qt,jB]
 exact⟨by omega,by rw[<-a3,qi]⟩;have:i=Ls.length:=by omega
 subst this;rw[Mm,hF]at hv;simp[go_sem];rcases hv with⟨rfl,rfl,rfl⟩|⟨j,cs,rfl,rfl,h1,h2⟩
 exact Jj ho BE (by simp) rfl;have hj:=hon j rfl;have hn:=ho.none hj.1;have hE:=AE.E.size F;have hA:∀l:List SV,AZ (Fz h' h 0) l l:=by
  intro l;induction l with
  | nil=>trivial
  | cons a l ih=>exact⟨IO,ih⟩
 refine Dy (v:=AG F) 1 ho BE ?_ (AE.E.imm _ _ _ _);exact .inr ⟨hn,by simp,by simp,rfl,cs,_,h1,h2,hE,hA _⟩
def Ap (l:List AE):Nat:=(l.map λx=>x.text.size).sum
def Da (hp:AF->Prop) (K:Nat):Nat->List AE->Prop
 | 0,_=>False
 | N+1,l=>l.length<=K/\Ap l<=K/\∀x∈l,hp x.head/\Da hp K N x.flow/\x.rows.length<=K/\∀r∈x.rows,hp r.head/\r.cells.length<=K/\∀c∈r.cells,hp c.head/\Da hp K N c.flow
theorem Da.mono {hp hp':AF->Prop} (hh:∀x,hp x->hp' x) {K K':Nat} (h:K<=K'):∀{N:Nat} {l:List AE},Da hp K N l->Da hp' K' N l
 | N+1,l,H=>⟨by have:=H.1;omega,by have:=H.2.1;omega,λx hx=>by
  obtain⟨a,b,c,d⟩:=H.2.2 x hx;exact⟨hh _ a,b.mono hh h,by omega,λr hr=>⟨hh _ (d r hr).1,by have:=(d r hr).2.1;omega,λe he=>⟨hh _ ((d r hr).2.2 e he).1,((d r hr).2.2 e he).2.mono hh h⟩⟩⟩⟩
theorem Cq (a b:List AE):Ap (a++b)=Ap a+Ap b:=by simp[Ap]
theorem JG {l:List AE} {x:AE} (h:x∈l):x.text.size<=Ap l:=by
 induction l with
 | nil=>cases h
 | cons a l ih=>
  have e:Ap (a::l)=a.text.size+Ap l:=by simp[Ap]
  rcases qk.1 h with rfl|h;omega;have:=ih h;omega
theorem Da.sized {hp:AF->Prop} (hh:∀x,hp x->x.sized) {K:Nat} (h:K<=1048576):∀{N:Nat} {l:List AE},Da hp K N l->l.length<=1048576/\AE.sizedL l
 | N + 1, l, H => ⟨by have := H.1; omega, vd fun x hx => by
  obtain⟨a,b,c,d⟩:=H.2.2 x hx;have ht:=JG hx;have ht2:=H.2.1;have hf:=Da.sized hh h b;have hr:Aa.sizedL x.rows:=Aa.sizedL_of λr hr=>by
   obtain⟨e,f,g⟩:=d r hr;have hc:Cell.sizedL r.cells:=Cell.sizedL_of λq hq=>by
    obtain⟨u,v⟩:=g q hq;have hv:=Da.sized hh h v;cases q;rw[Cell.sized];exact⟨hh _ u,hv.1,hv.2⟩
   cases r;rw[Aa.sized];exact⟨hh _ e,by simp only[Aa.cells]at f;omega,hc⟩
  cases x;rw[AE.sized];exact⟨by simp only[AE.text]at ht;omega,hh _ a,hf.1,by simp only[AE.rows]at c;omega,hf.2,hr⟩⟩
def Lh (hp:AF->Prop) (K N:Nat) (x:AE):Prop:=hp x.head/\Da hp K N x.flow/\x.rows.length<=K/\∀r∈x.rows,hp r.head/\r.cells.length<=K/\∀c∈r.cells,hp c.head/\Da hp K N c.flow
theorem C1 {hp:AF->Prop} {K N:Nat} {l:List AE}:Da hp K (N+1) l↔l.length<=K/\Ap l<=K/\∀x∈l,Lh hp K N x:=Iff.rfl
theorem M8 {hp:AF->Prop} {K N:Nat} {x:AE} (H:Lh hp K N x) (t:ByteArray):Lh hp K N (.mk x.kind x.code x.id t x.head x.flow x.rows):=by cases x;exact H
theorem MR (out:List AE) (x:AE):Ap (BK out x)<=Ap out+x.text.size:=by
 unfold BK;split;omega;split;rename_i y hy;obtain⟨ys,rfl⟩:∃ys,out=ys++[y]:=by
  rcases List.eq_nil_or_concat out with rfl|⟨ys,z,rfl⟩
  simp at hy;simp only[List.concat_eq_append]at hy ⊢;rw[List.getLast?_concat]at hy;cases hy;exact⟨ys,rfl⟩
 split;simp[Ap,AE.addText,AE.text];omega;simp[Ap];omega;simp[Ap]
theorem Nz {p:AE->Prop} (hp:∀x t,p x->p (.mk x.kind x.code x.id t x.head x.flow x.rows)) {out:List AE} {x:AE} (h1:∀y∈out,p y) (h2:p x):∀y∈BK out x,p y:=λy hy=>by
 rcases Jg hy with h|h|⟨z,hz,h⟩
 exact h1 y h;rw[h];exact h2;rw[h];exact hp z _ (h1 z hz)
theorem QL (l:List AE) (out:List AE):Ap (l.foldl BK out)<=Ap out+Ap l:=by
 induction l generalizing out with
 | nil=>simp[Ap]
 | cons a l ih=>
  have h1:=ih (BK out a);have h2:=MR out a;have e:Ap (a::l)=a.text.size+Ap l:=by simp[Ap]
  simp only[qM];omega
theorem LV (l:List AE) (out:List AE):(l.foldl BK out).length<=out.length+l.length:=by
 induction l generalizing out with
 | nil=>simp
 | cons a l ih=>
  have h1:=ih (BK out a);have h2:=Jf out a;simp only[qM,qF];omega
theorem Mq {p:AE->Prop} (hp:∀x t,p x->p (.mk x.kind x.code x.id t x.head x.flow x.rows)) (l:List AE) (out:List AE) (h1:∀y∈out,p y) (h2:∀y∈l,p y):∀y∈l.foldl BK out,p y:=by
 induction l generalizing out with
 | nil=>exact h1
 | cons a l ih=>exact ih (BK out a) (Nz hp h1 (h2 a (by simp))) λy hy=>h2 y (by simp[hy])
theorem FT {hp:AF->Prop} {K:Nat}:∀{N:Nat} {l:List AE},Da hp K N l->Da hp K N (Ac l)
 | N+1,l,H=>by
  rw[C1]at H ⊢;unfold Ac EM;rw[kM];refine⟨?_,?_,?_⟩;have:=LV (l.map AE.nrm) [];simp at this;omega;have:=QL (l.map AE.nrm) [];have e:Ap (l.map AE.nrm)=Ap l:=by simp only[Ap,List.map_map];congr 1;exact jT λx _=>by simp only[Function.comp_apply,(AE.nrm_fields x).2.2.2.1]
  have e0:Ap []=0:=rfl;rw[e,e0]at this;omega;refine Mq (p:=Lh hp K N) (λx t h=>M8 h t) _ _ (λy hy=>by cases hy) λy hy=>?_;obtain⟨x,hx,rfl⟩:=qy.1 hy;obtain⟨a,b,c,d⟩:=H.2.2 x hx;obtain⟨_,_,_,_,e1,e2,e3⟩:=AE.nrm_fields x;refine⟨by rw[e1];exact a,by rw[e2];exact FT b,?_,?_⟩;rw[e3];have:=qU (λr=>!decide (r.cells.length=0)) (x.rows.map Aa.nrm);simp only[qd]at this;omega;rw[e3];intro r hr;obtain⟨r0,h0,rfl⟩:=qy.1 (qW.1 hr).1;obtain⟨u,v,w⟩:=d r0 h0;have er:(Aa.nrm r0).head=r0.head/\(Aa.nrm r0).cells=r0.cells.map Cell.nrm:=by cases r0;rw[Aa.nrm,kX];exact⟨rfl,rfl⟩
  refine⟨by rw[er.1];exact u,by rw[er.2,qd];exact v,?_⟩;rw[er.2];intro c hc;obtain⟨c0,h1,rfl⟩:=qy.1 hc;obtain⟨u1,u2⟩:=w c0 h1;have ec:(Cell.nrm c0).head=c0.head/\(Cell.nrm c0).flow=Ac c0.flow:=by cases c0;rw[Cell.nrm];exact⟨rfl,rfl⟩
  exact⟨by rw[ec.1];exact u1,by rw[ec.2];exact FT u2⟩
theorem L0 {y:AE} {a b:Nat}:(y.setText (y.text.extract a b)).text.size<=y.text.size:=by
 cases y;simp[AE.setText,AE.text];omega
theorem Nm (cu:Int) (s:List AE×List AE) (p:Int×AE):Ap (Cb cu s p).1<=Ap s.1+p.2.text.size/\Ap (Cb cu s p).2<=Ap s.2+p.2.text.size:=by
 unfold Cb;split;exact⟨by simp[Cq];simp[Ap],by simp⟩;split;exact⟨by simp,by simp[Cq];simp[Ap]⟩;dsimp only;simp only[Cq];constructor;have:∀x:AE,Ap [x]=x.text.size:=by simp[Ap]
 rw[this];have:=@L0 p.2;exact Nat.add_le_add_left (this) _;have:∀x:AE,Ap [x]=x.text.size:=by simp[Ap]
 rw[this];have:=@L0 p.2;exact Nat.add_le_add_left (this) _
theorem Mh (l:List AE) (cu:Int):∀k,k<=l.length->Ap (DJ l cu k).1<=Ap (l.take k)/\Ap (DJ l cu k).2<=Ap (l.take k)
 | 0,_=>by simp[DJ,Ap]
 | k+1,h=>by
  rw[Gw l cu k h,qb h,Cq];have h1:=Mh l cu k (by omega);have h2:=Nm cu (DJ l cu k) (CI (l.take k),l[k]);have h3:Ap [l[k]]=l[k].text.size:=by simp[Ap]
  dsimp only at h2;omega
theorem On {p:AE->Prop} (hp:∀x t,p x->p (.mk x.kind x.code x.id t x.head x.flow x.rows)) (cu:Int) (s:List AE×List AE) (q:Int×AE) (h1:∀y∈s.1,p y) (h2:∀y∈s.2,p y) (h3:p q.2):(∀y∈(Cb cu s q).1,p y)/\∀y∈(Cb cu s q).2,p y:=by
 have ap:∀(a:List AE) (y:AE),(∀z∈a,p z)->p y->∀z∈a++[y],p z:=λa y h h' z hz=>by
  rcases qe.1 hz with hz|hz;exact h z hz;rw[qv.1 hz];exact h'
 unfold Cb;split;exact⟨ap _ _ h1 h3,h2⟩;split;exact⟨h1,ap _ _ h2 h3⟩;exact⟨ap _ _ h1 (hp _ _ h3),ap _ _ h2 (hp _ _ h3)⟩
theorem LN {p:AE->Prop} (hp:∀x t,p x->p (.mk x.kind x.code x.id t x.head x.flow x.rows)) (l:List AE) (cu:Int) (h:∀y∈l,p y):∀k,k<=l.length->(∀y∈(DJ l cu k).1,p y)/\∀y∈(DJ l cu k).2,p y
 | 0,_=>by simp[DJ]
 | k+1,hk=>by
  rw[Gw l cu k hk];have h1:=LN hp l cu h k (by omega);exact On hp _ _ _ h1.1 h1.2 (h _ (ql _))
theorem Li {hp:AF->Prop} {K N:Nat} {l:List AE} (cu:Int) (H:Da hp K (N+1) l):Da hp K (N+1) (Bj l cu).1/\Da hp K (N+1) (Bj l cu).2:=by
 rw[C1]at H;have h1:=EU l cu;have h2:=Mh l cu _ (qa _);have h3:=LN (p:=Lh hp K N) (λx t h=>M8 h t) l cu H.2.2 _ (qa _);rw[qi]at h2;exact⟨⟨by omega,by have:=h2.1;unfold Bj;omega,h3.1⟩,⟨by omega,by have:=h2.2;unfold Bj;omega,h3.2⟩⟩
theorem DB {hp:AF->Prop} {K N:Nat} {l:List AE} (a b:Int) (H:Da hp K (N+1) l):Da hp K (N+1) (Ad l a b).1:=by
 unfold Ad;split;exact FT (Li a (Li b H).1).2;exact⟨by simp,by simp[Ap],by simp⟩
theorem MU (l:List AE):(Ac l).length<=l.length:=by
 have:=LV (AE.nrmL l) [];rw[kM]at this;unfold Ac EM;rw[kM];simpa using this
theorem EC (l:List AE) (a b:Int):(Ad l a b).1.length<=l.length:=by
 unfold Ad;split;have h1:=EU l b;have h2:=EU (Bj l b).1 a;have h3:=MU (Bj (Bj l b).1 a).2;dsimp only;omega;simp
structure BW where
 head:AF
 mid:Bool
 units:Int
def BW.enc (p:BW):SV:=.agg (p.head.flat++[.bool p.mid,AA p.units])
structure Av where
 id:Int
 a:Int
 b:Int
def Av.enc (s:Av):SV:=.agg [AA s.id,AA s.a,AA s.b]
def AE.put (x:AE) (h:AF) (f:List AE) (r:List Aa):AE:=.mk x.kind x.code x.id x.text h f r
section
variable {σ : Type} (f : σ → BW → AF × Bool × σ) (it : Int → List AE → Bool → σ → List AE × σ) (mid : Bool)
def Cg (q:List Cell×σ) (c:Cell):List Cell×σ:=
 if(f q.2 ⟨c.head,mid,1⟩).2.1 then(q.1++[.mk c.id (f q.2 ⟨c.head,mid,1⟩).1 (it c.id c.flow mid (f q.2 ⟨c.head,mid,1⟩).2.2).1],(it c.id c.flow mid (f q.2 ⟨c.head,mid,1⟩).2.2).2)
 else(q.1,(f q.2 ⟨c.head,mid,1⟩).2.2)
def DQ (l:List Cell) (s:σ):List Cell×σ:=l.foldl (Cg f it mid) ([],s)
def DM (q:List Aa×σ) (r:Aa):List Aa×σ:=
 if(f q.2 ⟨r.head,mid,1⟩).2.1 then(q.1++[.mk (f q.2 ⟨r.head,mid,1⟩).1 (DQ f it mid r.cells (f q.2 ⟨r.head,mid,1⟩).2.2).1],(DQ f it mid r.cells (f q.2 ⟨r.head,mid,1⟩).2.2).2)
 else(q.1,(f q.2 ⟨r.head,mid,1⟩).2.2)
def GT (l:List Aa) (s:σ):List Aa×σ:=l.foldl (DM f it mid) ([],s)
def By (x:AE) (s:σ):(List AE×List Aa)×σ:=
 if x.kind=6 then(((it x.id x.flow mid s).1,x.rows),(it x.id x.flow mid s).2)
 else if x.kind=7 then((x.flow,(GT f it mid x.rows s).1),(GT f it mid x.rows s).2)
 else((x.flow,x.rows),s)
def Bt (q:List AE×σ) (x:AE):List AE×σ:=
 let r:=f q.2 ⟨x.head,mid,(A8 [x]).1⟩
 if r.2.1 then(q.1++[x.put r.1 (By f it mid x r.2.2).1.1 (By f it mid x r.2.2).1.2],(By f it mid x r.2.2).2)
 else(q.1,r.2.2)
def BL (l:List AE) (s:σ):List AE×σ:=l.foldl (Bt f it mid) ([],s)
end
section
variable {σ : Type} (f : σ → BW → AF × Bool × σ) (sc : Av)
def EX (id:Int) (l:List AE) (mid:Bool):Bool:=decide (id=sc.id) && !mid&&decide (0<=sc.a)&&decide (sc.a<=sc.b)&&decide (sc.b<=(A8 l).1)
def Al:Nat->Int->List AE->Bool->σ->List AE×σ
 | 0,_,_,_,s=>([],s)
 | N + 1, id, l, mid, s =>
  if EX sc id l mid then
   let p1:=BL f (Al N) false (Ad l 0 sc.a).1 s
   let p2:=BL f (Al N) true (Ad l sc.a sc.b).1 p1.2
   let p3:=BL f (Al N) false (Ad l sc.b (A8 l).1).1 p2.2
   (p1.1++p2.1++p3.1,p3.2)
  else BL f (Al N) mid l s
end
theorem DE {α β:Type} (g:β->α->β) (b:β) (l:List α) (i:Nat) (x:α) (h:i<l.length) (hx:l[i]=x):(l.take (i+1)).foldl g b=g ((l.take i).foldl g b) x:=by
 rw[qb h,kg,hx];rfl
section
variable {σ : Type} {f : σ → BW → AF × Bool × σ} {it : Int → List AE → Bool → σ → List AE × σ} {mid : Bool}
theorem LG (l:List Cell) (z:List Cell×σ):(l.foldl (Cg f it mid) z).1.length<=z.1.length+l.length:=by
 induction l generalizing z with
 | nil=>simp
 | cons a l ih=>
  have:=ih (Cg f it mid z a);have h2:(Cg f it mid z a).1.length<=z.1.length+1:=by unfold Cg;split<;>simp
  simp only[qM,qF];omega
theorem NL (l:List Aa) (z:List Aa×σ):(l.foldl (DM f it mid) z).1.length<=z.1.length+l.length:=by
 induction l generalizing z with
 | nil=>simp
 | cons a l ih=>
  have:=ih (DM f it mid z a);have h2:(DM f it mid z a).1.length<=z.1.length+1:=by unfold DM;split<;>simp
  simp only[qM,qF];omega
theorem GP (l:List AE) (z:List AE×σ):(l.foldl (Bt f it mid) z).1.length<=z.1.length+l.length:=by
 induction l generalizing z with
 | nil=>simp
 | cons a l ih=>
  have:=ih (Bt f it mid z a);have h2:(Bt f it mid z a).1.length<=z.1.length+1:=by unfold Bt;dsimp only;split<;>simp
  simp only[qM,qF];omega
end
section
variable {hp : AF → Prop} {σ : Type} {f : σ → BW → AF × Bool × σ} {it : Int → List AE → Bool → σ → List AE × σ} {mid : Bool} {K N : Nat}
theorem FQ {α β:Type} (g:β->α->β) (I:β->Prop):∀(l:List α) (b:β),I b->(∀b x,x∈l->I b->I (g b x))->I (l.foldl g b)
 | [],_,h,_=>h
 | x::l,b,h,H=>FQ g I l _ (H b x (by simp) h) λb y hy=>H b y (by simp[hy])
theorem Eu {α:Type} {p:α->Prop} {l:List α} {x:α} (h:∀y∈l,p y) (hx:p x):∀y∈l++[x],p y:=λy hy=>by
 rcases qe.1 hy with hy|hy;exact h y hy;rw[qv.1 hy];exact hx
theorem HW {sc:Av} (hf:∀s p,hp p.head->hp (f s p).1):∀(N:Nat) (id:Int) (l:List AE) (mid:Bool) (s:σ),Da hp K N l->Da hp (3*K) N (Al f sc N id l mid s).1/\(Al f sc N id l mid s).1.length<=3*K
 | 0,_,_,_,_,h=>h.elim
 | N + 1, id, l, mid, s, h => by
  have parts:∀mid l s,Da hp K (N+1) l->(BL f (Al f sc N) mid l s).1.length<=K/\Ap (BL f (Al f sc N) mid l s).1<=K/\∀x∈(BL f (Al f sc N) mid l s).1,Lh hp (3*K) N x:=by
   clear h;intro mid l s h;obtain⟨h1,h2,h3⟩:=C1.1 h;have cells:∀(cs:List Cell) s,cs.length<=K->(∀c∈cs,hp c.head/\Da hp K N c.flow)->(DQ f (Al f sc N) mid cs s).1.length<=3*K/\∀c∈(DQ f (Al f sc N) mid cs s).1,hp c.head/\Da hp (3*K) N c.flow:=λcs s hl hc=>by
    refine⟨by have:=LG (f:=f) (it:=Al f sc N) (mid:=mid) cs ([],s);simp at this;unfold DQ;omega,?_⟩;refine FQ _ (λq:List Cell×σ=>∀c∈q.1,hp c.head/\Da hp (3*K) N c.flow) cs _ (by simp) λq c hm hq=>?_;unfold Cg;split;exact Eu hq ⟨hf _ _ (hc c hm).1,(HW hf N _ _ _ _ (hc c hm).2).1⟩;exact hq
   have rows:∀(rs:List Aa) s,rs.length<=K->(∀r∈rs,hp r.head/\r.cells.length<=K/\∀c∈r.cells,hp c.head/\Da hp K N c.flow)->(GT f (Al f sc N) mid rs s).1.length<=3*K/\∀r∈(GT f (Al f sc N) mid rs s).1,hp r.head/\r.cells.length<=3*K/\∀c∈r.cells,hp c.head/\Da hp (3*K) N c.flow:=λrs s hl hc=>by
    refine⟨by have:=NL (f:=f) (it:=Al f sc N) (mid:=mid) rs ([],s);simp at this;unfold GT;omega,?_⟩;refine FQ _ (λq:List Aa×σ=>∀r∈q.1,hp r.head/\r.cells.length<=3*K/\∀c∈r.cells,hp c.head/\Da hp (3*K) N c.flow) rs _ (by simp) λq r hm hq=>?_;unfold DM;split;exact Eu hq ⟨hf _ _ (hc r hm).1,cells _ _ (hc r hm).2.1 (hc r hm).2.2⟩;exact hq
   refine⟨by have:=GP (f:=f) (it:=Al f sc N) (mid:=mid) l ([],s);simp at this;unfold BL;omega,?_,?_⟩;have:∀(l:List AE) (q:List AE×σ),Ap (l.foldl (Bt f (Al f sc N) mid) q).1<=Ap q.1+Ap l:=by
    intro l
    induction l with
    | nil=>intro q;simp
    | cons a l ih =>
     intro q;have e:Ap (a::l)=a.text.size+Ap l:=by simp[Ap]
     have h1:=ih (Bt f (Al f sc N) mid q a);have h2:Ap (Bt f (Al f sc N) mid q a).1<=Ap q.1+a.text.size:=by
      unfold Bt;dsimp only;split;rw[Cq];simp[Ap,AE.put,AE.text];dsimp only;omega
     simp only[qM];omega
   have:=this l ([],s);have e0:Ap []=0:=rfl;unfold BL;simp only[e0]at this;omega;refine FQ _ (λq:List AE×σ=>∀x∈q.1,Lh hp (3*K) N x) l _ (by simp) λq x hm hq=>?_;obtain⟨a1,a2,a3,a4⟩:=h3 x hm;unfold Bt;dsimp only;split;refine Eu hq ?_;have m3:K<=3*K:=by omega
   have up:Da hp (3*K) N x.flow:=a2.mono (λ_ h=>h) m3;have up2:x.rows.length<=3*K/\∀r∈x.rows,hp r.head/\r.cells.length<=3*K/\∀c∈r.cells,hp c.head/\Da hp (3*K) N c.flow:=⟨by omega,λr hr=>⟨(a4 r hr).1,by have:=(a4 r hr).2.1;omega,λc hc=>⟨((a4 r hr).2.2 c hc).1,((a4 r hr).2.2 c hc).2.mono (λ_ h=>h) m3⟩⟩⟩
   unfold By;split;exact⟨hf _ _ a1,(HW hf N _ _ _ _ a2).1,up2⟩;split;exact⟨hf _ _ a1,up,rows _ _ a3 a4⟩;exact⟨hf _ _ a1,up,up2⟩;exact hq
  rw[Al];split;have p1:=parts false _ s (DB 0 sc.a h);generalize BL f (Al f sc N) false (Ad l 0 sc.a).1 s=q1 at p1 ⊢;have p2:=parts true _ q1.2 (DB sc.a sc.b h);dsimp only;generalize BL f (Al f sc N) true (Ad l sc.a sc.b).1 q1.2=q2 at p2 ⊢;have p3:=parts false _ q2.2 (DB sc.b (A8 l).1 h);generalize BL f (Al f sc N) false (Ad l sc.b (A8 l).1).1 q2.2=q3 at p3 ⊢;refine⟨C1.2 ⟨by simp;omega,by simp only[Cq];omega,λx hx=>?_⟩,by simp;omega⟩;simp only[qe]at hx;rcases hx with(hx|hx)|hx;exact p1.2.2 x hx;exact p2.2.2 x hx;exact p3.2.2 x hx;have p1:=parts mid _ s h;exact⟨C1.2 ⟨by omega,by omega,p1.2.2⟩,by omega⟩
end
theorem QR {hp:AF->Prop} {L:List Int} (hh:∀h,hp h->∀u∈h.all,u∈L) {K:Nat}:∀{N:Nat} {l:List AE},Da hp K N l->∀u∈AE.usL l,u∈L
 | N + 1, l, H => by
  obtain⟨g1,g2,h3⟩:=C1.1 H;clear H g1 g2
  induction l with
  | nil=>simp[AE.usL]
  | cons x l ih=>
   intro u hu;rw[AE.usL,qe]at hu;rcases hu with hu|hu;obtain⟨a1,a2,a3,a4⟩:=h3 x (by simp);cases x with
   | mk k c i t h f r=>
    simp only[AE.us,qe,AE.head,AE.flow,AE.rows]at *;rcases hu with hu|hu;exact hh h a1 u hu;split at hu;exact QR hh a2 u hu;split at hu;clear a3 h3
    induction r with
    | nil=>simp[Aa.usL]at hu
    | cons r rs ihr=>
     rw[Aa.usL,qe]at hu;rcases hu with hu|hu;obtain⟨b1,b2,b3⟩:=a4 r (by simp);cases r with
     | mk h2 cs=>
      simp only[Aa.us,qe,Aa.head,Aa.cells]at *;rcases hu with hu|hu;exact hh h2 b1 u hu;clear a4 ihr b2
      induction cs with
      | nil=>simp[Cell.usL]at hu
      | cons q cs ihc=>
       rw[Cell.usL,qe]at hu;rcases hu with hu|hu;obtain⟨e1,e2⟩:=b3 q (by simp);cases q with
       | mk i3 h3 f3=>
        simp only[Cell.us,qe,Cell.head,Cell.flow]at *;rcases hu with hu|hu;exact hh h3 e1 u hu;exact QR hh e2 u hu
       exact ihc (λc hc=>b3 c (by simp[hc])) hu
     exact ihr (λr hr=>a4 r (by simp[hr])) hu
    cases hu
   exact ih (λx hx=>h3 x (by simp[hx])) u hu
theorem PP:∀{l L:List Int},l.Nodup->(∀u∈l,u∈L)->l.length<=L.length
 | [],_,_,_=>by simp
 | a::l,L,h,H=>by
  rw[jA]at h;have ha:=H a (by simp);have:=PP (l:=l) (L:=L.erase a) h.2 λu hu=>(List.mem_erase_of_ne (by rintro rfl;exact h.1 hu)).2 (H u (by simp[hu]));rw[List.length_erase_of_mem ha]at this;have hp:0<L.length:=List.length_pos_of_mem ha;simp only[qF];omega
theorem UW {X L:List Int} (h:∀u∈X,u∈L):(Bd [] X).length<=L.length:=
 PP (Iu X [] List.nodup_nil) λu hu=>h u (by simpa using(LA u X []).1 hu)
end Go.Proofs.YtgakninlhfkkmaaGreat.Sh
