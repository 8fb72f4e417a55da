/- A part of the proof (part 11 of 17). -/
import Derived.Test.YtgakninlhfkkmaaGreatM10
import Derived.Lib.ConvBytes
import Derived.Lib.UnsafeStr
import Derived.Lib.Builder
import Derived.Laws.Externs
import Derived.BigFrame
import Derived.WalkKit
namespace Go.Proofs.YtgakninlhfkkmaaGreat.Sh
abbrev kW:=@TC.use
open Proofs
set_option maxRecDepth 10000
theorem SI (l:List (Int×Int)) (j:Nat) (x v:Int):∃l',HF (GY l) j (AA x) (AA v)=GY l':=by
 unfold HF GY;exact⟨l.modify j λ_=>(x,v),by apply List.ext_getElem?;intro i;simp only[List.getElem?_modify,qO];by_cases e:j=i<;>cases l[i]? <;> simp[e]⟩
def hb (h:Hp) (n:Nat) (a0:List (Int×Int)) (a1 a2:List Int):Hp:=
 hset (hset (hset (hset (hset (hset h (n+1) (some (.map (GY a0)))) (n+2) (some (.map (Ed a1)))) (n+3) (some (.map (Ed a2)))) (n+4) (some (.map []))) (n+5) (some (.map []))) (n+6) (some (.cells [.map (n+1),.map (n+2),.map (n+3),.map (n+4),.map (n+5),AA 0]))
section
variable {h : Hp} {n : Nat} {a0 : List (Int × Int)} {a1 a2 : List Int}
theorem WJ:hb h n a0 a1 a2 (n+6)=some (.cells [.map (n+1),.map (n+2),.map (n+3),.map (n+4),.map (n+5),AA 0]):=by simp[hb,hset]
theorem WI:hb h n a0 a1 a2 (n+1)=some (.map (GY a0)):=by simp[hb,hset]
theorem Hn:hb h n a0 a1 a2 (n+2)=some (.map (Ed a1)):=by simp[hb,hset]
theorem TT:hb h n a0 a1 a2 (n+3)=some (.map (Ed a2)):=by simp[hb,hset]
theorem ZP:hb h n a0 a1 a2 (n+4)=some (.map []):=by simp[hb,hset]
theorem hb5:hb h n a0 a1 a2 (n+5)=some (.map []):=by simp[hb,hset]
theorem cC (b:List (Int×Int)):hset (hb h n a0 a1 a2) (n+1) (some (.map (GY b)))=hb h n b a1 a2:=by funext j;simp only[hb,hset];grind
theorem cD (b:List Int):hset (hb h n a0 a1 a2) (n+2) (some (.map (Ed b)))=hb h n a0 b a2:=by funext j;simp only[hb,hset];grind
theorem cE (b:List Int):hset (hb h n a0 a1 a2) (n+3) (some (.map (Ed b)))=hb h n a0 a1 b:=by funext j;simp only[hb,hset];grind
theorem RA (ho:∀j y,h j=some y->j<n):∀j y,hb h n a0 a1 a2 j=some y->j<n+7:=λj y e=>by
 have:=ho j y;simp only[hb,hset]at e;grind
theorem WK (ho:∀j y,h j=some y->j<n):∀j y,h j=some y->hb h n a0 a1 a2 j=some y:=λj y e=>by
 have:=ho j y;simp only[hb,hset];grind
end
def cP (d:AI) (h:Hp) (n:Nat):SV->Hp->Nat->Prop:=λv h' n'=>∃K:Ck,K.ok n'/\n<=n'/\v=.ptr K.p 0/\(∀o y,K.st ([],0) o=some y->h' o=some y)/\K.m2=Bd [] (d.revs.map (·.id))/\(∀j y,h j=some y->h' j=some y)/\∀o y,K.st ([],0) o=some y->n<=o
set_option maxHeartbeats 2000000 in
theorem d85 (d:AI) (h1:d.settings.styles.length<=1048576) (h2:d.settings.lists.length<=1048576) (h3:d.revs.length<=1048576) {h:Hp} {n:Nat}:BA Tryz.prog 85 [d.enc] h n (cP d h n):=by
 refine Db Tryz.func85 rfl λho=>?_;have hHb:=ho.lt;obtain⟨X,hX⟩:∃X:SV,X=.iptr ([AG d.flow]++d.«end».flat++[Ao d.revs]++d.settings.flat):=⟨_,rfl⟩
 refine BP 1 [(1,X)] h (λm=>n+1=m) ?_ (λm hm=>?_);rw[hX];simp[go_sem,AI.enc,AF.flat,AK.flat];exact⟨AV (AW hHb (qa _)) (AC _ _ _),AJ hHb AB⟩;subst hm;refine BP 0 [(1,X),(3,.ptr (n+6) 0)] (hb h n [] [] []) (λm=>n+7=m) ?_ (λm hm=>?_);simp[go_sem,IO,qD,hb,GY,Ed];subst hm;refine AT 0 (α:=List (Int×Int)) (λ_=>[(1,X),(3,.ptr (n+6) 0)]) (λa=>hb h n a [] []) (λ_ m=>n+7<=m) ?_ (λa0 m hm=>?_)
 . refine BP 0 [(1,X),(3,.ptr (n+6) 0),(19,Ae d.settings.styles),(20,AA d.settings.styles.length),(21,AA 0)] (hb h n [] [] []) (λm=>n+7<=m) ?_ (λm hm=>?_);rw[hX];simp[go_sem,IO,AF.flat,AK.flat];refine AR (BG 0 (α:=Nat×List (Int×Int)) (λq=>[(1,X),(3,.ptr (n+6) 0),(19,Ae d.settings.styles),(20,AA d.settings.styles.length),(21,AA q.1)]) (λq=>hb h n q.2 [] []) (λq m=>q.1<=d.settings.styles.length/\n+7<=m) (λq=>d.settings.styles.length-q.1) (0,[]) ⟨qg _,hm⟩ ?_ AB ?_);simp[go_sem,Ai,IO];rintro⟨i,a⟩ m ⟨hi,hm⟩;dsimp only at hi ⊢;have hlt7:∀j y,hb h n a [] [] j=some y->j<m:=λj y e=>by have:=RA (h:=h) (n:=n) (λj y e=>hHb j y e) j y e;omega
   refine AH ?_;by_cases hlt:i<d.settings.styles.length
   . obtain⟨x,hx⟩:∃x,d.settings.styles[i]=x:=⟨_,rfl⟩
     have w1:=wS i (by omega);have e6:n+6≠m:=by omega
     have e1:n+1≠m:=by omega
     have fin:∀b z y,∃a',∀j w,hb h n a' [] [] j=some w->hset (hset (hset (hb h n a [] []) m y) m z) (n+1) (some (.map (GY b))) j=some w:=λb z y=>⟨b,λj w e=>by
      have:=RA (h:=h) (n:=n) (λj y e=>hHb j y e) j w e;rw[<-cC (a0:=a)]at e;simp only[hset]at e ⊢;split at e;rename_i c;rw[if_pos c];exact e;rename_i c;rw[if_neg c,if_neg (by omega),if_neg (by omega)];exact e⟩
     rcases Ib x.id a 0 with f|⟨j,v,f⟩
     . have hpush:GY a++[(AA x.id,AA x.kind)]=GY (a++[(x.id,x.kind)]):=by simp[GY]
       simp[go_sem,hlt,hx,A6.enc,AC,AD,e6,e1,WJ,WI,f,CK,hpush,w1,-Int.natCast_add]
       repeat first|refine nq ?_|refine sq ?_|refine aq ?_
       obtain⟨a2,ha2⟩:=fin (a++[(x.id,x.kind)]) _ _;exact⟨i+1,by omega,⟨by omega,by omega⟩,a2,rfl,ha2⟩
     . obtain⟨a',ha'⟩:=SI a j x.id x.kind;simp only[HF]at ha';simp[go_sem,hlt,hx,A6.enc,AC,AD,e6,e1,WJ,WI,f,CK,ha',w1,-Int.natCast_add]
       repeat first|refine nq ?_|refine sq ?_|refine aq ?_
       obtain⟨a2,ha2⟩:=fin a' _ _;exact⟨i+1,by omega,⟨by omega,by omega⟩,a2,rfl,ha2⟩
   simp[go_sem,hlt,IO];exact⟨by omega,a,AB⟩
 refine AT 0 (α:=List Int) (λ_=>[(1,X),(3,.ptr (n+6) 0)]) (λa=>hb h n a0 a []) (λa m=>n+7<=m) ?_ (λa1 m hm=>?_)
 . refine BP 0 [(1,X),(3,.ptr (n+6) 0),(36,Di d.settings.lists),(37,AA d.settings.lists.length),(38,AA 0)] (hb h n a0 [] []) (λm=>n+7<=m) ?_ (λm hm=>?_);rw[hX];simp[go_sem,IO,AF.flat,AK.flat,hm];refine AR (BG 0 (α:=Nat×List Int) (λq=>[(1,X),(3,.ptr (n+6) 0),(36,Di d.settings.lists),(37,AA d.settings.lists.length),(38,AA q.1)]) (λq=>hb h n a0 q.2 []) (λq m=>q.1<=d.settings.lists.length/\n+7<=m/\q.2=Bd [] ((d.settings.lists.take q.1).map (·.id))) (λq=>d.settings.lists.length-q.1) (0,[]) ⟨qg _,hm,by simp[Bd]⟩ ?_ AB ?_);simp[go_sem,Ai,IO];rintro⟨i,a⟩ m ⟨hi,hm,ha⟩;dsimp only at hi ha ⊢;refine AH ?_;by_cases hlt:i<d.settings.lists.length
   . obtain⟨x,hx⟩:∃x,d.settings.lists[i]=x:=⟨_,rfl⟩
     have w1:=wS i (by omega);have e6:n+6≠m:=by omega
     have e1:n+2≠m:=by omega
     have hnext:Bd [] ((d.settings.lists.take (i+1)).map (·.id))=Ez a x.id:=by rw[qb hlt,hx,qc,CF,<-ha];rfl
     have fin:∀b z y,∀j w,hb h n a0 b [] j=some w->hset (hset (hset (hb h n a0 a []) m y) m z) (n+2) (some (.map (Ed b))) j=some w:=λb z y j w e=>by
      have:=RA (h:=h) (n:=n) (λj y e=>hHb j y e) j w e;rw[<-cD (a1:=a)]at e;simp only[hset]at e ⊢;split at e;rename_i c;rw[if_pos c];exact e;rename_i c;rw[if_neg c,if_neg (by omega),if_neg (by omega)];exact e
     by_cases hm2:x.id∈a
     . obtain⟨j,f,hj⟩:=DS 0 hm2;have hss:=JD hj;simp only[HF]at hss;rw[jc]at f;simp[go_sem,hlt,hx,Fb.enc,AC,AD,e6,e1,WJ,Hn,f,CK,hss,w1,-Int.natCast_add]
       repeat first|refine nq ?_|refine sq ?_|refine aq ?_
       refine⟨i+1,by omega,a,⟨by omega,by omega,?_⟩,rfl,fin a _ _⟩;rw[kz]at hnext;rw[hnext,Ez,if_pos hm2]
     . have f:=Du 0 hm2;have hpush:=Lf a x.id;simp[go_sem,hlt,hx,Fb.enc,AC,AD,e6,e1,WJ,Hn,f,CK,hpush,w1,-Int.natCast_add]
       repeat first|refine nq ?_|refine sq ?_|refine aq ?_
       refine⟨i+1,by omega,a++[x.id],⟨by omega,by omega,?_⟩,rfl,fin _ _ _⟩;rw[kz]at hnext;rw[hnext,Ez,if_neg hm2]
   have:i=d.settings.lists.length:=by omega
   subst this;rw[qi]at ha;simp[go_sem,IO];exact⟨by omega,a,AB⟩
 refine AT 0 (α:=List Int) (λ_=>[(1,X),(3,.ptr (n+6) 0)]) (λa=>hb h n a0 a1 a) (λa m=>n+7<=m/\a=Bd [] (d.revs.map (·.id))) ?_ (λa2 m hm=>?_)
 . refine BP 0 [(1,X),(3,.ptr (n+6) 0),(50,Ao d.revs),(51,AA d.revs.length),(52,AA 0)] (hb h n a0 a1 []) (λm=>n+7<=m) ?_ (λm hm=>?_);rw[hX];simp[go_sem,IO,AF.flat,AK.flat,hm];refine AR (BG 0 (α:=Nat×List Int) (λq=>[(1,X),(3,.ptr (n+6) 0),(50,Ao d.revs),(51,AA d.revs.length),(52,AA q.1)]) (λq=>hb h n a0 a1 q.2) (λq m=>q.1<=d.revs.length/\n+7<=m/\q.2=Bd [] ((d.revs.take q.1).map (·.id))) (λq=>d.revs.length-q.1) (0,[]) ⟨qg _,hm,by simp[Bd]⟩ ?_ AB ?_);simp[go_sem,Ai,IO];rintro⟨i,a⟩ m ⟨hi,hm,ha⟩;dsimp only at hi ha ⊢;refine AH ?_;by_cases hlt:i<d.revs.length
   . obtain⟨x,hx⟩:∃x,d.revs[i]=x:=⟨_,rfl⟩
     have w1:=wS i (by omega);have e6:n+6≠m:=by omega
     have e1:n+3≠m:=by omega
     have hnext:Bd [] ((d.revs.take (i+1)).map (·.id))=Ez a x.id:=by rw[qb hlt,hx,qc,CF,<-ha];rfl
     have fin:∀b z y,∀j w,hb h n a0 a1 b j=some w->hset (hset (hset (hb h n a0 a1 a) m y) m z) (n+3) (some (.map (Ed b))) j=some w:=λb z y j w e=>by
      have:=RA (h:=h) (n:=n) (λj y e=>hHb j y e) j w e;rw[<-cE (a2:=a)]at e;simp only[hset]at e ⊢;split at e;rename_i c;rw[if_pos c];exact e;rename_i c;rw[if_neg c,if_neg (by omega),if_neg (by omega)];exact e
     by_cases hm2:x.id∈a
     . obtain⟨j,f,hj⟩:=DS 0 hm2;have hss:=JD hj;simp only[HF]at hss;rw[jc]at f;simp[go_sem,hlt,hx,Ax.enc,AC,AD,e6,e1,WJ,TT,f,CK,hss,w1,-Int.natCast_add]
       repeat first|refine nq ?_|refine sq ?_|refine aq ?_
       refine⟨i+1,by omega,a,⟨by omega,by omega,?_⟩,rfl,fin a _ _⟩;rw[kz]at hnext;rw[hnext,Ez,if_pos hm2]
     . have f:=Du 0 hm2;have hpush:=Lf a x.id;simp[go_sem,hlt,hx,Ax.enc,AC,AD,e6,e1,WJ,TT,f,CK,hpush,w1,-Int.natCast_add]
       repeat first|refine nq ?_|refine sq ?_|refine aq ?_
       refine⟨i+1,by omega,a++[x.id],⟨by omega,by omega,?_⟩,rfl,fin _ _ _⟩;rw[kz]at hnext;rw[hnext,Ez,if_neg hm2]
   have:i=d.revs.length:=by omega
   subst this;rw[qi]at ha;simp[go_sem,IO];exact⟨a,⟨by omega,ha⟩,AB⟩
 refine AH ?_;simp[go_sem];refine .inl ⟨⟨n+6,n+1,n+2,n+3,n+4,n+5,a0,a1,a2⟩,⟨by simp,by simp;omega⟩,by omega,rfl,λo y e=>?_,hm.2,WK hHb,λo y e=>?_⟩;simp only[Ck.st,Ck.cells,Ed]at e;by_cases c6:o=n+6;subst c6;simp at e;rw[WJ];exact congrArg some e;by_cases c4:o=n+4;subst c4;simp at e;rw[ZP];exact congrArg some e;by_cases c1:o=n+1;subst c1;simp at e;rw[WI];exact congrArg some e;by_cases c2:o=n+2;subst c2;simp at e;rw[Hn];exact congrArg some e;by_cases c3:o=n+3;subst c3;simp at e;rw[TT];exact congrArg some e;by_cases c5:o=n+5;subst c5;simp at e;rw[hb5];exact congrArg some e;rw[if_neg c6,if_neg c4,if_neg c1,if_neg c2,if_neg c3,if_neg c5]at e;cases e;simp only[Ck.st]at e;by_cases c:n<=o;exact c;rw[if_neg (by omega),if_neg (by omega),if_neg (by omega),if_neg (by omega),if_neg (by omega),if_neg (by omega)]at e;cases e
def Yt:Tr:=.pure 0<|.pure 1<|.pure 3<|.pure 4<|.one 2<|.one 5<|.one 6<|.one 7<|.one 8 .nil
def VF:Tr:=.pure 0<|.pure 1<|.pure 2<|.pure 4<|.pure 5<|.pure 6<|.one 3<|.one 7<|.one 8<|.one 9<|.one 10<|.one 11<|.one 12<|.one 13<|.one 14<|.one 15<|.one 16<|.one 17<|.one 18<|.one 19<|.one 20<|.one 21 .nil
structure Hk (N:Nat) (d:AI):Prop where
 flow:RJ (Bd [] (d.revs.map (·.id))) N d.flow
 ids:∀i∈F6 N d.flow,1<=i/\i<=1073741824
 nodup:(F6 N d.flow).Nodup
 revs:EY d.revs=0
 «end» : C6 (Bd [] (d.revs.map (·.id))) d.«end»
 endI:d.«end».ins=0
set_option maxHeartbeats 2000000 in
theorem t24 (d:AI) {B N:Nat} (hB:B<=1048576) (hl:Da AF.sized B N d.flow) (he:d.«end».sized) (h1:d.settings.styles.length<=1048576) (h2:d.settings.lists.length<=1048576) (h3:d.revs.length<=1048576) (h4:∀r∈d.revs,r.author.size<=1048576)
 (h83:TC 83 [d.settings.enc] λv=>∃e,v=AA e):TC 24 [d.enc] (Py (Hk N d)):=by
 intro h n;refine Db Tryz.func24 rfl λho=>?_;have hHb:=ho.lt;obtain⟨X,hX⟩:∃X:SV,X=.iptr ([AG d.flow]++d.«end».flat++[Ao d.revs]++d.settings.flat):=⟨_,rfl⟩
 obtain⟨T,hT⟩:∃T:Prop,T=Hk N d:=⟨_,rfl⟩
 rw[<-hT];have no:∀(e:Int) (H2:Hp) (m:Nat),e≠0->(∀j y,h j=some y->H2 j=some y)->B8 n H2 m (AA e) (λv h' n'=>Py T v/\h'=h/\n'=n):=λe H2 m he hh=>GQ ho hh (by simp[closed]) (Py.no he);refine AY 1 [(1,X)] h n ?_ (λm hm=>?_);rw[hX];simp[go_sem,AI.enc,AF.flat,AK.flat];exact⟨AV (AW hHb (qa _)) (AC _ _ _),AJ hHb AB⟩;refine Bo 0 [(1,X)] h (λm=>n<=m/\EY d.revs=0) ?_ (λm hm=>?_)
 . refine AT 0 (α:=Int) (λe=>[(1,X),(3,AA e)]) (λ_=>h) (λe m=>n<=m/\(e=0->EY d.revs=0)) (BX Yt rfl (by kernel_rfl) (by kernel_rfl) ?_) (λe m hm=>?_);have hHm:∀j y,h j=some y->j<m:=λj y e=>by have:=hHb j y e;omega
   rw[hX];simp[go_sem,Yt,AF.flat,AK.flat];refine kW (by simpa[AK.enc,AK.flat]using h83) ?_;rintro v ⟨e,rfl⟩;simp[go_sem];refine(c84 d.revs h3 h4).use ?_;simp[go_sem];refine kU (bs:=[.imm 1 ([e,EY d.revs].map AA) false]) (h2:=h) 1 (AJ hHm AB) ⟨?_,trivial⟩ ?_;exact DV (es:=[AA e,AA (EY d.revs)]) (AW hHm (qa _)) (by simp) (by rw[AC];simp[SV.cells]) (by simp[SV.storable,SV.cells]);refine(Pw _ (by simp)).use ?_;generalize hf:CJ [e,EY d.revs]=ef;simp[go_sem,IO];refine⟨ef,⟨by omega,λh0=>?_⟩,IO⟩;rw[h0,CJ]at hf;split at hf;exact Dc hf;rename_i c;exact absurd hf c;by_cases e0:e=0
   case neg=>exact AH (by simp[go_sem,e0];exact no e _ _ e0 AB)
   have hrv:=hm.2 e0;rw[e0];exact AH (by simp[go_sem,IO,hm.1,hrv])
 obtain⟨hm,hrv⟩:=hm;refine BM 0 (α:=Ck) (λq=>[(1,X),(4,.ptr q.p 0)]) (λq=>Aj q.st ([],0) h) (λq m=>n<=m/\q.ok m/\q.m2=Bd [] (d.revs.map (·.id))/\∀o y,q.st ([],0) o=some y->n<=o) ?_ (λK n1 hq=>?_);rw[hX];simp[go_sem,AF.flat,AK.flat];refine qC (by simpa[AI.enc,AF.flat,AK.flat]using d85 d h1 h2 h3 (h:=h) (n:=m)) ?_;rintro v H' n' ⟨K,a1,a2,rfl,a4,a5,a6,a7⟩;simp[go_sem,IO];refine⟨K,⟨by omega,a1,a5,λo y e=>by have:=a7 o y e;omega⟩,IO,λo y e=>?_⟩;simp only[Aj]at e;cases c:K.st ([],0) o with
 | some z=>rw[c]at e;cases e;exact a4 o y c
 | none=>rw[c]at e;exact a6 o y e
 obtain⟨hn1,hK,hm2,hlo⟩:=hq;have D:=hK.clo;have hlos:∀s' o y,K.st s' o=some y->n<=o:=λs' o y e=>by
  cases c:K.st ([],0) o with
  | some z=>exact hlo o z c
  | none=>rw[D.dom ([],0) s' o c]at e;cases e
 have BE:∀s',∀j y,h j=some y->Aj K.st s' h j=some y:=λs' j y e=>by
  simp only[Aj];cases c:K.st s' j with
  | some z=>have:=hlos s' j z c;have:=hHb j y e;omega
  | none=>exact e
 have hUb:∀s' j y,Aj K.st s' h j=some y->j<n1:=λs' j y e=>(D.old s' (qa _) (λj y e=>⟨by have:=hHb j y e;omega,JL hn1 (ho j y e).2⟩) j y e).1;have hps:∀s',Aj K.st s' h K.p=some (.cells [.map K.s0,.map K.s1,.map K.s2,.map K.s3,.map K.s4,AA s'.2]):=λs'=>(hK.has (s:=s') Bw).p;refine AY 1 [(1,X),(4,.ptr K.p 0),(5,.iptr [AA d.«end».ins,AA d.«end».move,AP d.«end».dels,AL d.«end».layers])] (Aj K.st ([],0) h) n1 ?_ (λm hm=>?_);rw[hX];simp[go_sem,IO,AF.flat,AK.flat,AC];exact⟨AV (AW (hUb _) (qa _)) (AC _ _ _),AJ (hUb _) (AJ (hUb _) AB)⟩;refine Bo 0 [(1,X),(4,.ptr K.p 0)] (Aj K.st ([],0) h) (λm=>n1<=m/\C6 K.m2 d.«end»/\d.«end».ins=0) ?_ (λm hm=>?_)
 . have hd:=ZO hK ([],0) 3 d.«end» he (H:=Aj K.st ([],0) h) (n:=m) hm Bw;refine AT 0 (α:=Int×Fp) (λq=>[(1,X),(4,.ptr K.p 0),(6,AA q.1)]) (λq=>Aj K.st q.2 h) (λq m=>n1<=m/\(q.1=0->q.2=([],0)/\C6 K.m2 d.«end»/\d.«end».ins=0)) (BX VF rfl (by kernel_rfl) (by kernel_rfl) ?_) (λq m hm=>?_);rw[hX];have fin:∀(e ea:Int) (s2:Fp) (m1:Nat) (KK:SV->Hp->Nat->Prop),n1<=m1->KK (AA (CJ [e,ea])) (Aj K.st s2 h) (m1+1)->Ak (B6.plain.call false 0) Tryz.prog 82 [.sl m1 0 1 2 true] (hset (Aj K.st s2 h) m1 (some (.cells [AA e,AA ea]))) (m1+1) KK:=λe ea s2 m1 KK hm1 hk=>by
    refine kU (bs:=[.imm 1 ([e,ea].map AA) false]) (h2:=Aj K.st s2 h) 1 (AJ (λj z e=>by have:=hUb s2 j z e;omega) AB) ⟨?_,trivial⟩ ?_;exact DV (es:=[AA e,AA ea]) (AW (hUb s2) hm1) (by simp) (by rw[AC];simp[SV.cells]) (by simp[SV.storable,SV.cells]);exact(Pw _ (by simp)).use hk
   have hd':∀KK:SV->Hp->Nat->Prop,(∀e s2,(e=0->s2=([],0)/\C6 K.m2 d.«end»)->KK (AA e) (Aj K.st s2 h) m)->Ak (B6.plain.call false 0) Tryz.prog 86 [.ptr K.p 0,AA 3,.agg [Af d.«end».props,AA d.«end».ins,AA d.«end».move,AP d.«end».dels,AL d.«end».layers]] (Aj K.st ([],0) h) m KK:=λKK hk=>by
    refine qC (by simpa[AF.enc,AF.flat]using hd) ?_;rintro v H' n' ⟨e,s2,rfl,hT2,rfl,rfl⟩;rw[D.up2];exact hk e s2 hT2
   clear hd;generalize hin:d.«end».ins=ins at hd' ⊢;generalize hmv:d.«end».move=mv at hd' ⊢;by_cases i0:ins=0;subst i0;by_cases m0:mv=0;subst m0;simp[go_sem,VF,AF.flat,hin,hmv];refine hd' _ λe s2 hT2=>?_;simp[go_sem];refine(JK _ _).use ?_;simp[go_sem];refine fin _ _ _ _ _ hm ?_;generalize hf:CJ [e,_]=ef;simp[go_sem,IO];exact⟨ef,s2.1,s2.2,⟨by omega,λh0=>by have:=hT2 (Dc (by rw[hf];exact h0));rw[this.1];exact⟨⟨rfl,rfl⟩,this.2⟩⟩,IO,AB⟩;simp[go_sem,VF,AF.flat,hin,hmv];refine hd' _ λe s2 hT2=>?_;simp[go_sem,m0];refine(JK _ _).use ?_;simp[go_sem];refine fin _ _ _ _ _ hm ?_;generalize hf:CJ [e,_]=ef;simp[go_sem,IO];exact⟨ef,s2.1,s2.2,⟨by omega,λh0=>by have:=hT2 (Dc (by rw[hf];exact h0));rw[this.1];exact⟨⟨rfl,rfl⟩,this.2⟩⟩,IO,AB⟩;simp[go_sem,VF,AF.flat,hin,hmv,i0];refine hd' _ λe s2 hT2=>?_;simp[go_sem,i0];refine(JK _ _).use ?_;simp[go_sem];refine fin _ _ _ _ _ hm ?_;generalize hf:CJ [e,_]=ef;simp[go_sem,IO];have hne:¬ef=0:=by
    rw[<-hf];simp only[CJ];by_cases c:e=0<;>simp[c]
   exact⟨ef,⟨by omega,hne⟩,s2.1,s2.2,IO,AB⟩;obtain⟨e8,s8⟩:=q;dsimp only at hm ⊢;by_cases e80:e8=0
   case neg=>exact AH (by simp[go_sem,e80];exact no e8 _ _ e80 (BE _))
   obtain⟨h81,hhd⟩:=hm.2 e80;rw[e80,h81];exact AH (by simp[go_sem,IO,hm.1,hhd])
 obtain⟨hm,hhd⟩:=hm;refine AT 0 (α:=Fp) (λ_=>[(4,.ptr K.p 0)]) (λq=>Aj K.st q h) (λq m=>n1<=m/\more ([],0) q (F6 N d.flow)/\RJ K.m2 N d.flow) (AH ?_) (λq m hm=>?_);rw[hX];simp[go_sem,AF.flat,AK.flat];refine qC (by simpa[Bl.enc]using P9 hK hB N d.flow hl ([],0) ⟨true,false,0⟩ (Aj K.st ([],0) h) m hm Bw) ?_;rintro v H' n' ⟨e,s2,rfl,hT2,rfl,rfl⟩;rw[D.up2];by_cases e0:e=0;obtain⟨b1,b2⟩:=hT2 e0;simp[go_sem,e0,IO];exact⟨s2.1,s2.2,⟨hm,b1,b2⟩,AB⟩;simp[go_sem,e0];exact no e _ _ e0 (BE _);refine AH ?_;simp[go_sem,hps];refine(JK _ _).use ?_;simp[go_sem];refine GQ ho (BE _) (by simp[closed]) (Py.ok ?_);rw[hT];rw[hm2]at hm hhd;exact⟨hm.2.2,hm.2.1.2.1,by have:=hm.2.1.2.2 List.nodup_nil;rw[hm.2.1.1]at this;simpa using this,hrv,hhd.1,hhd.2⟩
def MK:Nat->List AE->Nat
 | 0,_=>0
 | N+1,l=>(l.map λx=>1+MK N x.flow+(x.rows.map λr=>(r.cells.map λc=>1+MK N c.flow).sum).sum).sum
def MB (N:Nat) (l:List Cell):Nat:=(l.map λc=>1+MK N c.flow).sum
def Kp (N:Nat) (l:List Aa):Nat:=(l.map λr=>MB N r.cells).sum
def MC (N:Nat) (l:List AE):Nat:=(l.map λx=>1+MK N x.flow+Kp N x.rows).sum
theorem UE (N:Nat) (l:List AE):MK (N+1) l=MC N l:=rfl
theorem L9 {α:Type} {f:α->Nat} {l:List α} {i:Nat} (hi:i<l.length) {x:α} (hx:l[i]=x):((l.take (i+1)).map f).sum=((l.take i).map f).sum+f x:=by
 rw[qb hi,hx];simp
theorem RF (N:Nat):∀l:List AE,l.length<=MC N l
 | []=>qa _
 | x::l=>by
  have:=RF N l;simp only[MC,qu,kK,qF]at this ⊢;omega
def MP:Nat->List AE->Prop
 | 0,_=>False
 | N+1,l=>l.length<=150/\∀x∈l,(x.text.size<=1000/\x.rows.length<=20)/\MP N x.flow/\∀r∈x.rows,r.cells.length<=20/\∀c∈r.cells,MP N c.flow
def WH (N:Nat) (x:AE):Prop:=(x.text.size<=1000/\x.rows.length<=20)/\MP N x.flow/\∀r∈x.rows,r.cells.length<=20/\∀c∈r.cells,MP N c.flow
def V9 (N:Nat) (l:List AE) (c0:Int) (p:Nat) (H:Hp) (n:Nat):SV->Hp->Nat->Prop:=λv h' n'=>∃b c,v=.bool b/\h'=hset H p (some (.cells [AA c]))/\n'=n/\(b=true->0<=c0/\c0<=150->0<=c/\c+MK N l<=c0/\MP N l)
def US (N:Nat) (l:List AE):Prop:=∀(dp:Int) (p:Nat) (c0:Int) (H:Hp) (n:Nat),H p=some (.cells [AA c0])->BA Tryz.prog 33 [AG l,AA dp,.ptr p 0] H n (V9 N l c0 p H n)
theorem L8 {α:Type} {p:α->Prop} {l:List α} {i:Nat} (hi:i<l.length) {x:α} (hx:l[i]=x) (h:∀y∈l.take i,p y) (h2:p x):∀y∈l.take (i+1),p y:=λy hy=>by
 rw[qb hi,hx]at hy;rcases qe.1 hy with hy|hy;exact h y hy;rw[qv.1 hy];exact h2
set_option maxHeartbeats 4000000 in
theorem d33 (N:Nat) (l:List AE) (hl:l.length<=1048576) (hr:∀x∈l,x.head.props.length<=1048576/\US N x.flow/\x.rows.length<=1048576/\∀r∈x.rows,r.cells.length<=1048576/\∀c∈r.cells,US N c.flow):US (N+1) l:=λdp p c0 H n hp=>by
 refine Db Tryz.func33 rfl λho=>?_;have hpn:p<n:=(ho p _ hp).1;obtain⟨B,hB⟩:∃B:Int->Hp,∀c,B c=hset H p (some (.cells [AA c])):=⟨_,λ_=>rfl⟩
 have hBp:∀c,B c p=some (.cells [AA c]):=λc=>by rw[hB,AC]
 have hBs:∀c c',hset (B c) p (some (.cells [AA c']))=B c':=λc c'=>by rw[hB,hB,AS]
 have hB0 : B c0 = H := by rw [hB]; funext j; simp only [hset]; split; · subst_vars; exact hp.symm
                           rfl
 have As:∀(b:Bool) (c:Int) (m:Nat),(b=true->0<=c0/\c0<=150->0<=c/\c+MK (N+1) l<=c0/\MP (N+1) l)->B8 n (B c) m (.bool b) (V9 (N+1) l c0 p H n):=λb c m hb=>
  .inr ⟨0,.bool b,B c,IO,by simp[closed],λj y e=>⟨e,by
   rw[hB]at e;by_cases h:j=p;subst h;rw[AC]at e;cases e;exact⟨hpn,by simp[BQ,closed,closedL]⟩;rw[AD _ _ h]at e;exact ho j y e⟩,b,c,rfl,hB c,rfl,hb⟩
 have ret:∀(c:Int) (m:Nat),B8 n (B c) m (.bool false) (V9 (N+1) l c0 p H n):=λc m=>As false c m (by simp);refine AY 0 [(0,AG l),(1,AA dp),(2,.ptr p 0)] (B c0) n ?_ (λm hm=>?_);rw[hB0];simp[go_sem,IO];refine AT 0 (α:=Int) (λ_=>[]) (λc=>B c) (λc m=>n<=m/\(0<=c0/\c0<=150->0<=c/\c+MC N l<=c0/\∀x∈l,WH N x)) ?_ (λc m hm=>?_);refine AY 0 [(0,AG l),(1,AA dp),(2,.ptr p 0),(7,AA 0)] (B c0) n ?_ (λm hm=>?_);simp[go_sem,IO,hm];refine AR (BG 0 (α:=Nat×Int) (λq=>[(0,AG l),(1,AA dp),(2,.ptr p 0),(7,AA q.1)]) (λq=>B q.2) (λq m=>q.1<=l.length/\n<=m/\(0<=c0/\c0<=150->0<=q.2/\q.2+MC N (l.take q.1)<=c0/\∀x∈l.take q.1,WH N x)) (λq=>l.length-q.1) (0,c0) ⟨qg _,hm,λg=>⟨g.1,by simp[MC],by simp⟩⟩ ?_ AB ?_);simp[go_sem,Ai,IO];rintro⟨i,c⟩ m ⟨hi,hm,hG⟩;dsimp only at hi hG ⊢;by_cases hlt:i<l.length;obtain⟨x,hx⟩:∃x,l[i]=x:=⟨_,rfl⟩
 have hxm:x∈l:=by rw[<-hx];exact ql hlt
 obtain⟨x1,x2,x3,x4⟩:=hr x hxm;have w1:=wS i (by omega);refine AY 0 [(0,AG l),(1,AA dp),(2,.ptr p 0),(7,AA i)] (B c) n ?_ (λm hm=>?_);simp[go_sem,IO,hm,hlt];refine AT 0 (α:=Int) (λ_=>[(0,AG l),(1,AA dp),(2,.ptr p 0),(7,AA i)]) (λc=>B c) (λc m=>n<=m/\(0<=c0/\c0<=150->0<=c/\c+MC N (l.take (i+1))<=c0/\WH N x)) ?_ (λc m hm=>?_);refine AR ?_;refine BM 0 (α:=Int) (λ_=>[(0,AG l),(1,AA dp),(2,.ptr p 0),(7,AA i)]) (λc=>B c) (λc' m=>n<=m/\(0<=c0/\c0<=150->c'=c-1)) ?_ (λc' m hm=>?_);simp[go_sem,IO,hm,hBp,hBs];exact⟨_,λg1 g2=>by obtain⟨q1,q2,_⟩:=hG ⟨g1,g2⟩;rw[Cl]<;>omega,AB⟩;obtain⟨hm,hc'⟩:=hm;refine AT 0 (α:=Int) (λ_=>[(0,AG l),(1,AA dp),(2,.ptr p 0),(7,AA i)]) (λc=>B c) (λc2 m=>n<=m/\(0<=c0/\c0<=150->0<=c2/\c2+MK N x.flow<=c'/\(x.text.size<=1000/\x.rows.length<=20)/\MP N x.flow)) ?_ (λc m hm=>?_);refine BM 0 (α:=Bx×Int) (λq=>[(0,AG l),(1,AA dp),(2,.ptr p 0),(7,AA i),(68,.bool q.1.b)]) (λq=>B q.2) (λq m=>n<=m/\(q.1.b=false->0<=c0/\c0<=150->0<=q.2/\q.2+MK N x.flow<=c'/\(x.text.size<=1000/\x.rows.length<=20)/\MP N x.flow)) ?_ (λq m hm=>?_);generalize c'=c at hc' ⊢;by_cases a1:c<0;simp[go_sem,IO,hm,hBp,a1];exact⟨⟨true⟩,c,by simp,rfl,AB⟩;by_cases a2:dp=0;simp[go_sem,IO,hm,hBp,a1,a2];exact⟨⟨true⟩,c,by simp,rfl,AB⟩;by_cases a3:(1000:Int)<x.text.size;simp[go_sem,IO,hm,hBp,a1,a2,hlt,hx,qx,a3];exact⟨⟨true⟩,c,by simp,rfl,AB⟩;by_cases a4:(60:Int)<x.head.props.length;simp[go_sem,IO,hm,hBp,a1,a2,hlt,hx,qx,a3,a4];exact⟨⟨true⟩,c,by simp,rfl,AB⟩;by_cases a5:(20:Int)<x.rows.length;simp[go_sem,IO,hm,hBp,a1,a2,hlt,hx,qx,a3,a4,a5];exact⟨⟨true⟩,c,by simp,rfl,AB⟩;simp[go_sem,hBp,a1,a2,hlt,hx,qx,a3,a4,a5];refine qC (x2 _ p c (B c) m (hBp c)) ?_;rintro v H' n' ⟨b,c2,rfl,rfl,rfl,hb⟩;rw[hBs];simp[go_sem,IO,hm];exact⟨⟨!b⟩,c2,λg ga gb=>by
  have g1:0<=c0/\c0<=150:=⟨ga,gb⟩
  obtain⟨q1,q2,q3⟩:=hG g1;have e1:=hc' g1;obtain⟨r1,r2,r3⟩:=hb (by simpa using g) ⟨by omega,by omega⟩;exact⟨r1,r2,⟨by omega,by omega⟩,r3⟩,rfl,AB⟩
 obtain⟨⟨b⟩,c2⟩:=q;obtain⟨hm,hb⟩:=hm;dsimp only at hb ⊢;cases b with
 | true=>exact AH (by simp[go_sem];exact ret c2 _)
 | false=>exact AH (by simp[go_sem,IO,hm];exact⟨_,λg1 g2=>hb rfl ⟨g1,g2⟩,AB⟩)
 obtain⟨hm,hx2⟩:=hm;have hts:=L9 (f:=λx=>1+MK N x.flow+Kp N x.rows) hlt hx;change MC N _=MC N _+_ at hts;obtain⟨S,hS⟩:∃S:Nat,S=MC N (l.take i)+1+MK N x.flow:=⟨_,rfl⟩
 have hSt:MC N (l.take (i+1))=S+Kp N x.rows:=by omega
 rw[hSt];clear hts;have hG2:0<=c0/\c0<=150->0<=c/\c+S<=c0/\(x.text.size<=1000/\x.rows.length<=20)/\MP N x.flow:=λg=>by
  obtain⟨q1,q2,_⟩:=hG g;obtain⟨r1,r2,r3,r4⟩:=hx2 g;have:=hc' g;exact⟨r1,by omega,r3,r4⟩
 clear hG hx2 hc';refine AY 0 [(0,AG l),(1,AA dp),(2,.ptr p 0),(7,AA i),(8,AA 0)] (B c) n ?_ (λm hm=>?_);simp[go_sem,IO,hm];refine AR (BG 0 (α:=Nat×Int) (λq=>[(0,AG l),(1,AA dp),(2,.ptr p 0),(7,AA i),(8,AA q.1)]) (λq=>B q.2) (λq m=>q.1<=x.rows.length/\n<=m/\(0<=c0/\c0<=150->0<=q.2/\q.2+(S+Kp N (x.rows.take q.1):Nat)<=c0/\∀r∈x.rows.take q.1,r.cells.length<=20/\∀z∈r.cells,MP N z.flow)) (λq=>x.rows.length-q.1) (0,c) ⟨qg _,hm,λg=>⟨(hG2 g).1,(hG2 g).2.1,by simp⟩⟩ ?_ AB ?_);simp[go_sem,Ai,IO];have hx3:0<=c0/\c0<=150->(x.text.size<=1000/\x.rows.length<=20)/\MP N x.flow:=λg=>(hG2 g).2.2;clear hG2;rintro⟨j,c⟩ m ⟨hj,hm,hG⟩;dsimp only at hj hG ⊢;by_cases hjt:j<x.rows.length;obtain⟨y,hy⟩:∃y,x.rows[j]=y:=⟨_,rfl⟩
 have hym:y∈x.rows:=by rw[<-hy];exact ql hjt
 obtain⟨y1,y2⟩:=x4 y hym;have w2:=wS j (by omega);have hts:=L9 (f:=λr:Aa=>MB N r.cells) hjt hy;change Kp N _=Kp N _+_ at hts;obtain⟨U,hU⟩:∃U:Nat,U=S+Kp N (x.rows.take j):=⟨_,rfl⟩
 have hUt:S+Kp N (x.rows.take (j+1))=U+MB N y.cells:=by omega
 rw[<-hU]at hG;clear hts;refine AY 0 [(0,AG l),(1,AA dp),(2,.ptr p 0),(7,AA i),(8,AA j)] (B c) n ?_ (λm hm=>?_);simp[go_sem,IO,hm,hlt,hx,qx,hjt];refine AT 0 (α:=Int) (λ_=>[(0,AG l),(1,AA dp),(2,.ptr p 0),(7,AA i),(8,AA j)]) (λc=>B c) (λc m=>n<=m/\(0<=c0/\c0<=150->0<=c/\c+(S+Kp N (x.rows.take (j+1)):Nat)<=c0/\y.cells.length<=20/\∀z∈y.cells,MP N z.flow)) ?_ (λc m hm=>?_);refine AR ?_;refine Bo 0 [(0,AG l),(1,AA dp),(2,.ptr p 0),(7,AA i),(8,AA j)] (B c) (λm=>n<=m/\y.cells.length<=20) (AH ?_) (λm hm=>?_);by_cases a:(20:Int)<y.cells.length;simp[go_sem,hlt,hx,qx,hjt,hy,qQ,a];exact ret c _;simp[go_sem,hlt,hx,qx,hjt,hy,qQ,a,IO,hm];omega;obtain⟨hm,hyc⟩:=hm;refine AY 0 [(0,AG l),(1,AA dp),(2,.ptr p 0),(7,AA i),(8,AA j),(9,AA 0)] (B c) n ?_ (λm hm=>?_);simp[go_sem,IO,hm];refine AR (BG 0 (α:=Nat×Int) (λq=>[(0,AG l),(1,AA dp),(2,.ptr p 0),(7,AA i),(8,AA j),(9,AA q.1)]) (λq=>B q.2) (λq m=>q.1<=y.cells.length/\n<=m/\(0<=c0/\c0<=150->0<=q.2/\q.2+(U+MB N (y.cells.take q.1):Nat)<=c0/\∀z∈y.cells.take q.1,MP N z.flow)) (λq=>y.cells.length-q.1) (0,c) ⟨qg _,hm,λg=>⟨(hG g).1,(hG g).2.1,by simp⟩⟩ ?_ AB ?_);simp[go_sem,Ai,IO];clear hG;rintro⟨k,c⟩ m ⟨hk,hm,hG⟩;dsimp only at hk hG ⊢;by_cases hkt:k<y.cells.length;obtain⟨z,hz⟩:∃z,y.cells[k]=z:=⟨_,rfl⟩
 have hzm:z∈y.cells:=by rw[<-hz];exact ql hkt
 have z1:=y2 z hzm;have w3:=wS k (by omega);have hts:=L9 (f:=λc:Cell=>1+MK N c.flow) hkt hz;change MB N _=MB N _+_ at hts;refine AY 0 [(0,AG l),(1,AA dp),(2,.ptr p 0),(7,AA i),(8,AA j),(9,AA k)] (B c) n ?_ (λm hm=>?_);simp[go_sem,IO,hm,hlt,hx,qx,hjt,hy,qQ,hkt];refine AT 0 (α:=Int) (λ_=>[(0,AG l),(1,AA dp),(2,.ptr p 0),(7,AA i),(8,AA j),(9,AA k)]) (λc=>B c) (λc m=>n<=m/\(0<=c0/\c0<=150->0<=c/\c+(U+MB N (y.cells.take (k+1)):Nat)<=c0/\MP N z.flow)) ?_ (λc m hm=>?_);refine AR ?_;refine BM 0 (α:=Int) (λ_=>[(0,AG l),(1,AA dp),(2,.ptr p 0),(7,AA i),(8,AA j),(9,AA k)]) (λc=>B c) (λc' m=>n<=m/\(0<=c0/\c0<=150->c'=c-1)) ?_ (λc' m hm=>?_);simp[go_sem,IO,hm,hBp,hBs];exact⟨_,λg1 g2=>by obtain⟨q1,q2,_⟩:=hG ⟨g1,g2⟩;rw[Cl]<;>omega,AB⟩;obtain⟨hm,hc'⟩:=hm;refine BM 0 (α:=Bx×Int) (λq=>[(0,AG l),(1,AA dp),(2,.ptr p 0),(7,AA i),(8,AA j),(9,AA k),(132,.bool q.1.b)]) (λq=>B q.2) (λq m=>n<=m/\(q.1.b=false->0<=c0/\c0<=150->0<=q.2/\q.2+MK N z.flow<=c'/\MP N z.flow)) ?_ (λq m hm=>?_);generalize c'=c at hc' ⊢;by_cases a1:c<0;simp[go_sem,IO,hm,hBp,a1];exact⟨⟨true⟩,c,by simp,rfl,AB⟩;simp[go_sem,hBp,a1,hlt,hx,qx,hjt,hy,qQ,hkt,hz,jh];refine qC (z1 _ p c (B c) m (hBp c)) ?_;rintro v H' n' ⟨b,c2,rfl,rfl,rfl,hb⟩;rw[hBs];simp[go_sem,IO,hm];exact⟨⟨!b⟩,c2,λg ga gb=>by
  have g1:0<=c0/\c0<=150:=⟨ga,gb⟩
  obtain⟨q1,q2,q3⟩:=hG g1;have e1:=hc' g1;exact hb (by simpa using g) ⟨by omega,by omega⟩,rfl,AB⟩
 obtain⟨⟨b⟩,c2⟩:=q;obtain⟨hm,hb⟩:=hm;dsimp only at hb ⊢;cases b with
 | true=>exact AH (by simp[go_sem];exact ret c2 _)
 | false=>exact AH (by simp[go_sem,IO,hm];exact⟨_,λg1 g2=>by
  obtain⟨q1,q2,_⟩:=hG ⟨g1,g2⟩;obtain⟨r1,r2,r3⟩:=hb rfl ⟨g1,g2⟩;have:=hc' ⟨g1,g2⟩;exact⟨r1,by omega,r3⟩,AB⟩)
 obtain⟨hm,hz2⟩:=hm;refine AH ?_;simp[go_sem,w3,IO,-Int.natCast_add];exact⟨k+1,by omega,c,⟨by omega,hm,λga gb=>⟨(hz2 ⟨ga,gb⟩).1,(hz2 ⟨ga,gb⟩).2.1,L8 hkt hz (hG ⟨ga,gb⟩).2.2 (hz2 ⟨ga,gb⟩).2.2⟩⟩,rfl,AB⟩;refine AH ?_;have hkk:k=y.cells.length:=by omega
 rw[hkk,qi]at hG;simp[go_sem,hlt,hx,qx,hjt,hy,qQ,hkt,IO,hm];exact⟨c,λg1 g2=>⟨(hG ⟨g1,g2⟩).1,by have:=(hG ⟨g1,g2⟩).2.1;omega,hyc,(hG ⟨g1,g2⟩).2.2⟩,AB⟩;obtain⟨hm,hy2⟩:=hm;refine AH ?_;simp[go_sem,w2,IO,-Int.natCast_add];exact⟨j+1,by omega,c,⟨by omega,hm,λga gb=>⟨(hy2 ⟨ga,gb⟩).1,(hy2 ⟨ga,gb⟩).2.1,L8 hjt hy (hG ⟨ga,gb⟩).2.2 (hy2 ⟨ga,gb⟩).2.2⟩⟩,rfl,AB⟩;refine AH ?_;have hjj:j=x.rows.length:=by omega
 rw[hjj,qi]at hG;simp[go_sem,hlt,hx,qx,hjt,IO,hm];exact⟨c,λg1 g2=>⟨(hG ⟨g1,g2⟩).1,(hG ⟨g1,g2⟩).2.1,(hx3 ⟨g1,g2⟩).1,(hx3 ⟨g1,g2⟩).2,(hG ⟨g1,g2⟩).2.2⟩,AB⟩;obtain⟨hm,hx2⟩:=hm;refine AH ?_;simp[go_sem,w1,IO,-Int.natCast_add];exact⟨i+1,by omega,c,⟨by omega,hm,λga gb=>⟨(hx2 ⟨ga,gb⟩).1,by have:=(hx2 ⟨ga,gb⟩).2.1;omega,L8 hlt hx (hG ⟨ga,gb⟩).2.2 (hx2 ⟨ga,gb⟩).2.2⟩⟩,rfl,AB⟩;refine AH ?_;have hii:i=l.length:=by omega
 rw[hii,qi]at hG;simp[go_sem,hlt,hm];exact⟨c,λg1 g2=>hG ⟨g1,g2⟩,AB⟩;obtain⟨hm,hl2⟩:=hm;refine AH ?_;simp[go_sem];refine As true c _ λ_ g=>?_;obtain⟨q1,q2,q3⟩:=hl2 g;have:=RF N l;exact⟨q1,by rw[UE];exact q2,by omega,q3⟩
theorem V7 {B:Nat} (hB:B<=1048576):∀(N:Nat) (l:List AE),Da AF.sized B N l->US N l
 | 0,_,h=>h.elim
 | N+1,l,h=>by
  obtain⟨h1,_,h3⟩:=C1.1 h;refine d33 N l (by omega) λx hx=>?_;obtain⟨a1,a2,a3,a4⟩:=h3 x hx;exact⟨a1.props,V7 hB N x.flow a2,by omega,λr hr=>⟨by have:=(a4 r hr).2.1;omega,λc hc=>V7 hB N c.flow ((a4 r hr).2.2 c hc).2⟩⟩
def Qb (N:Nat) (d:AI) (v:SV):Prop:=∃b,v=.bool b/\(b=true->Hk N d/\MP N d.flow/\MK N d.flow<=150)
set_option maxHeartbeats 4000000 in
theorem ck (d:AI) {B N:Nat} (hB:B<=1048576) (hl:Da AF.sized B N d.flow) (hc:TC 24 [d.enc] (Py (Hk N d))):TC 12 [d.enc] (Qb N d):=by
 intro h n;refine Db Tryz.func12 rfl λho=>?_;have hHb:=ho.lt;have fin:∀(b:Bool) (c:BT) (m:Nat),(b=true->Hk N d/\MP N d.flow/\MK N d.flow<=150)->B8 n (hset h (n+1) (some c)) m (.bool b) (λv h' n'=>Qb N d v/\h'=h/\n'=n):=λb c m hb=>GQ ho (AJ (λj z e=>by have:=hHb j z e;omega) AB) (by simp[closed]) ⟨b,rfl,hb⟩;refine BP 1 [(1,.iptr ([AG d.flow]++d.«end».flat++[Ao d.revs]++d.settings.flat))] h (λm=>n+1=m) ?_ (λm hm=>?_);simp[go_sem,AI.enc,AF.flat,AK.flat];exact⟨AV (AW hHb (qa _)) (AC _ _ _),AJ hHb AB⟩;subst hm;refine BP 0 [(1,.iptr ([AG d.flow]++d.«end».flat++[Ao d.revs]++d.settings.flat)),(3,.ptr (n+1) 0)] (hset h (n+1) (some (.cells [AA 150]))) (λm=>n+2=m) ?_ (λm hm=>?_);simp[go_sem,IO,AC,AS];subst hm;have hGb:∀j y,hset h (n+1) (some (.cells [AA 150])) j=some y->j<n+2:=λj y e=>by
  simp only[hset]at e;split at e;omega;have:=hHb j y e;omega
 refine BP 1 [(1,.iptr ([AG d.flow]++d.«end».flat++[Ao d.revs]++d.settings.flat)),(3,.ptr (n+1) 0),(4,.iptr d.settings.flat)] (hset h (n+1) (some (.cells [AA 150]))) (λm=>n+2<=m) ?_ (λm hm=>?_);simp[go_sem,IO,AF.flat,AK.flat,AC];exact⟨AV (AW hGb (qa _)) (AC _ _ _),AJ hGb (AJ hGb AB)⟩;refine AH ?_;have no:=λc m=>fin false c m (by simp);by_cases a1:(d.settings.comments.length:Int)<=30
 case neg=>simp[go_sem,AF.flat,AK.flat,a1];exact no _ _
 by_cases a2:(d.settings.styles.length:Int)<=30
 case neg=>simp[go_sem,AF.flat,AK.flat,a1,a2];exact no _ _
 by_cases a3:(d.settings.lists.length:Int)<=30
 case neg=>simp[go_sem,AF.flat,AK.flat,a1,a2,a3];exact no _ _
 by_cases a4:(d.settings.vars.length:Int)<=30
 case neg=>simp[go_sem,AF.flat,AK.flat,a1,a2,a3,a4];exact no _ _
 by_cases a5:(d.revs.length:Int)<=30
 case neg=>simp[go_sem,AF.flat,AK.flat,a1,a2,a3,a4,a5];exact no _ _
 simp[go_sem,AF.flat,AK.flat,a1,a2,a3,a4,a5];refine qC (V7 hB N d.flow hl 12 (n+1) 150 (hset h (n+1) (some (.cells [AA 150]))) m (AC _ _ _)) ?_;rintro v H' n' ⟨b,c,rfl,rfl,rfl,hfew⟩;rw[AS];cases b with
 | false=>simp[go_sem];exact no _ _
 | true=>
 simp[go_sem];refine kW (by simpa[AI.enc,AF.flat,AK.flat]using hc) ?_;rintro v ⟨e,rfl,hT⟩;simp[go_sem];obtain⟨f1,f2,f3⟩:=hfew rfl ⟨by omega,by omega⟩;exact fin _ _ _ λg=>⟨hT (by simpa using g),f3,by omega⟩
def FM (v:SV):Prop:=∃e:Int,v=AA e
def trS:Tr:=.pure 0<|.pure 1<|.pure 3<|.pure 4<|.pure 6<|.pure 7<|.pure 9<|.pure 10<|.one 2<|.one 5<|.one 8<|.one 11<|.one 12<|.one 13<|.one 14 .nil
theorem t83 (s:AK) (h1:TC 146 [Ae s.styles] FM) (h2:TC 147 [Di s.lists] FM) (h3:TC 148 [BZ s.comments] FM) (h4:TC 149 [FI s.vars] FM):TC 83 [s.enc] FM:=by
 intro h n;refine Db Tryz.func83 rfl λho=>?_;have hHb:=ho.lt;refine AY 1 [(1,.iptr s.flat)] h n ?_ (λm hm=>?_);simp[go_sem,AK.enc,AK.flat];exact⟨AV (AW hHb (qa _)) (AC _ _ _),AJ hHb AB⟩;refine AT 0 (α:=Int) (λe=>[(2,AA e)]) (λ_=>h) (λ_ m=>n<=m) (BX trS rfl (by kernel_rfl) (by kernel_rfl) ?_) (λe m hm=>?_);have hHm:∀j y,h j=some y->j<m:=λj y e=>by have:=hHb j y e;omega
 simp[go_sem,trS,AK.flat];refine kW h1 ?_;rintro v ⟨e1,rfl⟩;simp[go_sem];refine kW h2 ?_;rintro v ⟨e2,rfl⟩;simp[go_sem];refine kW h3 ?_;rintro v ⟨e3,rfl⟩;simp[go_sem];refine kW h4 ?_;rintro v ⟨e4,rfl⟩;simp[go_sem];refine kU (bs:=[.imm 1 ([e1,e2,e3,e4].map AA) false]) (h2:=h) 1 (AJ hHm AB) ⟨?_,trivial⟩ ?_;exact DV (es:=[AA e1,AA e2,AA e3,AA e4]) (AW hHm (qa _)) (by simp) (by rw[AC];simp[SV.cells]) (by simp[SV.storable,SV.cells]);refine(Pw _ (by simp)).use ?_;simp[go_sem];exact⟨by omega,_,IO⟩;refine AH ?_;simp[go_sem];exact GQ ho AB (by simp[closed]) ⟨e,rfl⟩
theorem Ws (N:Nat) (hN:N<=1048576) (g:FuncId) (a b:List SV) (hF:∀j,j<N->TC g (a++[AA j]++b) FM):TC 150 [AA N,.fn (.func g) a b] FM:=by
 intro h n;refine gq Tryz.func150 rfl λho=>?_;simp[go_sem];refine An 0 (α:=Nat) (λk=>[(1,.fn (.func g) a b),(7,AA N),(8,AA k)]) (λ_=>h) (λk m=>k<=N/\n<=m) (λk=>N-k) 0 ⟨qg _,qa _⟩ ?_ AB ?_;simp[Ai,Fz];rintro k m ⟨hk,hnm⟩;by_cases hlt:k<N;have w1:=wS k (by omega);have F0:=hF k hlt;simp only[qn,List.singleton_append]at F0;simp[go_sem,hlt];refine F0.use ?_;rintro v ⟨e,rfl⟩;by_cases h0:e=0;simp[go_sem,h0,w1,-Int.natCast_add];exact⟨k+1,by omega,⟨by omega,hnm⟩,rfl⟩;simp[go_sem,h0];exact GQ ho AB (by simp[closed]) ⟨e,rfl⟩;simp[go_sem,hlt];exact GQ ho AB (by simp[closed]) ⟨0,rfl⟩
def XE:Tr:=.pure 0<|.pure 1<|.pure 2<|.pure 4<|.pure 5<|.pure 6<|.pure 7<|.one 3<|.one 8<|.one 9<|.one 10<|.one 11 .nil
theorem cn (l:List Fb) (hl:l.length<=1048576) (hc:∀i,i<l.length->TC 210 [AA i,.iptr [Di l]] FM):TC 147 [Di l] FM:=by
 intro h n;refine Db Tryz.func147 rfl λho=>?_;have hHb:=ho.lt;refine AY 1 [(1,.iptr [Di l])] h n ?_ (λm hm=>?_);simp[go_sem];exact⟨AV (AW hHb (qa _)) (AC _ _ _),AJ hHb AB⟩;refine AT 0 (α:=Int) (λe=>[(2,AA e)]) (λ_=>h) (λ_ m=>n<=m) (BX XE rfl (by kernel_rfl) (by kernel_rfl) ?_) (λe m hm=>?_);have hHm:∀j y,h j=some y->j<m:=λj y e=>by have:=hHb j y e;omega
 have hN:(if(64:Int)<l.length then(64:Int)else l.length)=((min l.length 64:Nat):Int):=by split<;>omega
 simp[go_sem,XE];refine(JK _ _).use ?_;simp[go_sem,hN];refine(Ws (min l.length 64) (by omega) 210 [] [.iptr [Di l]] (λj hj=>hc j (by omega))).use ?_;rintro v ⟨e2,rfl⟩;simp[go_sem];generalize(if 64<(l.length:Int)then(9:Int)else 0)=e1;refine kU (bs:=[.imm 1 ([e1,e2].map AA) false]) (h2:=h) 1 (AJ hHm AB) ⟨?_,trivial⟩ ?_;exact DV (es:=[AA e1,AA e2]) (AW hHm (qa _)) (by simp) (by rw[AC];simp[SV.cells]) (by simp[SV.storable,SV.cells]);refine(Pw _ (by simp)).use ?_;simp[go_sem];exact⟨by omega,_,IO⟩;refine AH ?_;simp[go_sem];exact GQ ho AB (by simp[closed]) ⟨e,rfl⟩
theorem co (l:List Au) (hl:l.length<=1048576) (hc:∀i,i<l.length->TC 213 [AA i,.iptr [BZ l]] FM):TC 148 [BZ l] FM:=by
 intro h n;refine Db Tryz.func148 rfl λho=>?_;have hHb:=ho.lt;refine AY 1 [(1,.iptr [BZ l])] h n ?_ (λm hm=>?_);simp[go_sem];exact⟨AV (AW hHb (qa _)) (AC _ _ _),AJ hHb AB⟩;refine AT 0 (α:=Int) (λe=>[(2,AA e)]) (λ_=>h) (λ_ m=>n<=m) (BX XE rfl (by kernel_rfl) (by kernel_rfl) ?_) (λe m hm=>?_);have hHm:∀j y,h j=some y->j<m:=λj y e=>by have:=hHb j y e;omega
 have hN:(if(1024:Int)<l.length then(1024:Int)else l.length)=((min l.length 1024:Nat):Int):=by split<;>omega
 simp[go_sem,XE];refine(JK _ _).use ?_;simp[go_sem,hN];refine(Ws (min l.length 1024) (by omega) 213 [] [.iptr [BZ l]] (λj hj=>hc j (by omega))).use ?_;rintro v ⟨e2,rfl⟩;simp[go_sem];generalize(if 1024<(l.length:Int)then(9:Int)else 0)=e1;refine kU (bs:=[.imm 1 ([e1,e2].map AA) false]) (h2:=h) 1 (AJ hHm AB) ⟨?_,trivial⟩ ?_;exact DV (es:=[AA e1,AA e2]) (AW hHm (qa _)) (by simp) (by rw[AC];simp[SV.cells]) (by simp[SV.storable,SV.cells]);refine(Pw _ (by simp)).use ?_;simp[go_sem];exact⟨by omega,_,IO⟩;refine AH ?_;simp[go_sem];exact GQ ho AB (by simp[closed]) ⟨e,rfl⟩
theorem cp (l:List Ft) (hl:l.length<=1048576) (hc:∀i,i<l.length->TC 218 [AA i,.iptr [FI l]] FM):TC 149 [FI l] FM:=by
 intro h n;refine Db Tryz.func149 rfl λho=>?_;have hHb:=ho.lt;refine AY 1 [(1,.iptr [FI l])] h n ?_ (λm hm=>?_);simp[go_sem];exact⟨AV (AW hHb (qa _)) (AC _ _ _),AJ hHb AB⟩;refine AT 0 (α:=Int) (λe=>[(2,AA e)]) (λ_=>h) (λ_ m=>n<=m) (BX XE rfl (by kernel_rfl) (by kernel_rfl) ?_) (λe m hm=>?_);have hHm:∀j y,h j=some y->j<m:=λj y e=>by have:=hHb j y e;omega
 have hN:(if(128:Int)<l.length then(128:Int)else l.length)=((min l.length 128:Nat):Int):=by split<;>omega
 simp[go_sem,XE];refine(JK _ _).use ?_;simp[go_sem,hN];refine(Ws (min l.length 128) (by omega) 218 [] [.iptr [FI l]] (λj hj=>hc j (by omega))).use ?_;rintro v ⟨e2,rfl⟩;simp[go_sem];generalize(if 128<(l.length:Int)then(9:Int)else 0)=e1;refine kU (bs:=[.imm 1 ([e1,e2].map AA) false]) (h2:=h) 1 (AJ hHm AB) ⟨?_,trivial⟩ ?_;exact DV (es:=[AA e1,AA e2]) (AW hHm (qa _)) (by simp) (by rw[AC];simp[SV.cells]) (by simp[SV.storable,SV.cells]);refine(Pw _ (by simp)).use ?_;simp[go_sem];exact⟨by omega,_,IO⟩;refine AH ?_;simp[go_sem];exact GQ ho AB (by simp[closed]) ⟨e,rfl⟩
theorem aN (l:List Fb) (i:Nat) (hi:i<l.length):PC 211 [AA i,.iptr [Di l]] (AA (l[i]).id):=by
 intro h n;refine gq Tryz.func211 rfl λho=>?_;simp[go_sem,hi,Fb.enc];exact As ho rfl rfl
def trO:Tr:=.pure 0<|.pure 1<|.pure 3<|.pure 4<|.pure 5<|.pure 6<|.pure 7<|.one 2<|.one 8<|.one 9<|.one 10<|.one 11 .nil
theorem ct (l:List Fb) (hl:l.length<=1048576) (i:Nat) (hi:i<l.length) (hc:TC 212 [DL (l[i]).levels] FM):TC 210 [AA i,.iptr [Di l]] FM:=by
 intro h n;refine Db Tryz.func210 rfl λho=>?_;have hHb:=ho.lt;obtain⟨x,hx⟩:∃x,l[i]=x:=⟨_,rfl⟩
 rw[hx]at hc;refine AY 0 [(0,AA i),(1,.iptr [Di l])] h n ?_ (λm hm=>?_);simp[go_sem,IO];refine AT 0 (α:=Int) (λe=>[(3,AA e)]) (λ_=>h) (λ_ m=>n<=m) (BX trO rfl (by kernel_rfl) (by kernel_rfl) ?_) (λe m hm=>?_);have hHm:∀j y,h j=some y->j<m:=λj y e=>by have:=hHb j y e;omega
 simp[go_sem,trO,hi,hx,Fb.enc];have hF:∀j,j<=i->PC 211 ([]++[AA j]++[.iptr [Di l]]) (AA (match l[j]? with|some r=>r.id|none=>0)):=λj hj=>by
  have hj2:j<l.length:=by omega
  simpa[hj2]using aN l j hj2
 refine(V0 i (by omega) 211 [] [.iptr [Di l]] (λj=>match l[j]? with|some r=>r.id|none=>0) hF).use ?_;generalize G1 (λj=>match l[j]? with|some r=>r.id|none=>0) i=e1;simp[go_sem];refine hc.use ?_;rintro v ⟨e2,rfl⟩;simp[go_sem];refine kU (bs:=[.imm 1 ([e1,e2].map AA) false]) (h2:=h) 1 (AJ hHm AB) ⟨?_,trivial⟩ ?_;exact DV (es:=[AA e1,AA e2]) (AW hHm (qa _)) (by simp) (by rw[AC];simp[SV.cells]) (by simp[SV.storable,SV.cells]);refine(Pw _ (by simp)).use ?_;simp[go_sem];exact⟨by omega,_,IO⟩;refine AH ?_;simp[go_sem];exact GQ ho AB (by simp[closed]) ⟨e,rfl⟩
theorem cv (l:List CX) (hl:l.length<=1048576) (hc:∀x∈l,∀k:Int,TC 271 [.str x.template,AA k] FM):TC 212 [DL l] FM:=by
 intro h n;refine Db Tryz.func212 rfl λho=>?_;have hHb:=ho.lt;have out:∀(e:Int) (m:Nat),B8 n h m (AA e) (λv h' n'=>FM v/\h'=h/\n'=n):=λe m=>GQ ho AB (by simp[closed]) ⟨e,rfl⟩;refine AY 0 [(0,DL l)] h n ?_ (λm hm=>?_);simp[go_sem,IO];refine Bc 0 [(0,DL l)] h n (AH ?_) (λm hm=>?_);by_cases c:l=[];simp[go_sem,c];exact out _ _;by_cases c2:(9:Int)<l.length;simp[go_sem,c,c2];exact out _ _;simp[go_sem,c,c2,IO,hm];refine Bc 0 [] h n ?_ (λm hm=>?_);refine AY 0 [(14,DL l),(15,AA l.length),(16,AA 0)] h n ?_ (λm hm=>?_);simp[go_sem,IO,hm];refine AR (BG 0 (α:=Nat) (λi=>[(14,DL l),(15,AA l.length),(16,AA i)]) (λ_=>h) (λi m=>i<=l.length/\n<=m) (λi=>l.length-i) 0 ⟨qg _,hm⟩ ?_ AB ?_);simp[go_sem,Ai,IO];rintro i m ⟨hi,hm⟩;by_cases hlt:i<l.length;obtain⟨x,hx⟩:∃x,l[i]=x:=⟨_,rfl⟩
 have hxm:x∈l:=by rw[<-hx];exact ql hlt
 have w1:=wS i (by omega);refine AY 0 [(14,DL l),(15,AA l.length),(16,AA i),(17,.bool true)] h n ?_ (λm hm=>?_);simp[go_sem,IO,hm,hlt];refine AY 0 [(14,DL l),(15,AA l.length),(16,AA i)] h n ?_ (λm hm=>?_);simp[go_sem,IO,hm];refine Bc 0 [(14,DL l),(15,AA l.length),(16,AA i)] h n ?_ (λm hm=>?_);refine AR ?_;refine AY 1 [(14,DL l),(15,AA l.length),(16,AA i),(3,AA i),(4,.iptr [AA x.format,AA x.start,.str x.template,AA x.restart])] h n ?_ (λm hm=>?_);have hHm:∀j y,h j=some y->j<m:=λj y e=>by have:=hHb j y e;omega
 simp[go_sem,IO,hlt,hx,CX.enc,AC];exact⟨by omega,AV (AW hHm (qa _)) (AC _ _ _),AJ hHm (AJ hHm AB)⟩;refine AT 0 (α:=Unit) (λ_=>[(14,DL l),(15,AA l.length),(16,AA i),(3,AA i),(4,.iptr [AA x.format,AA x.start,.str x.template,AA x.restart])]) (λ_=>h) (λ_ m=>n<=m) (AR (AH ?_)) (λ_ m hm=>?_);by_cases a1:x.format<1;simp[go_sem,a1];exact out _ _;by_cases a2:7<x.format;simp[go_sem,a1,a2];exact out _ _;by_cases a3:x.start<0;simp[go_sem,a1,a2,a3];exact out _ _;by_cases a4:32767<x.start;simp[go_sem,a1,a2,a3,a4];exact out _ _;simp[go_sem,a1,a2,a3,a4,IO,hm];refine Bc 0 [(14,DL l),(15,AA l.length),(16,AA i),(3,AA i),(4,.iptr [AA x.format,AA x.start,.str x.template,AA x.restart])] h n (AH ?_) (λm hm=>?_);simp[go_sem,w1,-Int.natCast_add];refine(hc x hxm _).use ?_;rintro v ⟨e,rfl⟩;by_cases e0:e=0;simp[go_sem,e0,IO,hm];simp[go_sem,e0];exact out _ _;refine AH ?_;by_cases a1:x.restart<0;simp[go_sem,a1];exact out _ _;by_cases a2:(i:Int)<x.restart;simp[go_sem,a1,a2];exact out _ _;simp[go_sem,a1,a2,IO,hm];refine AH ?_;simp[go_sem,w1,IO,-Int.natCast_add];exact⟨i+1,by omega,⟨by omega,hm⟩,rfl⟩;refine AH ?_;simp[go_sem,hlt,hm];refine AH ?_;simp[go_sem];exact out _ _
theorem aQ (l:List Au) (i:Nat) (hi:i<l.length):PC 216 [AA i,.iptr [BZ l]] (AA (l[i]).id):=by
 intro h n;refine gq Tryz.func216 rfl λho=>?_;simp[go_sem,hi,Au.enc];exact As ho rfl rfl
theorem aP (x y:Au):PC 215 [y.enc,.iptr [AA x.id,AA x.parent,.str x.author,AA x.time,.str x.text,.bool x.done]] (.bool (decide (y.id=x.parent))):=by
 intro h n;refine gq Tryz.func215 rfl λho=>?_;simp[go_sem,Au.enc,AC];exact Ay ho (AQ ho (qa _) AB) (by by_cases h:y.id=x.parent<;>simp[h]) rfl
def trT:Tr:=.pure 0<|.pure 1<|.pure 3<|.pure 4<|.pure 6<|.pure 7<|.pure 11<|.pure 12<|.pure 16<|.pure 17<|.one 2<|.one 5<|.one 8<|.one 9<|.one 10<|.one 13<|.one 14<|.one 15<|.one 18<|.one 19<|.one 20<|.one 21 .nil
theorem cw (l:List Au) (hl:l.length<=1048576) (hs:∀x∈l,x.author.size<=1048576/\x.text.size<=1048576) (i:Nat) (hi:i<l.length):TC 213 [AA i,.iptr [BZ l]] FM:=by
 intro h n;refine Db Tryz.func213 rfl λho=>?_;have hHb:=ho.lt;obtain⟨x,hx⟩:∃x,l[i]=x:=⟨_,rfl⟩
 have hxs:=hs x (by rw[<-hx];exact ql hi);obtain⟨X,hX⟩:∃X:SV,X=.iptr [AA x.id,AA x.parent,.str x.author,AA x.time,.str x.text,.bool x.done]:=⟨_,rfl⟩
 refine Bp 0 [(0,AA i),(1,.iptr [BZ l])] h n ?_ (λm hm=>?_);simp[go_sem,IO];subst hm;refine AY 1 [(0,AA i),(1,.iptr [BZ l]),(4,X)] h n ?_ (λm hm=>?_);rw[hX];simp[go_sem,IO,hi,hx,Au.enc,AC];exact⟨AV (AW hHb (qa _)) (AC _ _ _),AJ hHb (AJ hHb AB)⟩;refine BM 0 (α:=Bx) (λb=>[(0,AA i),(1,.iptr [BZ l]),(4,X),(5,.bool b.b)]) (λ_=>h) (λ_ m=>n<=m) ?_ (λb m hm=>?_)
 . rw[hX];by_cases p0:x.parent=0;simp[go_sem,p0,IO,hm];exact⟨⟨_⟩,rfl⟩
   . have hle:i<=l.length:=by omega
     have hc:=aO (l.take i) (by simp;omega) 215 [] [.iptr [AA x.id,AA x.parent,.str x.author,AA x.time,.str x.text,.bool x.done]] (λj=>match(l.take i)[j]? with|some y=>decide (y.id=x.parent)|none=>false) (λj hj=>by rw[qf hj];exact aP x _);generalize Rc (λj=>match(l.take i)[j]? with|some y=>decide (y.id=x.parent)|none=>false) (l.take i).length=ba at hc;rw[kz]at hc;simp[go_sem,p0,hle,-List.map_take];refine qw hc ?_;simp[go_sem,IO,hm,p0];exact⟨⟨ba⟩,IO⟩
 obtain⟨b⟩:=b;dsimp only;refine AT 0 (α:=Int) (λe=>[(3,AA e)]) (λ_=>h) (λ_ m=>n<=m) (BX trT rfl (by kernel_rfl) (by kernel_rfl) ?_) (λe m hm=>?_);have hHm:∀j y,h j=some y->j<m:=λj y e=>by have:=hHb j y e;omega
 rw[hX];simp[go_sem,trT];have hF:∀j,j<=i->PC 216 ([]++[AA j]++[.iptr [BZ l]]) (AA (match l[j]? with|some r=>r.id|none=>0)):=λj hj=>by
  have hj2:j<l.length:=by omega
  simpa[hj2]using aQ l j hj2
 refine(V0 i (by omega) 216 [] [.iptr [BZ l]] (λj=>match l[j]? with|some r=>r.id|none=>0) hF).use ?_;generalize G1 (λj=>match l[j]? with|some r=>r.id|none=>0) i=e1;simp[go_sem];refine(JK _ _).use ?_;simp[go_sem];refine(XY x.author (by omega)).use ?_;simp[go_sem];refine(JK _ _).use ?_;simp[go_sem];refine(Jw _ _ _).use ?_;simp[go_sem];refine(JK _ _).use ?_;simp[go_sem];refine(Xf x.text (by omega)).use ?_;simp[go_sem];generalize(if b=false then(8:Int)else 0)=e2;generalize(if EN x.author=false then(39:Int)else 0)=e3;generalize(if x.time<0\/1099511627776<x.time then(40:Int)else 0)=e4;generalize OD x.text=e5;refine kU (bs:=[.imm 1 ([e1,e2,e3,e4,e5].map AA) false]) (h2:=h) 1 (AJ hHm AB) ⟨?_,trivial⟩ ?_;exact DV (es:=[AA e1,AA e2,AA e3,AA e4,AA e5]) (AW hHm (qa _)) (by simp) (by rw[AC];simp[SV.cells]) (by simp[SV.storable,SV.cells]);refine(Pw _ (by simp)).use ?_;simp[go_sem];exact⟨by omega,_,IO⟩;refine AH ?_;simp[go_sem];exact GQ ho AB (by simp[closed]) ⟨e,rfl⟩
section
variable {P : Program} {E : B6} {evs : Operand → SV} {o : Oper} {h : Hp} {n : Nat} {K : SV → Hp → Nat → Prop}
abbrev EJ (b:UInt8):SV:=.int .u8 b.toNat
theorem SE {src dst e:TypeId} {x:Operand} {s:ByteArray} (ho:o.op=.convert src dst x) (hs:FC P src=true) (hd:A9 P dst=some e) (he:Jl P e=some .u8) (hx:evs x=.str s)
 (hk:K (.imm 1 (s.data.toList.map EJ) false) h n):EI E P evs o h n K:=by
 refine⟨by rw[ho];simp,λc ev _ _ R F hv=>?_⟩;have hvx:=hv x;rw[hx]at hvx;have hvx:=Kq hvx;have hrun:=Lib.run_convert_string_bytes (P:=P) c.w src dst e s (FD hs) (A5 hd) (FY he);have hsz:=Lib.bytesWorld_size c.w e s;have X:DZ c { c with w:=Lib.bytesWorld c.w e s }:=by
  refine⟨λ_ _ e=>e,by simp[hsz],λb hb hn=>⟨hn,Lib.bytesWorld_at_old c.w e s b hb⟩,λb=>?_,?_,?_,?_,?_⟩;unfold rm;rcases ji b c.w.heap.size with hx|hx;simp only[Lib.bytesWorld_at_old c.w e s b hx];exact qa _;simp[jg hx];simp only[Lib.bytesWorld,World.freeze];split<;>rfl;simp only[Lib.bytesWorld,World.freeze];split<;>rfl;simp only[Lib.bytesWorld,World.freeze];split<;>rfl;simp only[Lib.bytesWorld,World.freeze];split<;>first|exact qa _|exact je _
 have hcap:s.size<=grownCap c.w s.size 0 e:=by unfold grownCap;exact Nat.le_add_right _ _
 have hlen:s.data.toList.length=s.size:=by rw[jU];rfl
 refine⟨.slice (some ⟨c.w.heap.size,0,none⟩) s.size (grownCap c.w s.size 0 e),.imm 1 (s.data.toList.map EJ) false,h,n,{ c with w:=Lib.bytesWorld c.w e s },by simp only[execOp,ho,hvx,Sem.run_bind,hrun,Result.andThen_ok,Sem.run_pure],?_,⟨λo x e=>(R.obj o x e).mono X λb hb=>?_,R.inj2,R.own2⟩,F,⟨X,qa _,λ_ _=>rfl⟩,hk⟩;rw[V];refine .inr ⟨⟨c.w.heap.size,0,none⟩,grownCap c.w s.size 0 e,s.data.toList.map (λb=>Value.int .u8 b.toNat),by simp[hlen],by simp[hlen];exact hcap,by simp,⟨λ_=>rfl,λ_ hb=>?_,λi x hi=>?_,λx hx=>?_⟩,?_⟩;obtain⟨o',x,e1,e2⟩:=(R.own2 _).1 hb;exact Nat.lt_irrefl _ ((R.obj o' x e1).hold_lt e2);rw[qO,qX]at hi;obtain⟨b,hb,rfl⟩:=hi;have hil:=(qo.1 hb).1;have:=Lib.bytesWorld_cell c.w e s i (by omega);rw[List.getD_eq_getElem?_getD,hb]at this;simpa using this;obtain⟨b,_,rfl⟩:=qy.1 hx;rfl;rw[Ho];refine⟨s.data.toList.map (λb=>Value.int .u8 b.toNat),AZ.map (R:=λa b=>a=b) (λa b e=>by subst e;simp[V]) ?_,?_,?_,?_⟩;have:∀l:List UInt8,AZ (λa b=>a=b) l l:=λl=>by induction l with|nil=>trivial|cons a l ih=>exact⟨rfl,ih⟩
 exact this _;intro u hu;obtain⟨b,_,rfl⟩:=qy.1 hu;rfl;intro u hu;obtain⟨b,_,rfl⟩:=qy.1 hu;rfl;have:∀l:List UInt8,l.map (λb=>Value.int .u8 b.toNat)=(l.map (λb=>Value.int .u8 b.toNat)).flatMap (·.cells.toList):=λl=>by induction l with|nil=>rfl|cons a l ih=>rw[qu,qK,<-ih];rfl
 exact this _;exact Lib.bytesWorld_at_old c.w _ s b ((R.obj o x e).hold_lt hb)
theorem MV {x:Operand} {ts:Array TypeId} {j off z len:Nat} {full:Bool} (ho:o.op=.call { callee:=.builtin .unsafeSliceData,args:=#[x],argTypes:=ts }) (hx:evs x=.sl j off z len full) (hl:len≠0)
 (hk:K (.ptr j off) h n):EI E P evs o h n K:=by
 refine⟨by rw[ho];simp,λc ev _ _ R F hv=>?_⟩;have hvx:=hv x;rw[hx,V]at hvx;obtain⟨b,st,cap,hρ,hu,hcap,_⟩:=hvx;refine⟨.pointer (some ⟨b,st+off,none⟩),.ptr j off,h,n,c,?_,by rw[V];exact⟨b,st,hρ,rfl⟩,R,F,ke n c,hk⟩;refine Bi (P:=P) (ev:=ev) ho _ _ _ λcs=>?_;have hr:=Lib.run_unsafeSliceData_row (P:=P) c.w ts o.type ⟨b,st+off,none⟩ len cap (by omega);simp only[BigFrame.builtin_unsafeSliceData,Sem.run_bind,Sem.run_pure];simp only[List.map_toArray,qu,qS,hu]at hr ⊢;rw[hr];rfl
theorem KL {x y:Operand} {pt it e:TypeId} {j:Nat} {bs:List UInt8} (ho:o.op=.call { callee:=.builtin .unsafeString,args:=#[x,y],argTypes:=#[pt,it] }) (hpt:P.underlying pt=some (.pointer e)) (hc:P.cellsOf e=1)
 (hx:evs x=.ptr j 0) (hy:evs y=.int .i64 bs.length) (hj:h j=some (.cells (bs.map EJ) (some e))) (hne:bs≠[]) (h63:bs.length<=9223372036854775807)
 (hk:K (.str ⟨bs.toArray⟩) (hset h j none) n):EI E P evs o h n K:=by
 refine⟨by rw[ho];simp,λc ev _ _ R F hv=>?_⟩;have hvx:=hv x;rw[hx,V]at hvx;obtain⟨b,st,hρ,hu⟩:=hvx;have hvy:=hv y;rw[hy]at hvy;have hvy:=C7 hvy;obtain⟨b',st',arr,e',vs,g1,g2,g3,g4,g5,g6⟩:=R.obj _ _ hj;rw[hρ]at g1;cases g1;obtain⟨hst,rfl⟩:=g6 e rfl;subst hst;have hl:=g4.length;rw[qd]at hl;have hblt:=(qp.1 g2).1;have hsz:bs.length<=arr.size:=by
  rcases Nat.eq_zero_or_pos bs.length with h0|h0;omega;have hlast:vs[bs.length-1]? = some vs[bs.length-1]:=qf (by omega);have:=(qp.1 (g3 _ _ hlast)).1;omega
 have hcell:∀i x,bs[i]? = some x->c.w.cell? ((⟨b,0,none⟩:Addr).add i)=some (.int .u8 x.toNat):=λi x hi=>by
  have h1:(bs.map EJ)[i]? = some (EJ x):=by rw[qO,hi];rfl
  obtain⟨v,hv1,hv2⟩:=g4.get h1;have:=C7 hv2;subst this;have h3:=g3 i _ hv1;rw[Cr rfl];simp only[World.cell?,g2];simpa using h3
 have hr:=Lib.run_unsafeString_row (P:=P) c.w pt it o.type e' hpt hc b arr.size (by simp[World.shape?,g2]) bs hne hsz h63 hcell;have hfz:∀k,k≠b->(c.w.freeze ⟨b,0,none⟩ bs.length).heap[k]? = c.w.heap[k]?:=λk hk=>by
  unfold World.freeze;split;rfl;simp only[jX];rw[if_neg (Ne.symm hk)]
 have hfs:(c.w.freeze ⟨b,0,none⟩ bs.length).heap.size=c.w.heap.size:=by unfold World.freeze;split<;>simp
 have hown:c.own b:=R.ownI ⟨j,_,0,hj,hρ⟩;have Rk:=R.kill j hj;have hrm:∀k,rm c.w k<=rm (c.w.freeze ⟨b,0,none⟩ bs.length) k:=λk=>by
  by_cases hk:k=b;subst hk;have h0:¬bs.length=0:=by simpa using hne
  unfold rm World.freeze;rw[if_neg h0];simp only[jX,if_true,g2,jk];exact qa _;unfold rm;rw[hfz k hk];exact qa _
 have hko:∀k,¬c.own k->¬(c.kill j).own k:=λk hk h2=>by
  obtain⟨o',x',e1,e2⟩:=(Rk.own2 k).1 h2;simp only[hset]at e1;split at e1;cases e1;exact hk ((R.own2 k).2 ⟨o',x',e1,e2⟩)
 have X:DZ c { (c.kill j)with w:=c.w.freeze ⟨b,0,none⟩ bs.length }:=
  ⟨λ_ _ e=>e,by simp[hfs],λk hk hn=>⟨hko k hn,hfz k (by rintro rfl;exact hn hown)⟩,hrm,by unfold World.freeze;split<;>rfl,by unfold World.freeze;split<;>rfl,⟨by unfold World.freeze;split<;>rfl,by unfold World.freeze;split<;>exact qa _⟩⟩
 refine⟨.string ⟨bs.toArray⟩,.str ⟨bs.toArray⟩,hset h j none,n,{ (c.kill j)with w:=c.w.freeze ⟨b,0,none⟩ bs.length },?_,by rw[V],⟨λo x e=>?_,Rk.inj2,Rk.own2⟩,F,⟨X,qa _,λ_ _=>rfl⟩,hk⟩;refine Bi (P:=P) (ev:=ev) ho _ _ _ λcs=>?_;simp only[BigFrame.builtin_unsafeString,Sem.run_bind,Sem.run_pure];simp only[List.map_toArray,qu,qS,hu,hvy,jJ]at hr ⊢;rw[hr];rfl;simp only[hset]at e;split at e;cases e;rename_i hoj;refine(R.obj o x e).mono0 X.to0 λk hk=>hfz k ?_;intro e0;rw[e0]at hk;exact hoj (R.inj2 o j x _ b e hj hk (.inl ⟨0,hρ⟩))
end
set_option maxRecDepth 100000 in
set_option maxHeartbeats 2000000 in
theorem Ug (b:Nat) (w:World) (h0:w.cell? ⟨b,2,none⟩=some (.pointer (some ⟨b,2,none⟩))):
 Calls Tryz.prog 335 #[.pointer (some ⟨b,2,none⟩)] w λe w'=>e=.returned (.tuple #[])/\w'=w:=by
 obtain⟨j,hj,_⟩:=qX.1 (show(Tryz.prog.info? 386).map (·.size)=some 2 by kernel_rfl)
 go_enter Tryz.func335,Tryz.ntmps335
 go_wp2
 rw[Lib.run_neq_ptr_same w _ Tryz.underlying384 hj]
 go_wp2
 go_end0
 exact⟨rfl,rfl⟩
theorem YY (m:Nat):liesAt Tryz.prog Tryz.prog.depth 388 (m+1) 2 386 1=true:=by kernel_rfl
theorem S4:Tryz.prog.cellsOf 388=7:=by kernel_rfl
set_option maxRecDepth 100000 in
set_option maxHeartbeats 2000000 in
theorem S3 (b k:Nat) (w:World) (h0:w.cell? ⟨b,2,none⟩=some (.pointer none)) (hsh:w.shape? b=some (388,k)) (hk:7<=k) (hfz:w.frozen? ⟨b,2,none⟩=false):
 Calls Tryz.prog 335 #[.pointer (some ⟨b,2,none⟩)] w λe w'=>e=.returned (.tuple #[])/\w'=w.setCell ⟨b,2,none⟩ (.pointer (some ⟨b,2,none⟩)):=by
 obtain⟨j,hj,hjs⟩:=qX.1 (show(Tryz.prog.info? 386).map (·.size)=some 2 by kernel_rfl);obtain⟨m,hm⟩:∃m,k / Tryz.prog.cellsOf 388=m+1:=⟨k / 7-1,by rw[S4];omega⟩
 have hlies:=YY m;rw[<-hm]at hlies
 go_enter Tryz.func335,Tryz.ntmps335
 go_wp2
 rw[Lib.run_to_unsafe w ⟨b,2,none⟩ Tryz.underlying384 Tryz.underlying403 hj (by rw[hjs];decide) hsh (by simp;omega)];simp only[Result.andThen];rw[Oper.upon_value]
 go_wp2
 rw[run_callFunc_extern Tryz.func341 (by kernel_rfl) (by kernel_rfl) (by kernel_rfl) (e:=Extern.AbiNoEscape.same) (by kernel_rfl)];rw[Lib.run_noEscape];simp only[Result.andThen];rw[Oper.upon_value]
 go_wp2
 rw[Lib.run_from_unsafe w ⟨b,2,none⟩ Tryz.underlying403 Tryz.underlying384 hj hsh hlies];simp only[Result.andThen];rw[Oper.upon_value]
 go_wp2
 go_end0
 exact⟨rfl,rfl⟩
theorem Yc:Kk Tryz.prog 335=true:=by unfold Kk;rw[Tryz.func335];kernel_rfl
theorem bv {H:Hp} {n q:Nat} {a b p buf:SV} {r:List SV} (hH:H q=some (.cells (a::b::p::buf::r) (some 388))) (hp:p=.nilp\/p=.ptr q 2) (hr:r.length=3):
 BA Tryz.prog 335 [.ptr q 2] H n (λv h' n'=>v=.tup []/\h'=hset H q (some (.cells (a::b::.ptr q 2::buf::r) (some 388)))/\n'=n):=by
 refine⟨Yc,λc vs _ R F A=>?_⟩;obtain⟨u,rfl,hv⟩:=A.single;rw[V]at hv;obtain⟨b0,st,hρ,rfl⟩:=hv;obtain⟨b',st',arr,e,us,g1,g2,g3,g4,g5,g6⟩:=R.obj q _ hH;rw[hρ]at g1;cases g1;obtain⟨hst,rfl⟩:=g6 388 rfl;subst hst;obtain⟨v2,hv2,hvp⟩:=g4.get (i:=2) (a:=p) rfl;have h2:=g3 2 _ hv2;have hcell:c.w.cell? ⟨b0,2,none⟩=some v2:=by simp only[World.cell?,g2];simpa using h2
 have hlen:=g4.length;simp only[qF,hr]at hlen;have hsz:7<=arr.size:=by
  have hlast:us[6]? = some us[6]:=qf (by omega);have:=(qp.1 (g3 _ _ hlast)).1;omega
 have hself:V c (.ptr q 2) (.pointer (some ⟨b0,2,none⟩)):=by rw[V];exact⟨b0,0,hρ,by simp⟩
 simp only[jc];rcases hp with rfl|rfl;rw[V]at hvp;subst hvp;obtain⟨w',hrun,R',X⟩:=Ig (P:=Tryz.prog) (off:=2) (xs:=[.ptr q 2]) (us:=[.pointer (some ⟨b0,2,none⟩)]) R hH hρ (by simp) (by simp) ⟨hself,trivial⟩ (by simp[Value.oneCell']);have hrun2:=run_storeCells_cells (P:=Tryz.prog) b0 2 [.pointer (some ⟨b0,2,none⟩)] 0 c.w (by intro j hj;simp at hj;subst hj;simp[hcell]) (by intro j hj;simp at hj;subst hj;simp[World.frozen?,g2]) (by simp[Value.oneCell']);simp only[jc,jJ]at hrun hrun2;rw[hrun]at hrun2;simp only[Result.ok.injEq,true_and]at hrun2;refine(S3 b0 arr.size c.w hcell (by simp[World.shape?,g2]) hsz (by simp[World.frozen?,g2])).mono ?_;rintro e w2 ⟨rfl,rfl⟩;have hw:w'=c.w.setCell ⟨b0,2,none⟩ (.pointer (some ⟨b0,2,none⟩)):=by rw[hrun2];rfl
 subst hw;exact⟨.tuple #[],.tup [],_,n,{ c with w:=c.w.setCell ⟨b0,2,none⟩ (.pointer (some ⟨b0,2,none⟩)) },rfl,⟨rfl,rfl,rfl⟩,rfl,by simp[V,VL],by simpa using R',F,⟨X,qa _,λ_ _=>rfl⟩⟩;rw[V]at hvp;obtain⟨b1,st1,hρ1,rfl⟩:=hvp;rw[hρ]at hρ1;cases hρ1;have hself2:hset H q (some (.cells (a::b::.ptr q 2::buf::r) (some 388)))=H:=by
  funext k;by_cases hk:k=q;subst hk;rw[O1,hH];simp[hset,hk]
 refine(Ug b0 c.w (by simpa using hcell)).mono ?_;rintro e w2 ⟨rfl,rfl⟩;exact⟨.tuple #[],.tup [],_,n,c,rfl,⟨rfl,hself2.symm,rfl⟩,rfl,by simp[V,VL],R,F,ke n c⟩
def Ep (ob:Option Nat) (bs:List UInt8):SV:=AM 1 ob (bs.map EJ)
theorem Zh {H:Hp} {k p:Nat} {ob:Option Nat} {bs:List UInt8} {x:UInt8} (h0:ob=none->bs=[]) (h1:H k=some (.cells [EJ x])) (h2:∀j,ob=some j->H j=some (.cells (bs.map EJ) (some 5))) (hroom:bs.length+1<=1073741824):
 AU Tryz.prog H p .append [381,381] [Ep ob bs,.sl k 0 1 1 true]=some { val:=.sl p 0 1 (bs.length+1) false,upd:=ob.map λj=>(j,none),new:=some (.cells ((bs++[x]).map EJ) (some 5)) }:=by
 have e1:A9 Tryz.prog 381=some 5:=by simp[go_sem]
 have e2:Bh Tryz.prog 5=1:=by simp[go_sem]
 have e3:(BH Tryz.prog 5).storable=true:=by simp[go_sem]
 have e4:(BH Tryz.prog 5).cells.length=1:=by simp[go_sem]
 have e5:BY Tryz.prog 5<=65536:=by simp[go_sem]
 have e6:Gq 5=some 5:=by rfl
 have hfl:flat H (.sl k 0 1 1 true)=some [EJ x]:=by simp[flat,h1,Bg]
 have hr:C4 (bs.length+1) (BY Tryz.prog 5)=true:=by simp only[C4,qq,decide_eq_true_eq];exact⟨by omega,e5⟩
 simp only[AU,e1,jE,if_true,Cm,Dw,hfl,e2,e3,e4];cases ob with
 | none=>
  have:=h0 rfl;subst this;simp[Ep,AM,Hd,e6];simpa using hr
 | some j=>
  have hj:=h2 j rfl;have hf:flat H (.sl j 0 1 bs.length false)=some (bs.map EJ):=by simp[flat,hj,Bg];exact qB (by simp)
  have ht:HI H 5 j 0=some 5:=by simp[HI,e6,Wy,hj]
  simp[Ep,AM,Hd,hf,hr,ht]
theorem bu {G:Hp} {n q:Nat} {a at_ p pr pl e:SV} {ob:Option Nat} {bs:List UInt8} {x:UInt8} (hG:G q=some (.cells [a,at_,p,Ep ob bs,pr,pl,e] (some 388))) (hp:p=.nilp\/p=.ptr q 2)
 (h0:ob=none->bs=[]) (h2:∀j,ob=some j->j≠q/\G j=some (.cells (bs.map EJ) (some 5))) (hroom:bs.length+1<=1073741824):
 BA Tryz.prog 329 [.ptr q 2,EJ x] G n (λ_ h' n'=>∃j,(∀o y,o≠q->ob≠some o->G o=some y->h' o=some y)/\h' q=some (.cells [a,at_,.ptr q 2,Ep (some j) (bs++[x]),pr,pl,e] (some 388))/\
  h' j=some (.cells ((bs++[x]).map EJ) (some 5))/\n<=j/\j<n'):=by
 refine Db Tryz.func329 rfl λho=>?_;have hqn:q<n:=(ho q _ hG).1;have hjn:∀j,ob=some j->j<n:=λj e=>(ho j _ (h2 j e).2).1;refine Bp 0 [(0,.ptr q 2),(1,EJ x)] G n ?_ (λm hm=>?_);simp[go_sem,IO];subst hm;refine Bp 0 [(0,.ptr q 2),(1,EJ x)] (hset G q (some (.cells [a,at_,.ptr q 2,Ep ob bs,pr,pl,e] (some 388)))) n ?_ (λm hm=>?_);simp[go_sem];refine qC (bv hG hp rfl) ?_;rintro v H' n' ⟨rfl,rfl,rfl⟩;simp[go_sem,IO];subst hm;refine AH ?_;have hne:q≠n:=by omega
 have hne1:q≠n+1:=by omega
 simp[go_sem,AC];have hap:∀p,AU Tryz.prog (hset (hset G q (some (.cells [a,at_,.ptr q 2,Ep ob bs,pr,pl,e] (some 388)))) n (some (.cells [EJ x]))) p .append [381,381] [Ep ob bs,.sl n 0 1 1 true]=_:=λp=>
  Zh h0 (AC _ _ _) (λj e=>by rw[AD _ _ (by have:=hjn j e;omega),AD _ _ (h2 j e).1];exact(h2 j e).2) hroom
 have hbv:Ep (some (n+1)) (bs++[x])=.sl (n+1) 0 1 (bs.length+1) false:=by simp[Ep,AM]
 cases ob with
 | none=>
  simp[go_sem,hap,AC,AD,hne,hne1];refine .inl ⟨λo y h1 h3=>?_,n+1,by rw[AC,hbv],by rw[AD _ _ (Ne.symm hne1),AC],by omega,by omega⟩;have:=(ho o y h3).1;rw[AD _ _ h1,AD _ _ (by omega),AD _ _ (by omega),AD _ _ h1];exact h3
 | some j=>
  have hjq:=(h2 j rfl).1;have hjl:=hjn j rfl;have hqj:q≠j:=Ne.symm hjq;simp[go_sem,hap,AC,AD,hne,hne1,hqj];refine .inl ⟨λo y h1 h2 h3=>?_,n+1,by rw[AC,hbv],by rw[AD _ _ (Ne.symm hne1),AC],by omega,by omega⟩;have:=(ho o y h3).1;rw[AD _ _ h1,AD _ _ (by omega),AD _ _ (Ne.symm h2),AD _ _ (by omega),AD _ _ h1];exact h3
theorem V8:Tryz.prog.cellsOf 5=1:=by kernel_rfl
theorem Xy {G:Hp} {n q:Nat} {a at_ p pr pl e:SV} {ob:Option Nat} {bs:List UInt8} (hG:G q=some (.cells [a,at_,p,Ep ob bs,pr,pl,e] (some 388))) (h0:ob=none->bs=[]):
 BA Tryz.prog 336 [.ptr q 2] G n (λv h' n'=>v=AA bs.length/\h'=G/\n'=n):=by
 refine Db Tryz.func336 rfl λho=>?_;have hqn:q<n:=(ho q _ hG).1;refine AH ?_;cases ob with
 | none=>
  have:=h0 rfl;subst this;simp[go_sem,hG,Ep,AM];exact As ho rfl rfl
 | some j=>
  simp[go_sem,hG,Ep,AM];exact As ho rfl rfl
def Y3:Tr:=.pure 0 (.pure 1 (.pure 2 (.pure 5 (.pure 6 (.pure 7 (.two 3 8 (.two 4 8 (.one 8 (.one 9 (.one 10 (.one 11 .nil)))) (.two 4 9 (.one 9 (.one 10 (.one 11 .nil))) (.one 4 (.one 10 (.one 11 .nil))))) (.two 3 9 (.two 4 9 (.one 9 (.one 10 (.one 11 .nil))) (.one 4 (.one 10 (.one 11 .nil)))) (.one 3 (.one 4 (.one 10 (.one 11 .nil)))))))))))
theorem bw {G:Hp} {n q j:Nat} {a at_ p pr pl e:SV} {bs:List UInt8} (hG:G q=some (.cells [a,at_,p,Ep (some j) bs,pr,pl,e] (some 388))) (hj:G j=some (.cells (bs.map EJ) (some 5))) (_hjq:j≠q) (hne:bs≠[]) (hlen:bs.length<=1073741824):
 BA Tryz.prog 337 [.ptr q 2] G n (λv h' n'=>v=.str ⟨bs.toArray⟩/\h'=hset G j none/\n'=n):=by
 refine Db Tryz.func337 rfl λho=>?_;have hqn:q<n:=(ho q _ hG).1;have hl0:bs.length≠0:=by simpa using hne
 refine Bp 0 [(0,.ptr q 2)] G n ?_ (λm hm=>?_);simp[go_sem,IO];subst hm;refine AT 0 (α:=Unit) (λ_=>[(2,.str ⟨bs.toArray⟩)]) (λ_=>hset G j none) (λ_ m=>n=m) (BX Y3 rfl (by kernel_rfl) (by kernel_rfl) ?_) (λ_ m hm=>?_)
 . have hb:Ep (some j) bs=.sl j 0 1 bs.length false:=by simp[Ep,AM]
   rw[hb]at hG;simp[go_sem,Y3,hG];have hA:∀{E:B6} {evs:Operand->SV} {o:Oper} {n:Nat} {K:SV->Hp->Nat->Prop} {x:Operand} {ts:Array TypeId},o.op=.call { callee:=.builtin .unsafeSliceData,args:=#[x],argTypes:=ts }->evs x=.sl j 0 1 bs.length false->K (.ptr j 0) G n->EI E Tryz.prog evs o G n K:=λe1 e2 k=>MV e1 e2 hl0 k;have hB:∀{E:B6} {evs:Operand->SV} {o:Oper} {n:Nat} {K:SV->Hp->Nat->Prop} {x y:Operand} {it:TypeId},o.op=.call { callee:=.builtin .unsafeString,args:=#[x,y],argTypes:=#[405,it] }->evs x=.ptr j 0->evs y=AA bs.length->K (.str ⟨bs.toArray⟩) (hset G j none) n->EI E Tryz.prog evs o G n K:=λe1 e2 e3 k=>KL e1 Tryz.underlying405 V8 e2 e3 hj hne (by omega) k;refine⟨⟨?_,?_,?_⟩,⟨?_,?_⟩,?_⟩
   all_goals
    refine hA rfl rfl ?_;simp[go_sem,hG];refine hB rfl rfl rfl ?_;simp[go_sem,IO]
 subst hm;refine AH ?_;simp[go_sem];refine .inl ⟨rfl,rfl,rfl⟩
theorem bx {G:Hp} {n q:Nat} {a at_ p b pr pl e:SV} (hG:G q=some (.cells [a,at_,p,b,pr,pl,e] (some 388))):
 BA Tryz.prog 338 [.ptr q 2] G n (λv h' n'=>v=.tup []/\h'=hset G q (some (.cells [a,at_,.nilp,.imm 0 [] true,pr,pl,e] (some 388)))/\n'=n):=by
 refine Db Tryz.func338 rfl λho=>?_;refine AH ?_;simp[go_sem,hG,AC,AS];refine .inl ⟨rfl,rfl,rfl⟩
theorem Nb {E:B6} {N:Nat} {a:Code} {Q:Ce} {sa:SA} {h:Hp} {n:Nat} (H:Es h n->SP E N a Q sa h n):SP E N a Q sa h n:=
 λhd c act I R F A=>H (λo x e=>HP F (R.obj o x e)) hd c act I R F A
structure ZJ (G:Hp) (q B:Nat) (s:ByteArray) (at_:Int) (bs:List UInt8) (ps:List B7) (pl e:Int) (p:SV) (ob op:Option Nat):Prop where
 le:B<=q
 cells:G q=some (.cells [.str s,AA at_,p,Ep ob bs,AM 3 op (ps.map B7.enc),AA pl,AA e] (some 388))
 p:p=.nilp\/p=.ptr q 2
 b0:ob=none->bs=[]
 b1:∀j,ob=some j->B<=j/\j≠q/\bs≠[]/\G j=some (.cells (bs.map EJ) (some 5))
 o0:op=none->ps=[]
 o1:∀j,op=some j->B<=j/\j≠q/\ob≠some j/\G j=some (.cells ((ps.map B7.enc).flatMap SV.cells))
def Sb (G:Hp) (q B:Nat) (s:ByteArray) (at_:Int) (bs:List UInt8) (ps:List B7) (pl e:Int):Prop:=∃p ob op,ZJ G q B s at_ bs ps pl e p ob op
def VN (q B:Nat) (s:ByteArray) (G:Hp) (n:Nat) (R:Int->List UInt8->List B7->Int->Int->Prop):SV->Hp->Nat->Prop:=λ_ h' n'=>
 ∃at_ bs ps pl e,R at_ bs ps pl e/\Sb h' q B s at_ bs ps pl e/\(∀o y,o<B->G o=some y->h' o=some y)/\n<=n'
theorem B7.len (p:B7):p.enc.cells.length=3:=rfl
theorem B7.size (ps:List B7):∀e∈ps.map B7.enc,e.storable=true/\e.cells.length=3:=λe he=>by obtain⟨x,_,rfl⟩:=qy.1 he;exact⟨rfl,rfl⟩
theorem XP {X:Hp} {k p:Nat} {op:Option Nat} {ps:List B7} {x:B7} (h0:op=none->ps=[]) (h1:X k=some (.cells x.enc.cells)) (h2:∀j,op=some j->X j=some (.cells ((ps.map B7.enc).flatMap SV.cells))) (hroom:ps.length+1<=1073741824):
 AU Tryz.prog X p .append [361,361] [AM 3 op (ps.map B7.enc),.sl k 0 3 1 true]=some { val:=.sl p 0 3 (ps.length+1) false,upd:=op.map λj=>(j,none),new:=some (.cells ((ps.map B7.enc).flatMap SV.cells++x.enc.cells)) }:=by
 have hA:Ar 0 ((op.getD 0)+1) 3 op (ps.map B7.enc):=⟨λe=>by rw[h0 e];rfl,λj e=>by rw[e];simp,B7.size ps⟩
 have:=Dp (P:=Tryz.prog) (H:=X) (t:=361) (t2:=361) (el:=366) (e:=x.enc) (by simp[go_sem]) (by simp[go_sem]) (by simp[go_sem]) (by simp) (by simp[go_sem]) (by simp[go_sem]) (by simp[go_sem]) (by simpa using hroom) hA (B7.len x) h1 h2 p;simpa using this
def ZG (G:Hp) (B q n:Nat) (C:Nat->List SV) (es:List SV) (z:Hp×Nat) (m:Nat):Prop:=
 n<=m/\z.1 q=some (.cells (C z.2) (some 388))/\z.1 z.2=some (.cells (es.flatMap SV.cells))/\n<=z.2/\z.2<m/\∀o y,o<B->G o=some y->z.1 o=some y
def Ww:Tr:=.pure 0 (.pure 1 (.pure 2 (.pure 3 (.pure 5 (.pure 6 (.pure 7 (.two 4 8 (.one 8 (.one 9 (.one 10 (.one 11 (.one 12 (.one 13 (.one 14 .nil))))))) (.two 4 9 (.one 9 (.one 10 (.one 11 (.one 12 (.one 13 (.one 14 .nil)))))) (.two 4 10 (.one 10 (.one 11 (.one 12 (.one 13 (.one 14 .nil))))) (.one 4 (.one 11 (.one 12 (.one 13 (.one 14 .nil))))))))))))))
set_option maxHeartbeats 1000000 in
theorem Xv {G:Hp} {n q B:Nat} {s:ByteArray} {at_ pl e:Int} {bs:List UInt8} {ps:List B7} (S:Sb G q B s at_ bs ps pl e) (hb:bs.length<=1048576) (hps:ps.length<=1048576):
 BA Tryz.prog 330 [.ptr q 0] G n (VN q B s G n λat' bs' ps' pl' e'=>at'=at_/\bs'=[]/\ps'.length<=ps.length+1/\pl'=pl/\e'=e):=by
 refine Db Tryz.func330 rfl λho=>?_;obtain⟨p,ob,op,S⟩:=S;have hqn:q<n:=(ho q _ S.cells).1;by_cases c:bs=[];refine Bp 0 [(0,.ptr q 0),(6,.bool false)] G n ?_ (λm hm=>?_);simp[go_sem];refine qC (Xy S.cells S.b0) ?_;rintro v H' n' ⟨rfl,rfl,rfl⟩;simp[go_sem,IO,c];subst hm;refine AH ?_;simp[go_sem];exact .inl ⟨at_,[],ps,pl,e,⟨rfl,rfl,by omega,rfl,rfl⟩,⟨p,ob,op,by rw[<-c];exact S⟩,λo y _ h=>h,qa _⟩;refine Bp 0 [(0,.ptr q 0),(6,.bool true)] G n ?_ (λm hm=>?_);simp[go_sem];refine qC (Xy S.cells S.b0) ?_;rintro v H' n' ⟨rfl,rfl,rfl⟩;have:0<bs.length:=by cases bs<;>simp at c ⊢
 simp[go_sem,IO,this];subst hm;refine Ah (b:=true) (by simp[go_sem]) ?_;simp only[if_true];cases ob with
 | none=>exact absurd (S.b0 rfl) c
 | some j=>
 obtain⟨j1,j2,j3,j4⟩:=S.b1 j rfl;have hjn:j<n:=(ho j _ j4).1;have hcells:=S.cells;have x1:q≠j:=Ne.symm j2;have x2:q≠n:=by omega
 have x3:q≠n+1:=by omega
 obtain⟨x,hx⟩:∃x:B7,x=⟨⟨bs.toArray⟩,0,false⟩:=⟨_,rfl⟩
 obtain⟨E,hE⟩:∃E,E=(ps++[x]).map B7.enc:=⟨_,rfl⟩
 have hle:=S.le;refine AT 0 (α:=Hp×Nat) (λ_=>[(0,.ptr q 0)]) (λz=>z.1) (ZG G B q n (λk=>[.str s,AA at_,p,Ep (some j) bs,AM 3 (some k) E,AA pl,AA e]) E)
  (BX Ww rfl (by kernel_rfl) (by kernel_rfl) ?_) (λz m hm=>?_)
 have hap:∀(X:Hp) (k p:Nat),X k=some (.cells [.str ⟨bs.toArray⟩,AA 0,.bool false])->(∀j,op=some j->X j=some (.cells ((ps.map B7.enc).flatMap SV.cells)))->_:=λX k p g1 g2=>XP (x:=x) (p:=p) S.o0 (by rw[hx];exact g1) g2 (by omega);have hfin:∀(X:Hp),X q=some (.cells [.str s,AA at_,p,Ep (some j) bs,.sl (n+1) 0 3 (ps.length+1) false,AA pl,AA e] (some 388))->X (n+1)=some (.cells ((ps.map B7.enc).flatMap SV.cells++x.enc.cells))->(∀o y,o<B->G o=some y->X o=some y)->
  ZG G B q n (λk=>[.str s,AA at_,p,Ep (some j) bs,AM 3 (some k) E,AA pl,AA e]) E (X,n+1) (n+2):=λX g1 g2 g3=>⟨by omega,by show X q=_;rw[g1,hE];simp[AM],by show X (n+1)=_;rw[g2,hE];simp,by show n<=n+1;omega,by show n+1<n+2;omega,g3⟩
 have step:Ak (B6.plain.call false 0) Tryz.prog 337 [.ptr q 2] G n (λv h' n'=>v=.str ⟨bs.toArray⟩/\h'=hset G j none/\n=n'):=qC (bw hcells j4 j2 j3 (by omega)) λv h' n' ⟨a,b,c⟩=>⟨a,b,c.symm⟩
 cases op with
 | none =>
  have leaf:∃a,(∃x_1,ZG G B q n (λk=>[.str s,AA at_,p,Ep (some j) bs,AM 3 (some k) E,AA pl,AA e]) E (a,x_1) (n+1+1))/\∀(o:Nat) (y:BT),a o=some y->hset (hset (hset (hset G j none) n (some (BT.cells [.str ⟨bs.toArray⟩,AA 0,.bool false]))) (n+1) (some (.cells (List.flatMap SV.cells (List.map B7.enc ps)++x.enc.cells)))) q (some (.cells [.str s,AA at_,p,Ep (some j) bs,.sl (n+1) 0 3 (ps.length+1) false,AA pl,AA e] (some 388))) o=some y:=
   ⟨_,⟨_,hfin _ (AC _ _ _) ((AD _ _ (Ne.symm x3)).trans (AC _ _ _)) λo y g1 g2=>by have:=(ho o y g2).1;rw[AD _ _ (by omega),AD _ _ (by omega),AD _ _ (by omega),AD _ _ (by omega)];exact g2⟩,AB⟩
  simp[go_sem,Ww,hcells];refine⟨?_,?_⟩;refine kS step ?_;rintro v H' n' ⟨rfl,rfl,rfl⟩;simp[go_sem,hap,AC,AD,hcells,x1,x2,x3];exact leaf;refine kS step ?_;rintro v H' n' ⟨rfl,rfl,rfl⟩;simp[go_sem,hap,AC,AD,hcells,x1,x2,x3];exact leaf
 | some i =>
  obtain⟨i1,i2,i3,i4⟩:=S.o1 i rfl;have hin:i<n:=(ho i _ i4).1;have hij:i≠j:=by rintro rfl;exact i3 rfl
  have y1:i≠n:=by omega
  have y2:q≠i:=Ne.symm i2;have leaf:∃a,(∃x_1,ZG G B q n (λk=>[.str s,AA at_,p,Ep (some j) bs,AM 3 (some k) E,AA pl,AA e]) E (a,x_1) (n+1+1))/\∀(o:Nat) (y:BT),a o=some y->hset (hset (hset (hset (hset G j none) n (some (BT.cells [.str ⟨bs.toArray⟩,AA 0,.bool false]))) i none) (n+1) (some (.cells (List.flatMap SV.cells (List.map B7.enc ps)++x.enc.cells)))) q (some (.cells [.str s,AA at_,p,Ep (some j) bs,.sl (n+1) 0 3 (ps.length+1) false,AA pl,AA e] (some 388))) o=some y:=
   ⟨_,⟨_,hfin _ (AC _ _ _) ((AD _ _ (Ne.symm x3)).trans (AC _ _ _)) λo y g1 g2=>by have:=(ho o y g2).1;rw[AD _ _ (by omega),AD _ _ (by omega),AD _ _ (by omega),AD _ _ (by omega),AD _ _ (by omega)];exact g2⟩,AB⟩
  simp[go_sem,Ww,hcells];refine⟨?_,?_⟩;refine kS step ?_;rintro v H' n' ⟨rfl,rfl,rfl⟩;simp[go_sem,hap,AC,AD,hcells,x1,x2,x3,y1,y2,hij,i4];exact leaf;refine kS step ?_;rintro v H' n' ⟨rfl,rfl,rfl⟩;simp[go_sem,hap,AC,AD,hcells,x1,x2,x3,y1,y2,hij,i4];exact leaf
 obtain⟨H,k⟩:=z;obtain⟨m1,m2,m3,m4,m5,m6⟩:=hm;dsimp only at m2 m3 m4 m6 ⊢;rw[hE]at m2 m3;refine AH ?_;simp[go_sem];refine qC (bx m2) ?_;rintro v H' n' ⟨rfl,rfl,rfl⟩;simp[go_sem];have:=S.le;refine .inl ⟨at_,[],ps++[x],pl,e,⟨rfl,rfl,?_,rfl,rfl⟩,⟨.nilp,none,some k,⟨S.le,by rw[AC];simp[Ep,AM],.inl rfl,λ_=>rfl,by simp,by simp,?_⟩⟩,λo y g1 g2=>?_,by omega⟩;simp;rintro i hi;cases hi;exact⟨by omega,by omega,by simp,by rw[AD _ _ (by omega)];exact m3⟩;rw[AD _ _ (by omega)];exact m6 o y g1 g2
def DgQ (s:ByteArray) (k:Int) (G:Hp) (n:Nat):SV->Hp->Nat->Prop:=λv h' n'=>(∃b,v=.bool b/\(b=true->k<s.size))/\h'=G/\n'=n
theorem Xw {G:Hp} {n q B:Nat} {s:ByteArray} {at_ pl e:Int} {bs:List UInt8} {ps:List B7} (S:Sb G q B s at_ bs ps pl e) (k:Int) (hk:0<=k):
 BA Tryz.prog 333 [.ptr q 0,AA k] G n (DgQ s k G n):=by
 refine Db Tryz.func333 rfl λho=>?_;obtain⟨p,ob,op,S⟩:=S;have hc:=S.cells;refine AH ?_;by_cases c:k<s.size;have hkl:k.toNat<s.size:=by omega
 obtain⟨x,hx⟩:∃x,s[k.toNat]'hkl=x:=⟨_,rfl⟩
 have hb:s[k.toNat]? = some x:=by rw[Sv hkl,hx]
 by_cases c1:(49:Int)<=x.toNat;simp[go_sem,hc,c,hk,hx,c1];exact .inl ⟨⟨_,rfl,λ_=>c⟩,rfl,rfl⟩;simp[go_sem,hc,c,hk,hx,c1];exact .inl ⟨⟨_,rfl,λ_=>c⟩,rfl,rfl⟩;simp[go_sem,hc,c];exact .inl ⟨⟨false,rfl,by simp⟩,rfl,rfl⟩
def ZI (G:Hp) (B q n:Nat) (s:ByteArray) (at_ pl e:Int) (N:Nat) (z:Hp×List B7) (m:Nat):Prop:=n<=m/\Sb z.1 q B s at_ [] z.2 pl e/\z.2.length<=N/\∀o y,o<B->G o=some y->z.1 o=some y
set_option maxHeartbeats 1000000 in
theorem Xx {G:Hp} {n q B:Nat} {s:ByteArray} {at_ pl e d:Int} {b:Bool} {bs:List UInt8} {ps:List B7} (S:Sb G q B s at_ bs ps pl e) (hb:bs.length<=1048576) (hps:ps.length<=1048576):
 BA Tryz.prog 334 [.ptr q 0,.int .u8 d,.bool b] G n (VN q B s G n λat' bs' ps' _ e'=>at'=at_/\bs'=[]/\ps'.length<=ps.length+2/\e'=e):=by
 refine Db Tryz.func334 rfl λho=>?_
 refine BM 0 (α:=Hp×List B7) (λ_=>[(0,.ptr q 0),(1,.int .u8 d),(2,.bool b)]) (λz=>z.1) (ZI G B q n s at_ pl e (ps.length+1)) ?_ (λz m hm=>?_)
 . simp[go_sem]
   refine qC (Xv S hb hps) ?_
   rintro v H' n' ⟨a1,a2,a3,a4,a5,⟨rfl,rfl,r3,rfl,rfl⟩,r6,r7,r8⟩
   simp[go_sem,IO]
   exact⟨H',⟨a3,r8,r6,r3,r7⟩,AB⟩
 obtain⟨X,ps1⟩:=z
 obtain⟨hm,S1,hl1,hk1⟩:=hm
 dsimp only at S1 hl1 hk1 ⊢
 refine Nb λhX=>?_
 have hlt:∀o y,X o=some y->o<m:=λo y e=>(hX o y e).1
 refine BM 0 (α:=Hp×List B7) (λ_=>[(0,.ptr q 0)]) (λz=>z.1) (ZI G B q n s at_ pl e (ps.length+2)) ?_ (λz m hm=>?_)
 . have hle0:=S1.choose_spec.choose_spec.choose_spec.le
   obtain⟨p,ob,op,S1⟩:=S1
   cases ob with
   | some j=>exact absurd rfl (S1.b1 j rfl).2.2.1
   | none=>
   have hcells:=S1.cells
   obtain⟨x,hx⟩:∃x:B7,x=⟨.empty,IntKind.i64.wrap (IntKind.u8.wrap (d-48)),b⟩:=⟨_,rfl⟩
   have hap:∀(X:Hp) (k p:Nat),X k=some (.cells [.str .empty,AA (IntKind.i64.wrap (IntKind.u8.wrap (d-48))),.bool b])->(∀j,op=some j->X j=some (.cells ((ps1.map B7.enc).flatMap SV.cells)))->_:=λX k p g1 g2=>XP (x:=x) (p:=p) S1.o0 (by rw[hx];exact g1) g2 (by omega)
   have hqm:q<m:=hlt q _ hcells
   have x2:q≠m:=by omega
   have x3:q≠m+1:=by omega
   have hsc:∀(Y:Hp),Y q=some (.cells [.str s,AA at_,p,Ep none [],.sl (m+1) 0 3 (ps1.length+1) false,AA pl,AA e] (some 388))->Y (m+1)=some (.cells ((ps1.map B7.enc).flatMap SV.cells++x.enc.cells))->Sb Y q B s at_ [] (ps1++[x]) pl e:=λY g1 g2=>
    ⟨p,none,some (m+1),S1.le,by rw[g1];simp[AM],S1.p,λ_=>rfl,by simp,by simp,by rintro i hi;cases hi;exact⟨by omega,by omega,by simp,by rw[g2];simp⟩⟩
   cases op with
   | none =>
    have leaf:∃a,(∃x_1,ZI G B q n s at_ pl e (ps.length+2) (a,x_1) (m+1+1))/\∀(o:Nat) (y:BT),a o=some y->hset (hset (hset X m (some (BT.cells [.str .empty,AA (IntKind.i64.wrap (IntKind.u8.wrap (d-48))),.bool b]))) (m+1) (some (.cells (List.flatMap SV.cells (List.map B7.enc ps1)++x.enc.cells)))) q (some (.cells [.str s,AA at_,p,Ep none [],.sl (m+1) 0 3 (ps1.length+1) false,AA pl,AA e] (some 388))) o=some y:=
     ⟨_,⟨ps1++[x],by omega,hsc _ (AC _ _ _) ((AD _ _ (Ne.symm x3)).trans (AC _ _ _)),by simp;omega,λo y g1 g2=>by have:=(ho o y g2).1;dsimp only;rw[AD _ _ (by omega),AD _ _ (by omega),AD _ _ (by omega)];exact hk1 o y g1 g2⟩,AB⟩
    simp[go_sem,hcells,AC,AD,x2,x3,hap]
    exact leaf
   | some i =>
    obtain⟨i1,i2,i3,i4⟩:=S1.o1 i rfl
    have hin:i<m:=hlt i _ i4
    have y1:i≠m:=by omega
    have y2:q≠i:=Ne.symm i2
    have leaf:∃a,(∃x_1,ZI G B q n s at_ pl e (ps.length+2) (a,x_1) (m+1+1))/\∀(o:Nat) (y:BT),a o=some y->hset (hset (hset (hset X m (some (BT.cells [.str .empty,AA (IntKind.i64.wrap (IntKind.u8.wrap (d-48))),.bool b]))) i none) (m+1) (some (.cells (List.flatMap SV.cells (List.map B7.enc ps1)++x.enc.cells)))) q (some (.cells [.str s,AA at_,p,Ep none [],.sl (m+1) 0 3 (ps1.length+1) false,AA pl,AA e] (some 388))) o=some y:=
     ⟨_,⟨ps1++[x],by omega,hsc _ (AC _ _ _) ((AD _ _ (Ne.symm x3)).trans (AC _ _ _)),by simp;omega,λo y g1 g2=>by have:=(ho o y g2).1;dsimp only;rw[AD _ _ (by omega),AD _ _ (by omega),AD _ _ (by omega),AD _ _ (by omega)];exact hk1 o y g1 g2⟩,AB⟩
    simp[go_sem,hcells,AC,AD,x2,x3,hap,y1,y2,i4]
    exact leaf
 obtain⟨X2,ps2⟩:=z
 obtain⟨hm2,S2,hl2,hk2⟩:=hm
 dsimp only at S2 hl2 hk2 ⊢
 refine AH ?_
 obtain⟨p,ob,op,S2⟩:=S2
 have hc2:=S2.cells
 simp[go_sem,hc2]
 have hle:=S2.le
 refine .inl ⟨at_,[],ps2,IntKind.i64.wrap (pl+1),e,⟨rfl,rfl,hl2,rfl⟩,⟨p,ob,op,S2.le,AC _ _ _,S2.p,S2.b0,λj g=>absurd rfl (S2.b1 j g).2.2.1,S2.o0,λj g=>?_⟩,λo y g1 g2=>?_,hm2⟩
 . obtain⟨i1,i2,i3,i4⟩:=S2.o1 j g
   exact⟨i1,i2,i3,by rw[AD _ _ i2];exact i4⟩
 . rw[AD _ _ (by omega)];exact hk2 o y g1 g2
def XL (a b:ByteArray) (v:SV):Prop:=∃x,v=.bool x/\(x=true->b.size<=a.size)
theorem dC (a b:ByteArray):TC 340 [.str a,.str b] (XL a b):=by
 intro h n;refine Db Tryz.func340 rfl λho=>?_;refine AH ?_;by_cases c:(b.size:Int)<=a.size;simp[go_sem,c];exact GQ ho AB (by simp[closed]) ⟨_,rfl,λ_=>by omega⟩;simp[go_sem,c];exact GQ ho AB (by simp[closed]) ⟨_,rfl,by simp⟩
theorem Yp (a b:ByteArray):TC 332 [.str a,.str b] (XL a b):=by
 intro h n;refine Db Tryz.func332 rfl λho=>?_;refine AH ?_;simp[go_sem];refine kW (dC a b) ?_;rintro v ⟨x,rfl,hx⟩;simp[go_sem];exact GQ ho AB (by simp[closed]) ⟨x,rfl,hx⟩
theorem ZJ.upd {G:Hp} {q B:Nat} {s:ByteArray} {at_ pl e:Int} {bs:List UInt8} {ps:List B7} {p:SV} {ob op:Option Nat} (S:ZJ G q B s at_ bs ps pl e p ob op) (at' pl' e':Int):
 Sb (hset G q (some (.cells [.str s,AA at',p,Ep ob bs,AM 3 op (ps.map B7.enc),AA pl',AA e'] (some 388)))) q B s at' bs ps pl' e':=
 ⟨p,ob,op,S.le,AC _ _ _,S.p,S.b0,λj g=>by obtain⟨a,b,c,d⟩:=S.b1 j g;exact⟨a,b,c,by rw[AD _ _ b];exact d⟩,S.o0,λj g=>by obtain⟨a,b,c,d⟩:=S.o1 j g;exact⟨a,b,c,by rw[AD _ _ b];exact d⟩⟩
theorem VZ {G:Hp} {n q B:Nat} {s:ByteArray} {at_ pl e:Int} {bs:List UInt8} {ps:List B7} (S:Sb G q B s at_ bs ps pl e) (ho:Es G n) (hb:bs.length<=1048576) (x:UInt8):
 BA Tryz.prog 329 [.ptr q 2,EJ x] G n (VN q B s G n λat' bs' ps' pl' e'=>at'=at_/\bs'=bs++[x]/\ps'=ps/\pl'=pl/\e'=e):=by
 obtain⟨p,ob,op,S⟩:=S;have hqn:=(ho q _ S.cells).1;have hle:=S.le;refine(bu (x:=x) S.cells S.p S.b0 (λj g=>⟨(S.b1 j g).2.1,(S.b1 j g).2.2.2⟩) (by omega)).mono ?_;rintro v h' n' ⟨j,g1,g2,g3,g4,g5⟩;refine⟨at_,bs++[x],ps,pl,e,⟨rfl,rfl,rfl,rfl,rfl⟩,⟨.ptr q 2,some j,op,S.le,g2,.inr rfl,by simp,λi hi=>?_,S.o0,λi hi=>?_⟩,λo y h1 h2=>g1 o y (by omega) (λg=>?_) h2,by omega⟩;cases hi;exact⟨by omega,by omega,by simp,g3⟩;obtain⟨i1,i2,i3,i4⟩:=S.o1 i hi;have:=(ho i _ i4).1;exact⟨i1,i2,λg=>by cases g;omega,g1 i _ i2 i3 i4⟩;have:=(S.b1 o g).1;omega
def Yw:Tr:=.pure 0 (.pure 1 (.pure 2 (.pure 4 (.pure 5 (.pure 6 (.two 3 7 (.one 7 (.one 8 (.one 9 (.pure 10 .nil)))) (.one 3 (.one 8 (.one 9 (.pure 10 .nil))))))))))
def VG:Tr:=.pure 0 (.pure 1 (.pure 2 (.pure 3 (.pure 5 (.pure 6 (.pure 7 (.two 4 8 (.one 8 (.pure 9 (.one 10 (.one 11 .nil)))) (.pure 9 (.one 4 (.one 10 (.one 11 .nil)))))))))))
def Yx:Tr:=.pure 0 (.pure 1 (.pure 2 (.pure 4 (.pure 5 (.pure 6 (.two 3 7 (.one 7 (.one 8 (.one 9 (.pure 10 (.pure 11 (.pure 12 (.pure 13 (.pure 14 (.one 15 (.pure 16 (.one 17 (.pure 18 (.pure 19 .nil))))))))))))) (.one 3 (.one 8 (.one 9 (.pure 10 (.pure 11 (.pure 12 (.pure 13 (.pure 14 (.one 15 (.pure 16 (.one 17 (.pure 18 (.pure 19 .nil)))))))))))))))))))
def ZE (n:Nat) (P:Prop) (b:Bx) (m:Nat):Prop:=n<=m/\(b.b=true->P)
def UV (G:Hp) (q B n:Nat) (s:ByteArray) (R:Int->List UInt8->List B7->Int->Int->Prop) (z:Hp) (m:Nat):Prop:=n<=m/\∃at_ bs ps pl e,R at_ bs ps pl e/\Sb z q B s at_ bs ps pl e/\∀o y,o<B->G o=some y->z o=some y
theorem VN.st {q B:Nat} {s:ByteArray} {G:Hp} {n0 n:Nat} {R:Int->List UInt8->List B7->Int->Int->Prop} {v:SV} {h':Hp} {n':Nat} (H:VN q B s G n R v h' n') (hn:n0<=n):UV G q B n0 s R h' n':=by
 obtain⟨a1,a2,a3,a4,a5,h1,h2,h3,h4⟩:=H;exact⟨by omega,a1,a2,a3,a4,a5,h1,h2,h3⟩
def Zf (s:ByteArray) (at_ e:Int) (bs:List UInt8) (ps:List B7):Int->List UInt8->List B7->Int->Int->Prop:=λat' bs' ps' _ e'=>
 ((at_<at'/\at'<=s.size/\e'=e)\/(at'=at_/\e'=14))/\bs'.length<=bs.length+1/\ps'.length<=ps.length+2
set_option maxHeartbeats 2000000 in
theorem bt {G:Hp} {n q B:Nat} {s:ByteArray} {at_ pl e:Int} {bs:List UInt8} {ps:List B7} (S:Sb G q B s at_ bs ps pl e) (h0:0<=at_) (h1:at_<s.size) (hs:s.size<=1048576) (hb:bs.length<=1048576) (hps:ps.length<=1048576):
 BA Tryz.prog 328 [.ptr q 0] G n (VN q B s G n (Zf s at_ e bs ps)):=by
 refine Db Tryz.func328 rfl λho=>?_;obtain⟨p0,ob0,op0,S0⟩:=id S;have hc:=S0.cells;have w1:IntKind.i64.wrap (at_+1)=at_+1:=by rw[Cl]<;>omega
 have w2:IntKind.i64.wrap (at_+2)=at_+2:=by rw[Cl]<;>omega
 have w3:IntKind.i64.wrap (at_+3)=at_+3:=by rw[Cl]<;>omega
 have fin:∀(z:Hp) (m:Nat) (a1 e1 at' pl1 pl' e':Int) (bs':List UInt8) (ps':List B7) (p:SV) (ob op:Option Nat),ZJ z q B s a1 bs' ps' pl1 e1 p ob op->(∀o y,o<B->G o=some y->z o=some y)->n<=m->Zf s at_ e bs ps at' bs' ps' pl' e'->
  B8 n (hset z q (some (.cells [.str s,AA at',p,Ep ob bs',AM 3 op (ps'.map B7.enc),AA pl',AA e'] (some 388)))) m (.tup []) (VN q B s G n (Zf s at_ e bs ps)):=λz m a1 e1 at' pl1 pl' e' bs' ps' p ob op T hk hm hR=>
  .inl ⟨at',bs',ps',pl',e',hR,T.upd at' pl' e',λo y g1 g2=>by have:=T.le;rw[AD _ _ (by omega)];exact hk o y g1 g2,hm⟩
 refine AR ?_;refine AT 0 (α:=Bx) (λb=>[(0,.ptr q 0),(5,.bool b.b)]) (λ_=>G) (ZE n (at_+2<=s.size)) (BX Yw rfl (by kernel_rfl) (by kernel_rfl) ?_) (λb m hm=>?_);have hpre:∀{K:SV->Hp->Nat->Prop},(∀b:Bx,ZE n (at_+2<=s.size) b n->K (.bool b.b) G n)->Ak (B6.plain.call false 0) Tryz.prog 332 [.str (s.extract at_.toNat s.size),.str ⟨#[37,37]⟩] G n K:=λhK=>
  kW (Yp _ _) λv ⟨x,e1,e2⟩=>by
   rw[e1];refine hK ⟨x⟩ ⟨qa _,λg=>?_⟩;have:=e2 g;simp at this;have h9:(⟨#[37,37]⟩:ByteArray).size=2:=rfl;omega
 simp[go_sem,Yw,hc,h0];have:=Int.le_of_lt h1;simp[this];refine⟨?_,?_⟩ <;>
 . refine hpre λb hb=>?_;simp[go_sem,IO];exact⟨b,hb,rfl⟩
 obtain⟨b⟩:=b;obtain⟨hm,hbb⟩:=hm;dsimp only at hbb ⊢;cases b with
 | true=>
  have hbb:=hbb rfl;refine Ah (b:=true) (by simp[go_sem]) ?_;simp only[if_true];refine Nb λhom=>?_;refine BM 0 (α:=Hp) (λ_=>[(0,.ptr q 0)]) (λz=>z) (UV G q B n s λat' bs' ps' pl' e'=>at'=at_/\bs'=bs++[37]/\ps'=ps/\pl'=pl/\e'=e) ?_ (λz m hm=>?_);simp[go_sem];refine qC (show BA Tryz.prog 329 [.ptr q 2,.int .u8 37] G _ _ from VZ S hom hb 37) ?_;rintro v H' n' hq;simp[go_sem,IO];exact⟨H',hq.st hm,AB⟩;obtain⟨hm,a1,a2,a3,a4,a5,⟨rfl,rfl,rfl,rfl,rfl⟩,⟨p,ob,op,T⟩,hk⟩:=hm;refine AH ?_;have hT:=T.cells;simp[go_sem,hT,w2];exact fin _ _ _ _ _ _ _ _ _ _ _ _ _ T hk hm ⟨.inl ⟨by omega,hbb,rfl⟩,by simp,by omega⟩
 | false =>
  refine Ah (b:=false) (by simp[go_sem]) ?_;simp only[qj,if_false];refine BM 0 (α:=Bx) (λb=>[(0,.ptr q 0),(27,.bool b.b)]) (λ_=>G) (ZE n (at_+1<s.size)) ?_ (λb m hm=>?_);simp[go_sem,hc,w1];refine qC (Xw S (at_+1) (by omega)) ?_;rintro v H' n' ⟨⟨b,rfl,Hn⟩,rfl,rfl⟩;simp[go_sem,IO];exact⟨⟨b⟩,⟨hm,Hn⟩,rfl⟩;obtain⟨b⟩:=b;obtain⟨hm,hbb⟩:=hm;dsimp only at hbb ⊢;cases b with
  | true=>
   have hbb:=hbb rfl;refine Ah (b:=true) (by simp[go_sem]) ?_;simp only[if_true];refine AT 0 (α:=Hp) (λ_=>[(0,.ptr q 0)]) (λz=>z) (UV G q B n s λat' bs' ps' _ e'=>at'=at_/\bs'=[]/\ps'.length<=ps.length+2/\e'=e) (BX VG rfl (by kernel_rfl) (by kernel_rfl) ?_) (λz m hm=>?_);have hkl:(at_+1).toNat<s.size:=by omega
   obtain⟨x,hx⟩:∃x,s[(at_+1).toNat]'hkl=x:=⟨_,rfl⟩
   have hgx:s[(at_+1).toNat]? = some x:=by rw[Sv hkl,hx]
   have h01:0<=at_+1:=by omega
   simp[go_sem,VG,hc,w1,h01,hgx];refine⟨?_,?_⟩ <;>
   . refine qC (Xx S hb hps) ?_;rintro v H' n' hq;simp[go_sem,IO];exact⟨H',hq.st hm,AB⟩
   obtain⟨hm,a1,a2,a3,a4,a5,⟨rfl,rfl,hl,rfl⟩,⟨p,ob,op,T⟩,hk⟩:=hm;refine AH ?_;have hT:=T.cells;simp[go_sem,hT,w2];exact fin _ _ _ _ _ _ _ _ _ _ _ _ _ T hk hm ⟨.inl ⟨by omega,by omega,rfl⟩,by simp,hl⟩
  | false =>
   refine Ah (b:=false) (by simp[go_sem]) ?_;simp only[qj,if_false];refine AT 0 (α:=Bx) (λb=>[(0,.ptr q 0),(54,.bool b.b)]) (λ_=>G) (ZE n (at_+2<s.size)) (BX Yx rfl (by kernel_rfl) (by kernel_rfl) ?_) (λb m hm=>?_);have h1':=Int.le_of_lt h1;simp[go_sem,Yx,hc,h0,h1'];refine⟨?_,?_⟩ <;>
   . refine kW (Yp _ _) ?_;rintro v ⟨b,rfl,_⟩;cases b with
     | false=>
      simp[go_sem,IO];exact⟨⟨false⟩,⟨hm,by simp⟩,rfl⟩
     | true=>
      simp[go_sem,hc,w2];refine qC (Xw S (at_+2) (by omega)) ?_;rintro v H' n' ⟨⟨b,rfl,Hn⟩,rfl,rfl⟩;simp[go_sem,IO];exact⟨⟨b⟩,⟨hm,Hn⟩,rfl⟩
   obtain⟨b⟩:=b;obtain⟨hm,hbb⟩:=hm;dsimp only at hbb ⊢;cases b with
   | true=>
    have hbb:=hbb rfl;refine Ah (b:=true) (by simp[go_sem]) ?_;simp only[if_true];refine AT 0 (α:=Hp) (λ_=>[(0,.ptr q 0)]) (λz=>z) (UV G q B n s λat' bs' ps' _ e'=>at'=at_/\bs'=[]/\ps'.length<=ps.length+2/\e'=e) (BX VG rfl (by kernel_rfl) (by kernel_rfl) ?_) (λz m hm=>?_);have hkl:(at_+2).toNat<s.size:=by omega
    obtain⟨x,hx⟩:∃x,s[(at_+2).toNat]'hkl=x:=⟨_,rfl⟩
    have hgx:s[(at_+2).toNat]? = some x:=by rw[Sv hkl,hx]
    have h01:0<=at_+2:=by omega
    simp[go_sem,VG,hc,w2,h01,hgx];refine⟨?_,?_⟩ <;>
    . refine qC (Xx S hb hps) ?_;rintro v H' n' hq;simp[go_sem,IO];exact⟨H',hq.st hm,AB⟩
    obtain⟨hm,a1,a2,a3,a4,a5,⟨rfl,rfl,hl,rfl⟩,⟨p,ob,op,T⟩,hk⟩:=hm;refine AH ?_;have hT:=T.cells;simp[go_sem,hT,w3];exact fin _ _ _ _ _ _ _ _ _ _ _ _ _ T hk hm ⟨.inl ⟨by omega,by omega,rfl⟩,by simp,hl⟩
   | false=>
    refine Ah (b:=false) (by simp[go_sem]) ?_;simp only[qj,if_false];refine AH ?_;simp[go_sem,hc];exact fin _ _ _ _ _ _ _ _ _ _ _ _ _ S0 (λ_ _ _ h=>h) hm ⟨.inr ⟨rfl,rfl⟩,by omega,by omega⟩
def UH:Tr:=.pure 0 (.pure 1 (.pure 2 (.pure 4 (.pure 5 (.pure 6 (.two 3 7 (.one 7 (.one 8 (.pure 9 (.pure 10 (.pure 11 (.pure 12 (.pure 13 (.one 14 (.pure 15 (.pure 16 .nil)))))))))) (.two 3 8 (.one 8 (.pure 9 (.pure 10 (.pure 11 (.pure 12 (.pure 13 (.one 14 (.pure 15 (.pure 16 .nil))))))))) (.one 3 (.pure 9 (.pure 10 (.pure 11 (.pure 12 (.pure 13 (.one 14 (.pure 15 (.pure 16 .nil))))))))))))))))
def Y0:Tr:=.pure 0 (.pure 1 (.pure 2 (.pure 4 (.pure 5 (.pure 6 (.two 3 7 (.one 7 (.one 8 (.pure 9 .nil))) (.one 3 (.one 8 (.pure 9 .nil)))))))))
def Y1:Tr:=.pure 0 (.pure 1 (.pure 2 (.pure 3 (.pure 4 (.pure 5 (.pure 7 (.pure 8 (.pure 9 (.two 6 10 (.one 10 (.one 11 (.one 12 .nil))) (.one 6 (.one 11 (.one 12 .nil))))))))))))
def SnR (s:ByteArray) (z:Int×Int):Int->List UInt8->List B7->Int->Int->Prop:=λat_ bs ps _ e=>
 at_=z.1/\e=z.2/\0<=at_/\at_<=s.size/\(e=0->(bs.length:Int)<=at_/\(ps.length:Int)<=2*at_)/\(bs.length:Int)<=at_+1/\(ps.length:Int)<=2*at_+2
def SnI (G:Hp) (q B n:Nat) (s:ByteArray) (z:Hp×Int×Int) (m:Nat):Prop:=UV G q B n s (SnR s z.2) z.1 m
def ZK (s:ByteArray) (z:Hp×Int×Int):Nat:=2*(s.size-z.2.1).toNat+(if z.2.2=0 then 1 else 0)
set_option maxHeartbeats 2000000 in
theorem br {G:Hp} {n q B:Nat} {s:ByteArray} {pl:Int} (S:Sb G q B s 0 [] [] pl 0) (hs:s.size<=1024):
 BA Tryz.prog 320 [.ptr q 0] G n (VN q B s G n λ_ _ ps' _ _=>ps'.length<=1048576):=by
 refine Db Tryz.func320 rfl λho=>?_;refine AT 0 (α:=Hp×Int×Int) (λ_=>[(0,.ptr q 0)]) (λz=>z.1) (SnI G q B n s) ?_ (λz m hm=>?_);refine AR (BG 0 (α:=Hp×Int×Int) (λ_=>[(0,.ptr q 0)]) (λz=>z.1) (SnI G q B n s) (ZK s) (G,0,0) ⟨qa _,0,[],[],pl,0,⟨rfl,rfl,by omega,by simp,by simp,by simp,by simp⟩,S,λ_ _ _ h=>h⟩ ?_ AB ?_);simp[go_sem,Ai,IO];rintro⟨z,a0,e0⟩ m ⟨hm,at_,bs,ps,pl2,e,⟨h1,h2,h3,h4,h5,h6,h7⟩,T,hk⟩;dsimp only at h1 h2 T hk ⊢;subst h1;subst h2;obtain⟨p,ob,op,T0⟩:=id T;have hc:=T0.cells;by_cases c:at_<s.size/\e=0;obtain⟨c1,rfl⟩:=c;have hl:=h5 rfl;have hbl:bs.length<=1024/\ps.length<=2048:=by omega
 refine Bc 0 [(0,.ptr q 0)] z m ?_ (λm3 hm3=>?_);refine AT 0 (α:=Unit) (λ_=>[(0,.ptr q 0),(18,.bool true)]) (λ_=>z) (λ_ m2=>m<=m2) (BX UH rfl (by kernel_rfl) (by kernel_rfl) ?_) (λ_ m2 hm2=>?_);simp[go_sem,UH,hc,c1,IO];refine AH ?_;simp[go_sem,IO,hm2];refine AR ?_;have hkl:at_.toNat<s.size:=by omega
 obtain⟨x,hx⟩:∃x,s[at_.toNat]'hkl=x:=⟨_,rfl⟩
 have hgx:s[at_.toNat]? = some x:=by rw[Sv hkl,hx]
 refine Bc 0 [(0,.ptr q 0)] z m ?_ (λm4 hm4=>?_);refine AT 0 (α:=Bx) (λb=>[(0,.ptr q 0),(28,.bool b.b)]) (λ_=>z) (λ_ m4=>m3<=m4) (BX Y0 rfl (by kernel_rfl) (by kernel_rfl) ?_) (λb m4 hm4=>?_);simp[go_sem,Y0,hc,h3,hgx,IO];exact⟨⟨_⟩,rfl⟩;obtain⟨b⟩:=b;refine AH ?_;cases b with
 | false=>simp[go_sem,IO];omega
 | true=>
  simp[go_sem];refine qC (bt T h3 c1 (by omega) (by omega) (by omega)) ?_;rintro v H' n' ⟨a1,a2,a3,a4,a5,⟨hor,r2,r3⟩,r6,r7,r8⟩;simp[go_sem,IO];have hk2:∀o y,o<B->G o=some y->H' o=some y:=λo y g1 g2=>r7 o y g1 (hk o y g1 g2);refine⟨H',a1,a5,?_,⟨by omega,a1,a2,a3,a4,a5,⟨rfl,rfl,by omega,by omega,λg=>by omega,by omega,by omega⟩,r6,hk2⟩,AB⟩;rcases hor with⟨g1,g2,rfl⟩|⟨rfl,rfl⟩
  simp[ZK];omega;simp[ZK]
 refine Nb λhom=>?_;refine AT 0 (α:=Hp) (λ_=>[(0,.ptr q 0)]) (λy=>y) (UV z q B m s λat' bs' ps' pl' e'=>at'=at_/\bs'=bs++[x]/\ps'=ps/\pl'=pl2/\e'=0) (BX Y1 rfl (by kernel_rfl) (by kernel_rfl) ?_) (λy m5 hm5=>?_);simp[go_sem,Y1,hc,h3,hgx];refine⟨?_,?_⟩ <;>
 . refine qC (VZ T hom (by omega) x) ?_;rintro v H' n' hq;simp[go_sem,IO];exact⟨H',hq.st hm4,AB⟩
 obtain⟨hm5,a1,a2,a3,a4,a5,⟨rfl,rfl,rfl,rfl,rfl⟩,⟨p1,ob1,op1,T1⟩,hk1⟩:=hm5;have hT:=T1.cells;have w1:IntKind.i64.wrap (a1+1)=a1+1:=by rw[Cl]<;>omega
 refine AH ?_;simp[go_sem,hT,w1,IO];refine⟨_,a1+1,0,by simp[ZK];omega,⟨by omega,a1+1,bs++[x],a3,a4,0,⟨rfl,rfl,by omega,by omega,λ_=>by simp;omega,by simp;omega,by omega⟩,T1.upd (a1+1) a4 0,λo w g1 g2=>?_⟩,AB⟩;have:=T1.le;exact(AD _ _ (show o≠q by omega)).trans (hk1 o w g1 (hk o w g1 g2));refine Bo 0 [] z (λ_=>False) ?_ (λ_ hF=>hF.elim);refine AT 0 (α:=Unit) (λ_=>[(0,.ptr q 0),(18,.bool false)]) (λ_=>z) (λ_ m2=>m<=m2) (BX UH rfl (by kernel_rfl) (by kernel_rfl) ?_) (λ_ m2 hm2=>?_);by_cases c1:at_<s.size;have c2:¬e=0:=λg=>c ⟨c1,g⟩;have c3:(e==0)=false:=by simpa using c2
 simp[go_sem,UH,hc,c1,c3,IO];simp[go_sem,UH,hc,c1,IO];refine AH ?_;simp[go_sem,IO];exact⟨z,⟨at_,e,by omega,at_,bs,ps,pl2,e,⟨rfl,rfl,h3,h4,h5,h6,h7⟩,T,hk⟩,AB⟩;obtain⟨z,a0,e0⟩:=z;obtain⟨hm,at_,bs,ps,pl2,e,⟨h1,h2,h3,h4,h5,h6,h7⟩,T,hk⟩:=hm;dsimp only at h1 h2 T hk ⊢;refine BM 0 (α:=Hp) (λ_=>[(0,.ptr q 0)]) (λy=>y) (UV z q B m s λ_ _ ps' _ _=>ps'.length<=1048576) ?_ (λy m2 hm2=>?_);simp[go_sem];refine qC (Xv T (by omega) (by omega)) ?_;rintro v H' n' ⟨b1,b2,b3,b4,b5,⟨r1,r2,r3,r4,r5⟩,r6,r7,r8⟩;simp[go_sem,IO];exact⟨H',⟨r8,b1,b2,b3,b4,b5,by dsimp only;omega,r6,r7⟩,AB⟩;obtain⟨hm2,b1,b2,b3,b4,b5,hps,⟨p1,ob1,op1,T1⟩,hk1⟩:=hm2;have hc:=T1.cells;refine AH ?_;by_cases c1:b5=0;by_cases c2:9<b4;simp[go_sem,hc,c1,c2];refine .inl ⟨b1,b2,b3,b4,9,hps,T1.upd b1 b4 9,λo y g1 g2=>?_,by omega⟩;have:=T1.le;rw[AD _ _ (by omega)];exact hk1 o y g1 (hk o y g1 g2);simp[go_sem,hc,c1,c2];exact .inl ⟨b1,b2,b3,b4,b5,hps,⟨p1,ob1,op1,T1⟩,λo y g1 g2=>hk1 o y g1 (hk o y g1 g2),by omega⟩;simp[go_sem,hc,c1];exact .inl ⟨b1,b2,b3,b4,b5,hps,⟨p1,ob1,op1,T1⟩,λo y g1 g2=>hk1 o y g1 (hk o y g1 g2),by omega⟩
theorem bC (b:Int):PC 319 [Io b] (.bool (decide (b<32)||decide (b=127))):=by
 intro h n;refine gq Tryz.func319 rfl λho=>?_;by_cases c:b<32;simp[go_sem,c];exact As ho rfl rfl;simp[go_sem,c];exact As ho rfl (by by_cases c2:b=127<;>simp[c2])
def PaT (v:SV):Prop:=∃(ps:List B7) (e:Int),v=.tup [.imm 3 (ps.map B7.enc) false,AA e]/\ps.length<=1048576
def Yy:Tr:=.pure 0 (.pure 1 (.pure 2 (.pure 4 (.one 3 (.pure 5 .nil)))))
theorem dB (s:ByteArray) (hs:s.size<=1048576):TC 302 [.str s] PaT:=by
 intro h n
 refine Db Tryz.func302 rfl λho=>?_
 have out:∀(H:Hp) (m:Nat) (e:Int),(∀j y,h j=some y->H j=some y)->B8 n H m (.tup [.imm 0 [] true,AA e]) (λv h' n'=>PaT v/\h'=h/\n'=n):=λH m e hh=>
  Vi 2 ho hh (v:=.tup [.imm 3 [] false,AA e]) (.inr ⟨BC (by simp),IO,trivial⟩) (by simp[closed,closedL]) ⟨[],e,rfl,by simp⟩
 refine AY 0 [(0,.str s)] h n ?_ (λm hm=>?_)
 . simp[go_sem,IO]
 refine AT 0 (α:=Unit) (λ_=>[(0,.str s)]) (λ_=>h) (λ_ m=>n<=m/\s.size<=64) (AR ?_) (λ_ m hm=>?_)
 . by_cases a1:(64:Int)<s.size
   . refine AH ?_
     simp[go_sem,a1]
     exact out _ _ _ AB
   have hl:s.size<=64:=by omega
   refine AH ?_
   simp[go_sem,a1]
   refine(P7 s (by omega)).use ?_
   cases CZ s with
   | false=>
    simp[go_sem]
    exact out _ _ _ AB
   | true=>
   simp[go_sem]
   have hby:∀b:List UInt8,b.map EJ=(b.map λx=>(x.toNat:Int)).map Io:=λb=>by rw[List.map_map];rfl
   refine SE (s:=s) (e:=5) rfl (by simp[go_sem]) (by simp[go_sem]) (by simp[go_sem]) rfl ?_
   rw[hby]
   have hlen:s.data.toList.length=s.size:=by rw[jU];rfl
   have h318:=bB (s.data.toList.map λx=>(x.toNat:Int)) (by simp[hlen];omega) 319 [] [] (λi=>match(s.data.toList.map λx=>(x.toNat:Int))[i]? with|some b=>decide (b<32)||decide (b=127)|none=>false) (λi hi=>by rw[qf hi];exact bC _)
   generalize Rc _ _=b at h318
   generalize(s.data.toList.map λx=>(x.toNat:Int)).map Io=L at h318 ⊢
   simp[go_sem]
   refine qw h318 ?_
   cases b with
   | true=>
    simp[go_sem]
    exact out _ _ _ AB
   | false=>
    simp[go_sem,IO,hm,hl]
 obtain⟨hm,hl⟩:=hm
 refine Nb λhom=>?_
 refine BM 0 (α:=Hp) (λ_=>[(4,.ptr m 0)]) (λz=>z) (λz m2=>m<m2/\Sb z m m s 0 [] [] 0 0/\∀o y,h o=some y->z o=some y) ?_ (λz m2 hm2=>?_)
 . simp[go_sem,IO]
   exact⟨_,⟨⟨.nilp,none,none,qa _,AC _ _ _,.inl rfl,λ_=>rfl,by simp,λ_=>rfl,by simp⟩,AJ (λj y e=>(hom j y e).1) AB⟩,AB⟩
 obtain⟨hm2,S,hk⟩:=hm2
 refine AT 0 (α:=Hp) (λ_=>[(4,.ptr m 0)]) (λy=>y) (UV z m m m2 s λ_ _ ps' _ _=>ps'.length<=1048576) ?_ (λy m3 hm3=>?_)
 . refine BM 0 (α:=Hp) (λ_=>[(4,.ptr m 0)]) (λy=>y) (UV z m m m2 s λ_ _ ps' _ _=>ps'.length<=1048576) ?_ (λy m3 hm3=>?_)
   . simp[go_sem]
     refine qC (br S (by omega)) ?_
     rintro v H' n' hq
     simp[go_sem,IO]
     exact⟨H',hq.st (qa _),AB⟩
   obtain⟨hm3,b1,b2,ps,b4,e,hps,⟨p1,ob1,op1,T⟩,hk1⟩:=hm3
   have hc:=T.cells
   have hkk:∀o w,h o=some w->y o=some w:=λo w g=>hk1 o w (hom o w g).1 (hk o w g)
   by_cases c1:e=0
   . refine AH ?_
     simp[go_sem,hc,c1,IO]
     exact⟨y,⟨by omega,b1,b2,ps,b4,e,hps,⟨p1,ob1,op1,T⟩,hk1⟩,AB⟩
   . have c2:(e !=0)=true:=by simpa using c1
     refine BP 0 [(4,.ptr m 0),(26,.bool true)] y (λ_=>True) ?_ (λm4 _=>?_)
     . simp[go_sem,hc,c2,IO]
     refine Ah (b:=true) (by simp[go_sem]) ?_
     simp only[if_true]
     refine AT 0 (α:=Unit) (λ_=>[(2,.imm 0 [] true),(3,AA e)]) (λ_=>y) (λ_ _=>True) (BX Yy rfl (by kernel_rfl) (by kernel_rfl) ?_) (λ_ m5 _=>?_)
     . simp[go_sem,Yy,hc,IO]
     refine AH ?_
     simp[go_sem]
     exact out _ _ _ hkk
 obtain⟨hm3,b1,b2,ps,b4,e,hps,⟨p1,ob1,op1,T⟩,hk1⟩:=hm3
 have hc:=T.cells
 have hkk:∀o w,h o=some w->y o=some w:=λo w g=>hk1 o w (hom o w g).1 (hk o w g)
 refine AH ?_
 simp[go_sem,hc]
 have hA:Ar n (m3+(op1.getD 0)+1) 3 op1 (ps.map B7.enc):=⟨λe=>by rw[T.o0 e];rfl,λj e=>⟨by have:=(T.o1 j e).1;omega,by rw[e];simp;omega⟩,B7.size ps⟩
 have hh:∀j w,AN op1 (ps.map B7.enc) h j=some w->y j=some w:=λj w g=>by
  cases op1 with
  | none=>exact hkk j w g
  | some i=>
   simp only[AN,hset]at g
   split at g
   . rename_i hji;subst hji;rw[(T.o1 j rfl).2.2.2];exact g
   . exact hkk j w g
 exact Vi 2 ho hkk (v:=.tup [.imm 3 (ps.map B7.enc) false,AA 0]) (.inr ⟨AM.fz ho hA hh,IO,trivial⟩) (by simp[closed,closedL];exact BU.2 λs hs=>by obtain⟨x,_,rfl⟩:=qy.1 hs;rfl) ⟨ps,0,rfl,hps⟩
theorem au (p:B7) (k:Int):PC 304 [p.enc,.iptr [AA k]] (.bool (decide (k<p.level))):=by
 intro h n;refine gq Tryz.func304 rfl λho=>?_;simp[go_sem,B7.enc,AC];exact Ay ho (AQ ho (qa _) AB) rfl rfl
theorem dA (s:ByteArray) (hs:s.size<=1048576) (k:Int):TC 271 [.str s,AA k] FM:=by
 intro h n;refine Db Tryz.func271 rfl λho=>?_;have hHb:=ho.lt;have out:∀(e:Int) (m:Nat),B8 n h m (AA e) (λv h' n'=>FM v/\h'=h/\n'=n):=λe m=>GQ ho AB (by simp[closed]) ⟨e,rfl⟩;refine AY 1 [(0,.str s),(3,.iptr [AA k])] h n ?_ (λm hm=>?_);simp[go_sem,IO];exact⟨AV (AW hHb (qa _)) (AC _ _ _),AJ hHb AB⟩;refine Bc 0 [(0,.str s),(3,.iptr [AA k])] h n (AH ?_) (λm hm=>?_);by_cases a1:k<1;simp[go_sem,a1];exact out _ _;by_cases a2:9<k;simp[go_sem,a1,a2];exact out _ _;simp[go_sem,a1,a2,IO,hm];refine AH ?_;simp[go_sem];refine kW (dB s hs) ?_;rintro v ⟨ps,e,rfl,hps⟩;by_cases c:e=0;have h303:=ao ps hps 304 [] [.iptr [AA k]] (λi=>match ps[i]? with|some p=>decide (k<p.level)|none=>false) (λi hi=>by rw[qf hi];exact au _ k);generalize Rc _ _=b at h303;simp[go_sem,c];refine qw h303 ?_;cases b<;>simp[go_sem]<;>exact out _ _;have c2:(e==0)=false:=by simpa using c
 simp[go_sem,c2];exact out _ _
theorem Jy {E:B6} {ops:Array Oper} {K:SA->Hp->Nat->Prop} {sa:SA} {h:Hp} {n:Nat} {b:Bool} {e:Int} {rest:List Oper} {tr:List CR} {dst:Option Tmp}
 (hk:∀r:Int,Ja E Tryz.prog ops K rest tr sa { dst:=dst,val:=AA r } h n):Bs E Tryz.prog ops K sa h n 87 [.bool b,AA e] rest tr dst:=
 jw _ _ _ _ _ _ (JK b e) (hk _)
theorem Qu {E:B6} {ops:Array Oper} {K:SA->Hp->Nat->Prop} {sa:SA} {h:Hp} {n:Nat} {s:ByteArray} (hs:s.size<=1048576) {rest:List Oper} {tr:List CR} {dst:Option Tmp}
 (hk:∀r:Int,Ja E Tryz.prog ops K rest tr sa { dst:=dst,val:=AA r } h n):Bs E Tryz.prog ops K sa h n 217 [.str s] rest tr dst:=
 jw _ _ _ _ _ _ (Xf s (by omega)) (hk _)
set_option maxHeartbeats 2000000 in
theorem cy (l:List Ft) (hl:l.length<=1048576) (hs:∀x∈l,x.name.size<=1048576/\x.value.size<=1048576) (i:Nat) (hi:i<l.length):TC 218 [AA i,.iptr [FI l]] FM:=by
 intro h n;refine gq Tryz.func218 rfl λho=>?_;obtain⟨x,hx⟩:∃x,l[i]=x:=⟨_,rfl⟩
 have hxs:=hs x (by rw[<-hx];exact ql hi);by_cases h0:i=0
 . subst h0;simp[go_sem,hi,hx,Ft.enc]
   repeat first|refine nq ?_|refine sq ?_
   refine jw _ _ _ _ _ _ (V5 x.name) ?_;simp[go_sem]
   repeat first|refine nq ?_|refine sq ?_
   refine Jy λe1=>?_;simp[go_sem]
   repeat first|refine nq ?_|refine sq ?_
   refine Jy λe2=>?_;simp[go_sem]
   repeat first|refine nq ?_|refine sq ?_
   refine Jy λe3=>?_;simp[go_sem,hi,hx,Ft.enc]
   repeat first|refine nq ?_|refine sq ?_
   refine Qu hxs.2 λe4=>?_;simp[go_sem]
   repeat first|refine nq ?_|refine sq ?_
   refine Bs.lend _ _ _ _ _ _ 2 [n] (Pw [e1,e2,e3,e4] (by simp)) rfl (by simp) (λh' hh=>?_) ?_;have:=hh n (by simp);simp[hset]at this;simp[AZ,Fz,this,Bg,SV.storable,SV.cells];simp[go_sem]
   repeat first|refine nq ?_|refine sq ?_
   exact GQ ho (AQ ho (qa _) AB) (by simp[closed]) ⟨_,rfl⟩
 . have hip:0<i:=by omega
   have hmx:(if(1:Int)>i then(1:Int)else i)=i:=by split<;>omega
   have hmx2:(if(1:Int)<i then(i:Int)else 1)=i:=by split<;>omega
   have w1:IntKind.i64.wrap ((i:Int)-1)=((i-1:Nat):Int):=by rw[Cl]<;>omega
   have hi1:i-1<l.length:=by omega
   obtain⟨y,hy⟩:∃y,l[i-1]=y:=⟨_,rfl⟩
   simp[go_sem,hi,hx,Ft.enc]
   repeat first|refine nq ?_|refine sq ?_
   refine jw _ _ _ _ _ _ (V5 x.name) ?_;simp[go_sem]
   repeat first|refine nq ?_|refine sq ?_
   refine Jy λe1=>?_;simp[go_sem,hi,hx,Ft.enc,hip,w1,hi1,hy,hmx]
   repeat first|refine nq ?_|refine sq ?_
   refine Jy λe2=>?_;simp[go_sem,hi,hx,Ft.enc,hip,w1,hi1,hy,hmx]
   repeat first|refine nq ?_|refine sq ?_
   refine Jy λe3=>?_;simp[go_sem,hi,hx,Ft.enc]
   repeat first|refine nq ?_|refine sq ?_
   refine Qu hxs.2 λe4=>?_;simp[go_sem]
   repeat first|refine nq ?_|refine sq ?_
   refine Bs.lend _ _ _ _ _ _ 2 [n] (Pw [e1,e2,e3,e4] (by simp)) rfl (by simp) (λh' hh=>?_) ?_;have:=hh n (by simp);simp[hset]at this;simp[AZ,Fz,this,Bg,SV.storable,SV.cells];simp[go_sem]
   repeat first|refine nq ?_|refine sq ?_
   exact GQ ho (AQ ho (qa _) AB) (by simp[closed]) ⟨_,rfl⟩
end Go.Proofs.YtgakninlhfkkmaaGreat.Sh
