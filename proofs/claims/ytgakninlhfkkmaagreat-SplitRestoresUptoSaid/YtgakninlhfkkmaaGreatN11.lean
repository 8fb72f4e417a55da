/- A part of the proof (part 11 of 17). -/
import Derived.Test.YtgakninlhfkkmaaGreatN10
import Derived.Lib.ConvBytes
import Derived.Lib.UnsafeStr
import Derived.Lib.Builder
import Derived.Laws.Externs
import Derived.BigFrame
import Derived.WalkKit
namespace Go.Proofs.YtgakninlhfkkmaaGreat.Sh
abbrev kW:=@TC.use
open Proofs
set_option maxRecDepth 10000
theorem SI (l:List (Int×Int)) (j:Nat) (x v:Int):∃l',HF (GY l) j (AA x) (AA v)=GY l':=by
 unfold HF GY;exact⟨l.modify j λ_=>(x,v),by apply List.ext_getElem?;intro i;simp only[List.getElem?_modify,qO];by_cases e:j=i<;>cases l[i]? <;> simp[e]⟩
def hb (h:Hp) (n:Nat) (a0:List (Int×Int)) (a1 a2:List Int):Hp:=
 hset (hset (hset (hset (hset (hset h (n+1) (some (.map (GY a0)))) (n+2) (some (.map (Ed a1)))) (n+3) (some (.map (Ed a2)))) (n+4) (some (.map []))) (n+5) (some (.map []))) (n+6) (some (.cells [.map (n+1),.map (n+2),.map (n+3),.map (n+4),.map (n+5),AA 0]))
section
variable {h : Hp} {n : Nat} {a0 : List (Int × Int)} {a1 a2 : List Int}
theorem WJ:hb h n a0 a1 a2 (n+6)=some (.cells [.map (n+1),.map (n+2),.map (n+3),.map (n+4),.map (n+5),AA 0]):=by simp[hb,hset]
theorem WI:hb h n a0 a1 a2 (n+1)=some (.map (GY a0)):=by simp[hb,hset]
theorem Hn:hb h n a0 a1 a2 (n+2)=some (.map (Ed a1)):=by simp[hb,hset]
theorem TT:hb h n a0 a1 a2 (n+3)=some (.map (Ed a2)):=by simp[hb,hset]
theorem ZP:hb h n a0 a1 a2 (n+4)=some (.map []):=by simp[hb,hset]
theorem hb5:hb h n a0 a1 a2 (n+5)=some (.map []):=by simp[hb,hset]
theorem cC (b:List (Int×Int)):hset (hb h n a0 a1 a2) (n+1) (some (.map (GY b)))=hb h n b a1 a2:=by funext j;simp only[hb,hset];grind
theorem lz (b:List Int):hset (hb h n a0 a1 a2) (n+2) (some (.map (Ed b)))=hb h n a0 b a2:=by funext j;simp only[hb,hset];grind
theorem cE (b:List Int):hset (hb h n a0 a1 a2) (n+3) (some (.map (Ed b)))=hb h n a0 a1 b:=by funext j;simp only[hb,hset];grind
theorem RA (a:∀j y,h j=some y->j<n):∀j y,hb h n a0 a1 a2 j=some y->j<n+7:=λj y e=>by
 have:=a j y;simp only[hb,hset]at e;grind
theorem WK (a:∀j y,h j=some y->j<n):∀j y,h j=some y->hb h n a0 a1 a2 j=some y:=λj y e=>by
 have:=a j y;simp only[hb,hset];grind
end
def cP (d:AI) (h:Hp) (n:Nat):SV->Hp->Nat->Prop:=λv h' n'=>∃K:Ck,K.ok n'/\n<=n'/\v=.ptr K.p 0/\(∀o y,K.st ([],0) o=some y->h' o=some y)/\K.m2=Bd [] (d.revs.map (·.id))/\(∀j y,h j=some y->h' j=some y)/\∀o y,K.st ([],0) o=some y->n<=o
set_option maxHeartbeats 2000000 in
theorem d85 (d:AI) (h1:d.settings.styles.length<=1048576) (h2:d.settings.lists.length<=1048576) (h3:d.revs.length<=1048576) {h:Hp} {n:Nat}:BA Tryz.prog 85 [d.enc] h n (cP d h n):=by
 refine Db Tryz.func85 rfl λM=>?_;have s:=M.lt;obtain⟨X,F⟩:∃X:SV,X=.iptr ([AG d.flow]++d.«end».flat++[Ao d.revs]++d.settings.flat):=⟨_,rfl⟩
 refine BP 1 [(1,X)] h (λm=>n+1=m) ?_ (λm r=>?_);rw[F];simp[go_sem,AI.enc,AF.flat,AK.flat];exact⟨AV (AW s (qa _)) (AC _ _ _),AJ s AB⟩;subst r;refine BP 0 [(1,X),(3,.ptr (n+6) 0)] (hb h n [] [] []) (λm=>n+7=m) ?_ (λm r=>?_);simp[go_sem,IO,qD,hb,GY,Ed];subst r;refine AT 0 (α:=List (Int×Int)) (λ_=>[(1,X),(3,.ptr (n+6) 0)]) (λa=>hb h n a [] []) (λ_ m=>n+7<=m) ?_ (λa0 m r=>?_)
 . refine BP 0 [(1,X),(3,.ptr (n+6) 0),(19,Ae d.settings.styles),(20,AA d.settings.styles.length),(21,AA 0)] (hb h n [] [] []) (λm=>n+7<=m) ?_ (λm r=>?_);rw[F];simp[go_sem,IO,AF.flat,AK.flat];refine AR (BG 0 (α:=Nat×List (Int×Int)) (λq=>[(1,X),(3,.ptr (n+6) 0),(19,Ae d.settings.styles),(20,AA d.settings.styles.length),(21,AA q.1)]) (λq=>hb h n q.2 [] []) (λq m=>q.1<=d.settings.styles.length/\n+7<=m) (λq=>d.settings.styles.length-q.1) (0,[]) ⟨qg _,r⟩ ?_ AB ?_);simp[go_sem,Ai,IO];rintro⟨i,a⟩ m ⟨hi,r⟩;dsimp only at hi ⊢;have hlt7:∀j y,hb h n a [] [] j=some y->j<m:=λj y e=>by have:=RA (h:=h) (n:=n) (λj y e=>s j y e) j y e;omega
   refine AH ?_;by_cases k:i<d.settings.styles.length
   . obtain⟨x,u⟩:∃x,d.settings.styles[i]=x:=⟨_,rfl⟩
     have w1:=wS i (by omega);have B:n+6≠m:=by omega
     have A:n+1≠m:=by omega
     have fin:∀b z y,∃a',∀j w,hb h n a' [] [] j=some w->hset (hset (hset (hb h n a [] []) m y) m z) (n+1) (some (.map (GY b))) j=some w:=λb z y=>⟨b,λj w e=>by
      have:=RA (h:=h) (n:=n) (λj y e=>s j y e) j w e;rw[<-cC (a0:=a)]at e;simp only[hset]at e ⊢;split at e;rename_i c;rw[if_pos c];exact e;rename_i c;rw[if_neg c,if_neg (by omega),if_neg (by omega)];exact e⟩
     rcases Ib x.id a 0 with f|⟨j,v,f⟩
     . have l:GY a++[(AA x.id,AA x.kind)]=GY (a++[(x.id,x.kind)]):=by simp[GY]
       simp[go_sem,k,u,A6.enc,AC,AD,B,A,WJ,WI,f,CK,l,w1,-Int.natCast_add]
       repeat first|refine nq ?_|refine sq ?_|refine aq ?_
       obtain⟨a2,D⟩:=fin (a++[(x.id,x.kind)]) _ _;exact⟨i+1,by omega,⟨by omega,by omega⟩,a2,rfl,D⟩
     . obtain⟨a',E⟩:=SI a j x.id x.kind;simp only[HF]at E;simp[go_sem,k,u,A6.enc,AC,AD,B,A,WJ,WI,f,CK,E,w1,-Int.natCast_add]
       repeat first|refine nq ?_|refine sq ?_|refine aq ?_
       obtain⟨a2,D⟩:=fin a' _ _;exact⟨i+1,by omega,⟨by omega,by omega⟩,a2,rfl,D⟩
   simp[go_sem,k,IO];exact⟨by omega,a,AB⟩
 refine AT 0 (α:=List Int) (λ_=>[(1,X),(3,.ptr (n+6) 0)]) (λa=>hb h n a0 a []) (λa m=>n+7<=m) ?_ (λa1 m r=>?_)
 . refine BP 0 [(1,X),(3,.ptr (n+6) 0),(36,Di d.settings.lists),(37,AA d.settings.lists.length),(38,AA 0)] (hb h n a0 [] []) (λm=>n+7<=m) ?_ (λm r=>?_);rw[F];simp[go_sem,IO,AF.flat,AK.flat,r];refine AR (BG 0 (α:=Nat×List Int) (λq=>[(1,X),(3,.ptr (n+6) 0),(36,Di d.settings.lists),(37,AA d.settings.lists.length),(38,AA q.1)]) (λq=>hb h n a0 q.2 []) (λq m=>q.1<=d.settings.lists.length/\n+7<=m/\q.2=Bd [] ((d.settings.lists.take q.1).map (·.id))) (λq=>d.settings.lists.length-q.1) (0,[]) ⟨qg _,r,by simp[Bd]⟩ ?_ AB ?_);simp[go_sem,Ai,IO];rintro⟨i,a⟩ m ⟨hi,r,C⟩;dsimp only at hi C ⊢;refine AH ?_;by_cases k:i<d.settings.lists.length
   . obtain⟨x,u⟩:∃x,d.settings.lists[i]=x:=⟨_,rfl⟩
     have w1:=wS i (by omega);have B:n+6≠m:=by omega
     have A:n+2≠m:=by omega
     have g:Bd [] ((d.settings.lists.take (i+1)).map (·.id))=Ez a x.id:=by rw[qb k,u,qc,CF,<-C];rfl
     have fin:∀b z y,∀j w,hb h n a0 b [] j=some w->hset (hset (hset (hb h n a0 a []) m y) m z) (n+2) (some (.map (Ed b))) j=some w:=λb z y j w e=>by
      have:=RA (h:=h) (n:=n) (λj y e=>s j y e) j w e;rw[<-lz (a1:=a)]at e;simp only[hset]at e ⊢;split at e;rename_i c;rw[if_pos c];exact e;rename_i c;rw[if_neg c,if_neg (by omega),if_neg (by omega)];exact e
     by_cases p:x.id∈a
     . obtain⟨j,f,G⟩:=DS 0 p;have t:=JD G;simp only[HF]at t;rw[jc]at f;simp[go_sem,k,u,Fb.enc,AC,AD,B,A,WJ,Hn,f,CK,t,w1,-Int.natCast_add]
       repeat first|refine nq ?_|refine sq ?_|refine aq ?_
       refine⟨i+1,by omega,a,⟨by omega,by omega,?_⟩,rfl,fin a _ _⟩;rw[kz]at g;rw[g,Ez,if_pos p]
     . have f:=Du 0 p;have l:=Lf a x.id;simp[go_sem,k,u,Fb.enc,AC,AD,B,A,WJ,Hn,f,CK,l,w1,-Int.natCast_add]
       repeat first|refine nq ?_|refine sq ?_|refine aq ?_
       refine⟨i+1,by omega,a++[x.id],⟨by omega,by omega,?_⟩,rfl,fin _ _ _⟩;rw[kz]at g;rw[g,Ez,if_neg p]
   have:i=d.settings.lists.length:=by omega
   subst this;rw[qi]at C;simp[go_sem,IO];exact⟨by omega,a,AB⟩
 refine AT 0 (α:=List Int) (λ_=>[(1,X),(3,.ptr (n+6) 0)]) (λa=>hb h n a0 a1 a) (λa m=>n+7<=m/\a=Bd [] (d.revs.map (·.id))) ?_ (λa2 m r=>?_)
 . refine BP 0 [(1,X),(3,.ptr (n+6) 0),(50,Ao d.revs),(51,AA d.revs.length),(52,AA 0)] (hb h n a0 a1 []) (λm=>n+7<=m) ?_ (λm r=>?_);rw[F];simp[go_sem,IO,AF.flat,AK.flat,r];refine AR (BG 0 (α:=Nat×List Int) (λq=>[(1,X),(3,.ptr (n+6) 0),(50,Ao d.revs),(51,AA d.revs.length),(52,AA q.1)]) (λq=>hb h n a0 a1 q.2) (λq m=>q.1<=d.revs.length/\n+7<=m/\q.2=Bd [] ((d.revs.take q.1).map (·.id))) (λq=>d.revs.length-q.1) (0,[]) ⟨qg _,r,by simp[Bd]⟩ ?_ AB ?_);simp[go_sem,Ai,IO];rintro⟨i,a⟩ m ⟨hi,r,C⟩;dsimp only at hi C ⊢;refine AH ?_;by_cases k:i<d.revs.length
   . obtain⟨x,u⟩:∃x,d.revs[i]=x:=⟨_,rfl⟩
     have w1:=wS i (by omega);have B:n+6≠m:=by omega
     have A:n+3≠m:=by omega
     have g:Bd [] ((d.revs.take (i+1)).map (·.id))=Ez a x.id:=by rw[qb k,u,qc,CF,<-C];rfl
     have fin:∀b z y,∀j w,hb h n a0 a1 b j=some w->hset (hset (hset (hb h n a0 a1 a) m y) m z) (n+3) (some (.map (Ed b))) j=some w:=λb z y j w e=>by
      have:=RA (h:=h) (n:=n) (λj y e=>s j y e) j w e;rw[<-cE (a2:=a)]at e;simp only[hset]at e ⊢;split at e;rename_i c;rw[if_pos c];exact e;rename_i c;rw[if_neg c,if_neg (by omega),if_neg (by omega)];exact e
     by_cases p:x.id∈a
     . obtain⟨j,f,G⟩:=DS 0 p;have t:=JD G;simp only[HF]at t;rw[jc]at f;simp[go_sem,k,u,Ax.enc,AC,AD,B,A,WJ,TT,f,CK,t,w1,-Int.natCast_add]
       repeat first|refine nq ?_|refine sq ?_|refine aq ?_
       refine⟨i+1,by omega,a,⟨by omega,by omega,?_⟩,rfl,fin a _ _⟩;rw[kz]at g;rw[g,Ez,if_pos p]
     . have f:=Du 0 p;have l:=Lf a x.id;simp[go_sem,k,u,Ax.enc,AC,AD,B,A,WJ,TT,f,CK,l,w1,-Int.natCast_add]
       repeat first|refine nq ?_|refine sq ?_|refine aq ?_
       refine⟨i+1,by omega,a++[x.id],⟨by omega,by omega,?_⟩,rfl,fin _ _ _⟩;rw[kz]at g;rw[g,Ez,if_neg p]
   have:i=d.revs.length:=by omega
   subst this;rw[qi]at C;simp[go_sem,IO];exact⟨a,⟨by omega,C⟩,AB⟩
 refine AH ?_;simp[go_sem];refine .inl ⟨⟨n+6,n+1,n+2,n+3,n+4,n+5,a0,a1,a2⟩,⟨by simp,by simp;omega⟩,by omega,rfl,λo y e=>?_,r.2,WK s,λo y e=>?_⟩;simp only[Ck.st,Ck.cells,Ed]at e;by_cases L:o=n+6;subst L;simp at e;rw[WJ];exact congrArg some e;by_cases J:o=n+4;subst J;simp at e;rw[ZP];exact congrArg some e;by_cases c1:o=n+1;subst c1;simp at e;rw[WI];exact congrArg some e;by_cases H:o=n+2;subst H;simp at e;rw[Hn];exact congrArg some e;by_cases I:o=n+3;subst I;simp at e;rw[TT];exact congrArg some e;by_cases K:o=n+5;subst K;simp at e;rw[hb5];exact congrArg some e;rw[if_neg L,if_neg J,if_neg c1,if_neg H,if_neg I,if_neg K]at e;cases e;simp only[Ck.st]at e;by_cases c:n<=o;exact c;rw[if_neg (by omega),if_neg (by omega),if_neg (by omega),if_neg (by omega),if_neg (by omega),if_neg (by omega)]at e;cases e
def Yt:Tr:=.pure 0<|.pure 1<|.pure 3<|.pure 4<|.one 2<|.one 5<|.one 6<|.one 7<|.one 8 .nil
def VF:Tr:=.pure 0<|.pure 1<|.pure 2<|.pure 4<|.pure 5<|.pure 6<|.one 3<|.one 7<|.one 8<|.one 9<|.one 10<|.one 11<|.one 12<|.one 13<|.one 14<|.one 15<|.one 16<|.one 17<|.one 18<|.one 19<|.one 20<|.one 21 .nil
structure Hk (N:Nat) (d:AI):Prop where
 flow:RJ (Bd [] (d.revs.map (·.id))) N d.flow
 ids:∀i∈F6 N d.flow,1<=i/\i<=1073741824
 nodup:(F6 N d.flow).Nodup
 revs:EY d.revs=0
 «end» : C6 (Bd [] (d.revs.map (·.id))) d.«end»
 endI:d.«end».ins=0
set_option maxHeartbeats 2000000 in
theorem t24 (d:AI) {B N:Nat} (hB:B<=1048576) (hl:Da AF.sized B N d.flow) (he:d.«end».sized) (h1:d.settings.styles.length<=1048576) (h2:d.settings.lists.length<=1048576) (h3:d.revs.length<=1048576) (h4:∀r∈d.revs,r.author.size<=1048576)
 (h83:TC 83 [d.settings.enc] λv=>∃e,v=AA e):TC 24 [d.enc] (Py (Hk N d)):=by
 intro h n;refine Db Tryz.func24 rfl λho=>?_;have hHb:=ho.lt;obtain⟨X,hX⟩:∃X:SV,X=.iptr ([AG d.flow]++d.«end».flat++[Ao d.revs]++d.settings.flat):=⟨_,rfl⟩
 obtain⟨T,hT⟩:∃T:Prop,T=Hk N d:=⟨_,rfl⟩
 rw[<-hT];have no:∀(e:Int) (H2:Hp) (m:Nat),e≠0->(∀j y,h j=some y->H2 j=some y)->B8 n H2 m (AA e) (λv h' n'=>Py T v/\h'=h/\n'=n):=λe H2 m he hh=>GQ ho hh (by simp[closed]) (Py.no he);refine AY 1 [(1,X)] h n ?_ (λm hm=>?_);rw[hX];simp[go_sem,AI.enc,AF.flat,AK.flat];exact⟨AV (AW hHb (qa _)) (AC _ _ _),AJ hHb AB⟩;refine Bo 0 [(1,X)] h (λm=>n<=m/\EY d.revs=0) ?_ (λm hm=>?_)
 . refine AT 0 (α:=Int) (λe=>[(1,X),(3,AA e)]) (λ_=>h) (λe m=>n<=m/\(e=0->EY d.revs=0)) (BX Yt rfl (by kernel_rfl) (by kernel_rfl) ?_) (λe m hm=>?_);have hHm:∀j y,h j=some y->j<m:=λj y e=>by have:=hHb j y e;omega
   rw[hX];simp[go_sem,Yt,AF.flat,AK.flat];refine kW (by simpa[AK.enc,AK.flat]using h83) ?_;rintro v ⟨e,rfl⟩;simp[go_sem];refine(c84 d.revs h3 h4).use ?_;simp[go_sem];refine kU (bs:=[.imm 1 ([e,EY d.revs].map AA) false]) (h2:=h) 1 (AJ hHm AB) ⟨?_,trivial⟩ ?_;exact DV (es:=[AA e,AA (EY d.revs)]) (AW hHm (qa _)) (by simp) (by rw[AC];simp[SV.cells]) (by simp[SV.storable,SV.cells]);refine(Pw _ (by simp)).use ?_;generalize hf:CJ [e,EY d.revs]=ef;simp[go_sem,IO];refine⟨ef,⟨by omega,λh0=>?_⟩,IO⟩;rw[h0,CJ]at hf;split at hf;exact Dc hf;rename_i c;exact absurd hf c;by_cases e0:e=0
   case neg=>exact AH (by simp[go_sem,e0];exact no e _ _ e0 AB)
   have hrv:=hm.2 e0;rw[e0];exact AH (by simp[go_sem,IO,hm.1,hrv])
 obtain⟨hm,hrv⟩:=hm;refine BM 0 (α:=Ck) (λq=>[(1,X),(4,.ptr q.p 0)]) (λq=>Aj q.st ([],0) h) (λq m=>n<=m/\q.ok m/\q.m2=Bd [] (d.revs.map (·.id))/\∀o y,q.st ([],0) o=some y->n<=o) ?_ (λK n1 hq=>?_);rw[hX];simp[go_sem,AF.flat,AK.flat];refine qC (by simpa[AI.enc,AF.flat,AK.flat]using d85 d h1 h2 h3 (h:=h) (n:=m)) ?_;rintro v H' n' ⟨K,a1,a2,rfl,a4,a5,a6,a7⟩;simp[go_sem,IO];refine⟨K,⟨by omega,a1,a5,λo y e=>by have:=a7 o y e;omega⟩,IO,λo y e=>?_⟩;simp only[Aj]at e;cases c:K.st ([],0) o with
 | some z=>rw[c]at e;cases e;exact a4 o y c
 | none=>rw[c]at e;exact a6 o y e
 obtain⟨hn1,hK,hm2,hlo⟩:=hq;have D:=hK.clo;have hlos:∀s' o y,K.st s' o=some y->n<=o:=λs' o y e=>by
  cases c:K.st ([],0) o with
  | some z=>exact hlo o z c
  | none=>rw[D.dom ([],0) s' o c]at e;cases e
 have BE:∀s',∀j y,h j=some y->Aj K.st s' h j=some y:=λs' j y e=>by
  simp only[Aj];cases c:K.st s' j with
  | some z=>have:=hlos s' j z c;have:=hHb j y e;omega
  | none=>exact e
 have hUb:∀s' j y,Aj K.st s' h j=some y->j<n1:=λs' j y e=>(D.old s' (qa _) (λj y e=>⟨by have:=hHb j y e;omega,JL hn1 (ho j y e).2⟩) j y e).1;have hps:∀s',Aj K.st s' h K.p=some (.cells [.map K.s0,.map K.s1,.map K.s2,.map K.s3,.map K.s4,AA s'.2]):=λs'=>(hK.has (s:=s') Bw).p;refine AY 1 [(1,X),(4,.ptr K.p 0),(5,.iptr [AA d.«end».ins,AA d.«end».move,AP d.«end».dels,AL d.«end».layers])] (Aj K.st ([],0) h) n1 ?_ (λm hm=>?_);rw[hX];simp[go_sem,IO,AF.flat,AK.flat,AC];exact⟨AV (AW (hUb _) (qa _)) (AC _ _ _),AJ (hUb _) (AJ (hUb _) AB)⟩;refine Bo 0 [(1,X),(4,.ptr K.p 0)] (Aj K.st ([],0) h) (λm=>n1<=m/\C6 K.m2 d.«end»/\d.«end».ins=0) ?_ (λm hm=>?_)
 . have hd:=ZO hK ([],0) 3 d.«end» he (H:=Aj K.st ([],0) h) (n:=m) hm Bw;refine AT 0 (α:=Int×Fp) (λq=>[(1,X),(4,.ptr K.p 0),(6,AA q.1)]) (λq=>Aj K.st q.2 h) (λq m=>n1<=m/\(q.1=0->q.2=([],0)/\C6 K.m2 d.«end»/\d.«end».ins=0)) (BX VF rfl (by kernel_rfl) (by kernel_rfl) ?_) (λq m hm=>?_);rw[hX];have fin:∀(e ea:Int) (s2:Fp) (m1:Nat) (KK:SV->Hp->Nat->Prop),n1<=m1->KK (AA (CJ [e,ea])) (Aj K.st s2 h) (m1+1)->Ak (B6.plain.call false 0) Tryz.prog 82 [.sl m1 0 1 2 true] (hset (Aj K.st s2 h) m1 (some (.cells [AA e,AA ea]))) (m1+1) KK:=λe ea s2 m1 KK hm1 hk=>by
    refine kU (bs:=[.imm 1 ([e,ea].map AA) false]) (h2:=Aj K.st s2 h) 1 (AJ (λj z e=>by have:=hUb s2 j z e;omega) AB) ⟨?_,trivial⟩ ?_;exact DV (es:=[AA e,AA ea]) (AW (hUb s2) hm1) (by simp) (by rw[AC];simp[SV.cells]) (by simp[SV.storable,SV.cells]);exact(Pw _ (by simp)).use hk
   have hd':∀KK:SV->Hp->Nat->Prop,(∀e s2,(e=0->s2=([],0)/\C6 K.m2 d.«end»)->KK (AA e) (Aj K.st s2 h) m)->Ak (B6.plain.call false 0) Tryz.prog 86 [.ptr K.p 0,AA 3,.agg [Af d.«end».props,AA d.«end».ins,AA d.«end».move,AP d.«end».dels,AL d.«end».layers]] (Aj K.st ([],0) h) m KK:=λKK hk=>by
    refine qC (by simpa[AF.enc,AF.flat]using hd) ?_;rintro v H' n' ⟨e,s2,rfl,hT2,rfl,rfl⟩;rw[D.up2];exact hk e s2 hT2
   clear hd;generalize hin:d.«end».ins=ins at hd' ⊢;generalize hmv:d.«end».move=mv at hd' ⊢;by_cases i0:ins=0;subst i0;by_cases m0:mv=0;subst m0;simp[go_sem,VF,AF.flat,hin,hmv];refine hd' _ λe s2 hT2=>?_;simp[go_sem];refine(JK _ _).use ?_;simp[go_sem];refine fin _ _ _ _ _ hm ?_;generalize hf:CJ [e,_]=ef;simp[go_sem,IO];exact⟨ef,s2.1,s2.2,⟨by omega,λh0=>by have:=hT2 (Dc (by rw[hf];exact h0));rw[this.1];exact⟨⟨rfl,rfl⟩,this.2⟩⟩,IO,AB⟩;simp[go_sem,VF,AF.flat,hin,hmv];refine hd' _ λe s2 hT2=>?_;simp[go_sem,m0];refine(JK _ _).use ?_;simp[go_sem];refine fin _ _ _ _ _ hm ?_;generalize hf:CJ [e,_]=ef;simp[go_sem,IO];exact⟨ef,s2.1,s2.2,⟨by omega,λh0=>by have:=hT2 (Dc (by rw[hf];exact h0));rw[this.1];exact⟨⟨rfl,rfl⟩,this.2⟩⟩,IO,AB⟩;simp[go_sem,VF,AF.flat,hin,hmv,i0];refine hd' _ λe s2 hT2=>?_;simp[go_sem,i0];refine(JK _ _).use ?_;simp[go_sem];refine fin _ _ _ _ _ hm ?_;generalize hf:CJ [e,_]=ef;simp[go_sem,IO];have hne:¬ef=0:=by
    rw[<-hf];simp only[CJ];by_cases c:e=0<;>simp[c]
   exact⟨ef,⟨by omega,hne⟩,s2.1,s2.2,IO,AB⟩;obtain⟨e8,s8⟩:=q;dsimp only at hm ⊢;by_cases e80:e8=0
   case neg=>exact AH (by simp[go_sem,e80];exact no e8 _ _ e80 (BE _))
   obtain⟨h81,hhd⟩:=hm.2 e80;rw[e80,h81];exact AH (by simp[go_sem,IO,hm.1,hhd])
 obtain⟨hm,hhd⟩:=hm;refine AT 0 (α:=Fp) (λ_=>[(4,.ptr K.p 0)]) (λq=>Aj K.st q h) (λq m=>n1<=m/\more ([],0) q (F6 N d.flow)/\RJ K.m2 N d.flow) (AH ?_) (λq m hm=>?_);rw[hX];simp[go_sem,AF.flat,AK.flat];refine qC (by simpa[Bl.enc]using P9 hK hB N d.flow hl ([],0) ⟨true,false,0⟩ (Aj K.st ([],0) h) m hm Bw) ?_;rintro v H' n' ⟨e,s2,rfl,hT2,rfl,rfl⟩;rw[D.up2];by_cases e0:e=0;obtain⟨b1,b2⟩:=hT2 e0;simp[go_sem,e0,IO];exact⟨s2.1,s2.2,⟨hm,b1,b2⟩,AB⟩;simp[go_sem,e0];exact no e _ _ e0 (BE _);refine AH ?_;simp[go_sem,hps];refine(JK _ _).use ?_;simp[go_sem];refine GQ ho (BE _) (by simp[closed]) (Py.ok ?_);rw[hT];rw[hm2]at hm hhd;exact⟨hm.2.2,hm.2.1.2.1,by have:=hm.2.1.2.2 List.nodup_nil;rw[hm.2.1.1]at this;simpa using this,hrv,hhd.1,hhd.2⟩
def MK:Nat->List AE->Nat
 | 0,_=>0
 | N+1,l=>(l.map λx=>1+MK N x.flow+(x.rows.map λr=>(r.cells.map λc=>1+MK N c.flow).sum).sum).sum
def MB (N:Nat) (l:List Wl):Nat:=(l.map λc=>1+MK N c.flow).sum
def Kp (N:Nat) (l:List Aa):Nat:=(l.map λr=>MB N r.cells).sum
def MC (N:Nat) (l:List AE):Nat:=(l.map λx=>1+MK N x.flow+Kp N x.rows).sum
theorem UE (N:Nat) (l:List AE):MK (N+1) l=MC N l:=rfl
theorem L9 {α:Type} {f:α->Nat} {l:List α} {i:Nat} (hi:i<l.length) {x:α} (a:l[i]=x):((l.take (i+1)).map f).sum=((l.take i).map f).sum+f x:=by
 rw[qb hi,a];simp
theorem RF (N:Nat):∀l:List AE,l.length<=MC N l
 | []=>qa _
 | x::l=>by
  have:=RF N l;simp only[MC,qu,kK,qF]at this ⊢;omega
def MP:Nat->List AE->Prop
 | 0,_=>False
 | N+1,l=>l.length<=150/\∀x∈l,(x.text.size<=1000/\x.rows.length<=20)/\MP N x.flow/\∀r∈x.rows,r.cells.length<=20/\∀c∈r.cells,MP N c.flow
def WH (N:Nat) (x:AE):Prop:=(x.text.size<=1000/\x.rows.length<=20)/\MP N x.flow/\∀r∈x.rows,r.cells.length<=20/\∀c∈r.cells,MP N c.flow
def V9 (N:Nat) (l:List AE) (c0:Int) (p:Nat) (H:Hp) (n:Nat):SV->Hp->Nat->Prop:=λv h' n'=>∃b c,v=.bool b/\h'=hset H p (some (.cells [AA c]))/\n'=n/\(b=true->0<=c0/\c0<=150->0<=c/\c+MK N l<=c0/\MP N l)
def US (N:Nat) (l:List AE):Prop:=∀(dp:Int) (p:Nat) (c0:Int) (H:Hp) (n:Nat),H p=some (.cells [AA c0])->BA Tryz.prog 33 [AG l,AA dp,.ptr p 0] H n (V9 N l c0 p H n)
theorem L8 {α:Type} {p:α->Prop} {l:List α} {i:Nat} (hi:i<l.length) {x:α} (b:l[i]=x) (h:∀y∈l.take i,p y) (h2:p x):∀y∈l.take (i+1),p y:=λy a=>by
 rw[qb hi,b]at a;rcases qe.1 a with a|a;exact h y a;rw[qv.1 a];exact h2
set_option maxHeartbeats 4000000 in
theorem d33 (N:Nat) (l:List AE) (hl:l.length<=1048576) (hr:∀x∈l,x.head.props.length<=1048576/\US N x.flow/\x.rows.length<=1048576/\∀r∈x.rows,r.cells.length<=1048576/\∀c∈r.cells,US N c.flow):US (N+1) l:=λdp p c0 H n hp=>by
 refine Db Tryz.func33 rfl λho=>?_;have hpn:p<n:=(ho p _ hp).1;obtain⟨B,hB⟩:∃B:Int->Hp,∀c,B c=hset H p (some (.cells [AA c])):=⟨_,λ_=>rfl⟩
 have hBp:∀c,B c p=some (.cells [AA c]):=λc=>by rw[hB,AC]
 have hBs:∀c c',hset (B c) p (some (.cells [AA c']))=B c':=λc c'=>by rw[hB,hB,AS]
 have hB0 : B c0 = H := by rw [hB]; funext j; simp only [hset]; split; · subst_vars; exact hp.symm
                           rfl
 have As:∀(b:Bool) (c:Int) (m:Nat),(b=true->0<=c0/\c0<=150->0<=c/\c+MK (N+1) l<=c0/\MP (N+1) l)->B8 n (B c) m (.bool b) (V9 (N+1) l c0 p H n):=λb c m hb=>
  .inr ⟨0,.bool b,B c,IO,by simp[closed],λj y e=>⟨e,by
   rw[hB]at e;by_cases h:j=p;subst h;rw[AC]at e;cases e;exact⟨hpn,by simp[BQ,closed,closedL]⟩;rw[AD _ _ h]at e;exact ho j y e⟩,b,c,rfl,hB c,rfl,hb⟩
 have ret:∀(c:Int) (m:Nat),B8 n (B c) m (.bool false) (V9 (N+1) l c0 p H n):=λc m=>As false c m (by simp);refine AY 0 [(0,AG l),(1,AA dp),(2,.ptr p 0)] (B c0) n ?_ (λm hm=>?_);rw[hB0];simp[go_sem,IO];refine AT 0 (α:=Int) (λ_=>[]) (λc=>B c) (λc m=>n<=m/\(0<=c0/\c0<=150->0<=c/\c+MC N l<=c0/\∀x∈l,WH N x)) ?_ (λc m hm=>?_);refine AY 0 [(0,AG l),(1,AA dp),(2,.ptr p 0),(7,AA 0)] (B c0) n ?_ (λm hm=>?_);simp[go_sem,IO,hm];refine AR (BG 0 (α:=Nat×Int) (λq=>[(0,AG l),(1,AA dp),(2,.ptr p 0),(7,AA q.1)]) (λq=>B q.2) (λq m=>q.1<=l.length/\n<=m/\(0<=c0/\c0<=150->0<=q.2/\q.2+MC N (l.take q.1)<=c0/\∀x∈l.take q.1,WH N x)) (λq=>l.length-q.1) (0,c0) ⟨qg _,hm,λg=>⟨g.1,by simp[MC],by simp⟩⟩ ?_ AB ?_);simp[go_sem,Ai,IO];rintro⟨i,c⟩ m ⟨hi,hm,hG⟩;dsimp only at hi hG ⊢;by_cases hlt:i<l.length;obtain⟨x,hx⟩:∃x,l[i]=x:=⟨_,rfl⟩
 have hxm:x∈l:=by rw[<-hx];exact ql hlt
 obtain⟨x1,x2,x3,x4⟩:=hr x hxm;have w1:=wS i (by omega);refine AY 0 [(0,AG l),(1,AA dp),(2,.ptr p 0),(7,AA i)] (B c) n ?_ (λm hm=>?_);simp[go_sem,IO,hm,hlt];refine AT 0 (α:=Int) (λ_=>[(0,AG l),(1,AA dp),(2,.ptr p 0),(7,AA i)]) (λc=>B c) (λc m=>n<=m/\(0<=c0/\c0<=150->0<=c/\c+MC N (l.take (i+1))<=c0/\WH N x)) ?_ (λc m hm=>?_);refine AR ?_;refine BM 0 (α:=Int) (λ_=>[(0,AG l),(1,AA dp),(2,.ptr p 0),(7,AA i)]) (λc=>B c) (λc' m=>n<=m/\(0<=c0/\c0<=150->c'=c-1)) ?_ (λc' m hm=>?_);simp[go_sem,IO,hm,hBp,hBs];exact⟨_,λg1 g2=>by obtain⟨q1,q2,_⟩:=hG ⟨g1,g2⟩;rw[Cl]<;>omega,AB⟩;obtain⟨hm,hc'⟩:=hm;refine AT 0 (α:=Int) (λ_=>[(0,AG l),(1,AA dp),(2,.ptr p 0),(7,AA i)]) (λc=>B c) (λc2 m=>n<=m/\(0<=c0/\c0<=150->0<=c2/\c2+MK N x.flow<=c'/\(x.text.size<=1000/\x.rows.length<=20)/\MP N x.flow)) ?_ (λc m hm=>?_);refine BM 0 (α:=Bx×Int) (λq=>[(0,AG l),(1,AA dp),(2,.ptr p 0),(7,AA i),(68,.bool q.1.b)]) (λq=>B q.2) (λq m=>n<=m/\(q.1.b=false->0<=c0/\c0<=150->0<=q.2/\q.2+MK N x.flow<=c'/\(x.text.size<=1000/\x.rows.length<=20)/\MP N x.flow)) ?_ (λq m hm=>?_);generalize c'=c at hc' ⊢;by_cases a1:c<0;simp[go_sem,IO,hm,hBp,a1];exact⟨⟨true⟩,c,by simp,rfl,AB⟩;by_cases a2:dp=0;simp[go_sem,IO,hm,hBp,a1,a2];exact⟨⟨true⟩,c,by simp,rfl,AB⟩;by_cases a3:(1000:Int)<x.text.size;simp[go_sem,IO,hm,hBp,a1,a2,hlt,hx,qx,a3];exact⟨⟨true⟩,c,by simp,rfl,AB⟩;by_cases a4:(60:Int)<x.head.props.length;simp[go_sem,IO,hm,hBp,a1,a2,hlt,hx,qx,a3,a4];exact⟨⟨true⟩,c,by simp,rfl,AB⟩;by_cases a5:(20:Int)<x.rows.length;simp[go_sem,IO,hm,hBp,a1,a2,hlt,hx,qx,a3,a4,a5];exact⟨⟨true⟩,c,by simp,rfl,AB⟩;simp[go_sem,hBp,a1,a2,hlt,hx,qx,a3,a4,a5];refine qC (x2 _ p c (B c) m (hBp c)) ?_;rintro v H' n' ⟨b,c2,rfl,rfl,rfl,hb⟩;rw[hBs];simp[go_sem,IO,hm];exact⟨⟨!b⟩,c2,λg ga gb=>by
  have g1:0<=c0/\c0<=150:=⟨ga,gb⟩
  obtain⟨q1,q2,q3⟩:=hG g1;have e1:=hc' g1;obtain⟨r1,r2,r3⟩:=hb (by simpa using g) ⟨by omega,by omega⟩;exact⟨r1,r2,⟨by omega,by omega⟩,r3⟩,rfl,AB⟩
 obtain⟨⟨b⟩,c2⟩:=q;obtain⟨hm,hb⟩:=hm;dsimp only at hb ⊢;cases b with
 | true=>exact AH (by simp[go_sem];exact ret c2 _)
 | false=>exact AH (by simp[go_sem,IO,hm];exact⟨_,λg1 g2=>hb rfl ⟨g1,g2⟩,AB⟩)
 obtain⟨hm,hx2⟩:=hm;have hts:=L9 (f:=λx=>1+MK N x.flow+Kp N x.rows) hlt hx;change MC N _=MC N _+_ at hts;obtain⟨S,hS⟩:∃S:Nat,S=MC N (l.take i)+1+MK N x.flow:=⟨_,rfl⟩
 have hSt:MC N (l.take (i+1))=S+Kp N x.rows:=by omega
 rw[hSt];clear hts;have hG2:0<=c0/\c0<=150->0<=c/\c+S<=c0/\(x.text.size<=1000/\x.rows.length<=20)/\MP N x.flow:=λg=>by
  obtain⟨q1,q2,_⟩:=hG g;obtain⟨r1,r2,r3,r4⟩:=hx2 g;have:=hc' g;exact⟨r1,by omega,r3,r4⟩
 clear hG hx2 hc';refine AY 0 [(0,AG l),(1,AA dp),(2,.ptr p 0),(7,AA i),(8,AA 0)] (B c) n ?_ (λm hm=>?_);simp[go_sem,IO,hm];refine AR (BG 0 (α:=Nat×Int) (λq=>[(0,AG l),(1,AA dp),(2,.ptr p 0),(7,AA i),(8,AA q.1)]) (λq=>B q.2) (λq m=>q.1<=x.rows.length/\n<=m/\(0<=c0/\c0<=150->0<=q.2/\q.2+(S+Kp N (x.rows.take q.1):Nat)<=c0/\∀r∈x.rows.take q.1,r.cells.length<=20/\∀z∈r.cells,MP N z.flow)) (λq=>x.rows.length-q.1) (0,c) ⟨qg _,hm,λg=>⟨(hG2 g).1,(hG2 g).2.1,by simp⟩⟩ ?_ AB ?_);simp[go_sem,Ai,IO];have hx3:0<=c0/\c0<=150->(x.text.size<=1000/\x.rows.length<=20)/\MP N x.flow:=λg=>(hG2 g).2.2;clear hG2;rintro⟨j,c⟩ m ⟨hj,hm,hG⟩;dsimp only at hj hG ⊢;by_cases hjt:j<x.rows.length;obtain⟨y,hy⟩:∃y,x.rows[j]=y:=⟨_,rfl⟩
 have hym:y∈x.rows:=by rw[<-hy];exact ql hjt
 obtain⟨y1,y2⟩:=x4 y hym;have w2:=wS j (by omega);have hts:=L9 (f:=λr:Aa=>MB N r.cells) hjt hy;change Kp N _=Kp N _+_ at hts;obtain⟨U,hU⟩:∃U:Nat,U=S+Kp N (x.rows.take j):=⟨_,rfl⟩
 have hUt:S+Kp N (x.rows.take (j+1))=U+MB N y.cells:=by omega
 rw[<-hU]at hG;clear hts;refine AY 0 [(0,AG l),(1,AA dp),(2,.ptr p 0),(7,AA i),(8,AA j)] (B c) n ?_ (λm hm=>?_);simp[go_sem,IO,hm,hlt,hx,qx,hjt];refine AT 0 (α:=Int) (λ_=>[(0,AG l),(1,AA dp),(2,.ptr p 0),(7,AA i),(8,AA j)]) (λc=>B c) (λc m=>n<=m/\(0<=c0/\c0<=150->0<=c/\c+(S+Kp N (x.rows.take (j+1)):Nat)<=c0/\y.cells.length<=20/\∀z∈y.cells,MP N z.flow)) ?_ (λc m hm=>?_);refine AR ?_;refine Bo 0 [(0,AG l),(1,AA dp),(2,.ptr p 0),(7,AA i),(8,AA j)] (B c) (λm=>n<=m/\y.cells.length<=20) (AH ?_) (λm hm=>?_);by_cases a:(20:Int)<y.cells.length;simp[go_sem,hlt,hx,qx,hjt,hy,qQ,a];exact ret c _;simp[go_sem,hlt,hx,qx,hjt,hy,qQ,a,IO,hm];omega;obtain⟨hm,hyc⟩:=hm;refine AY 0 [(0,AG l),(1,AA dp),(2,.ptr p 0),(7,AA i),(8,AA j),(9,AA 0)] (B c) n ?_ (λm hm=>?_);simp[go_sem,IO,hm];refine AR (BG 0 (α:=Nat×Int) (λq=>[(0,AG l),(1,AA dp),(2,.ptr p 0),(7,AA i),(8,AA j),(9,AA q.1)]) (λq=>B q.2) (λq m=>q.1<=y.cells.length/\n<=m/\(0<=c0/\c0<=150->0<=q.2/\q.2+(U+MB N (y.cells.take q.1):Nat)<=c0/\∀z∈y.cells.take q.1,MP N z.flow)) (λq=>y.cells.length-q.1) (0,c) ⟨qg _,hm,λg=>⟨(hG g).1,(hG g).2.1,by simp⟩⟩ ?_ AB ?_);simp[go_sem,Ai,IO];clear hG;rintro⟨k,c⟩ m ⟨hk,hm,hG⟩;dsimp only at hk hG ⊢;by_cases hkt:k<y.cells.length;obtain⟨z,hz⟩:∃z,y.cells[k]=z:=⟨_,rfl⟩
 have hzm:z∈y.cells:=by rw[<-hz];exact ql hkt
 have z1:=y2 z hzm;have w3:=wS k (by omega);have hts:=L9 (f:=λc:Wl=>1+MK N c.flow) hkt hz;change MB N _=MB N _+_ at hts;refine AY 0 [(0,AG l),(1,AA dp),(2,.ptr p 0),(7,AA i),(8,AA j),(9,AA k)] (B c) n ?_ (λm hm=>?_);simp[go_sem,IO,hm,hlt,hx,qx,hjt,hy,qQ,hkt];refine AT 0 (α:=Int) (λ_=>[(0,AG l),(1,AA dp),(2,.ptr p 0),(7,AA i),(8,AA j),(9,AA k)]) (λc=>B c) (λc m=>n<=m/\(0<=c0/\c0<=150->0<=c/\c+(U+MB N (y.cells.take (k+1)):Nat)<=c0/\MP N z.flow)) ?_ (λc m hm=>?_);refine AR ?_;refine BM 0 (α:=Int) (λ_=>[(0,AG l),(1,AA dp),(2,.ptr p 0),(7,AA i),(8,AA j),(9,AA k)]) (λc=>B c) (λc' m=>n<=m/\(0<=c0/\c0<=150->c'=c-1)) ?_ (λc' m hm=>?_);simp[go_sem,IO,hm,hBp,hBs];exact⟨_,λg1 g2=>by obtain⟨q1,q2,_⟩:=hG ⟨g1,g2⟩;rw[Cl]<;>omega,AB⟩;obtain⟨hm,hc'⟩:=hm;refine BM 0 (α:=Bx×Int) (λq=>[(0,AG l),(1,AA dp),(2,.ptr p 0),(7,AA i),(8,AA j),(9,AA k),(132,.bool q.1.b)]) (λq=>B q.2) (λq m=>n<=m/\(q.1.b=false->0<=c0/\c0<=150->0<=q.2/\q.2+MK N z.flow<=c'/\MP N z.flow)) ?_ (λq m hm=>?_);generalize c'=c at hc' ⊢;by_cases a1:c<0;simp[go_sem,IO,hm,hBp,a1];exact⟨⟨true⟩,c,by simp,rfl,AB⟩;simp[go_sem,hBp,a1,hlt,hx,qx,hjt,hy,qQ,hkt,hz,QS];refine qC (z1 _ p c (B c) m (hBp c)) ?_;rintro v H' n' ⟨b,c2,rfl,rfl,rfl,hb⟩;rw[hBs];simp[go_sem,IO,hm];exact⟨⟨!b⟩,c2,λg ga gb=>by
  have g1:0<=c0/\c0<=150:=⟨ga,gb⟩
  obtain⟨q1,q2,q3⟩:=hG g1;have e1:=hc' g1;exact hb (by simpa using g) ⟨by omega,by omega⟩,rfl,AB⟩
 obtain⟨⟨b⟩,c2⟩:=q;obtain⟨hm,hb⟩:=hm;dsimp only at hb ⊢;cases b with
 | true=>exact AH (by simp[go_sem];exact ret c2 _)
 | false=>exact AH (by simp[go_sem,IO,hm];exact⟨_,λg1 g2=>by
  obtain⟨q1,q2,_⟩:=hG ⟨g1,g2⟩;obtain⟨r1,r2,r3⟩:=hb rfl ⟨g1,g2⟩;have:=hc' ⟨g1,g2⟩;exact⟨r1,by omega,r3⟩,AB⟩)
 obtain⟨hm,hz2⟩:=hm;refine AH ?_;simp[go_sem,w3,IO,-Int.natCast_add];exact⟨k+1,by omega,c,⟨by omega,hm,λga gb=>⟨(hz2 ⟨ga,gb⟩).1,(hz2 ⟨ga,gb⟩).2.1,L8 hkt hz (hG ⟨ga,gb⟩).2.2 (hz2 ⟨ga,gb⟩).2.2⟩⟩,rfl,AB⟩;refine AH ?_;have hkk:k=y.cells.length:=by omega
 rw[hkk,qi]at hG;simp[go_sem,hlt,hx,qx,hjt,hy,qQ,hkt,IO,hm];exact⟨c,λg1 g2=>⟨(hG ⟨g1,g2⟩).1,by have:=(hG ⟨g1,g2⟩).2.1;omega,hyc,(hG ⟨g1,g2⟩).2.2⟩,AB⟩;obtain⟨hm,hy2⟩:=hm;refine AH ?_;simp[go_sem,w2,IO,-Int.natCast_add];exact⟨j+1,by omega,c,⟨by omega,hm,λga gb=>⟨(hy2 ⟨ga,gb⟩).1,(hy2 ⟨ga,gb⟩).2.1,L8 hjt hy (hG ⟨ga,gb⟩).2.2 (hy2 ⟨ga,gb⟩).2.2⟩⟩,rfl,AB⟩;refine AH ?_;have hjj:j=x.rows.length:=by omega
 rw[hjj,qi]at hG;simp[go_sem,hlt,hx,qx,hjt,IO,hm];exact⟨c,λg1 g2=>⟨(hG ⟨g1,g2⟩).1,(hG ⟨g1,g2⟩).2.1,(hx3 ⟨g1,g2⟩).1,(hx3 ⟨g1,g2⟩).2,(hG ⟨g1,g2⟩).2.2⟩,AB⟩;obtain⟨hm,hx2⟩:=hm;refine AH ?_;simp[go_sem,w1,IO,-Int.natCast_add];exact⟨i+1,by omega,c,⟨by omega,hm,λga gb=>⟨(hx2 ⟨ga,gb⟩).1,by have:=(hx2 ⟨ga,gb⟩).2.1;omega,L8 hlt hx (hG ⟨ga,gb⟩).2.2 (hx2 ⟨ga,gb⟩).2.2⟩⟩,rfl,AB⟩;refine AH ?_;have hii:i=l.length:=by omega
 rw[hii,qi]at hG;simp[go_sem,hlt,hm];exact⟨c,λg1 g2=>hG ⟨g1,g2⟩,AB⟩;obtain⟨hm,hl2⟩:=hm;refine AH ?_;simp[go_sem];refine As true c _ λ_ g=>?_;obtain⟨q1,q2,q3⟩:=hl2 g;have:=RF N l;exact⟨q1,by rw[UE];exact q2,by omega,q3⟩
theorem V7 {B:Nat} (a:B<=1048576):∀(N:Nat) (l:List AE),Da AF.sized B N l->US N l
 | 0,_,h=>h.elim
 | N+1,l,h=>by
  obtain⟨h1,_,d⟩:=dS.1 h;refine d33 N l (by omega) λx e=>?_;obtain⟨a1,a2,a3,a4⟩:=d x e;exact⟨a1.props,V7 a N x.flow a2,by omega,λr b=>⟨by have:=(a4 r b).2.1;omega,λc hc=>V7 a N c.flow ((a4 r b).2.2 c hc).2⟩⟩
def Qb (N:Nat) (d:AI) (v:SV):Prop:=∃b,v=.bool b/\(b=true->Hk N d/\MP N d.flow/\MK N d.flow<=150)
set_option maxHeartbeats 4000000 in
theorem ck (d:AI) {B N:Nat} (hB:B<=1048576) (hl:Da AF.sized B N d.flow) (hc:TC 24 [d.enc] (Py (Hk N d))):TC 12 [d.enc] (Qb N d):=by
 intro h n;refine Db Tryz.func12 rfl λho=>?_;have hHb:=ho.lt;have fin:∀(b:Bool) (c:BT) (m:Nat),(b=true->Hk N d/\MP N d.flow/\MK N d.flow<=150)->B8 n (hset h (n+1) (some c)) m (.bool b) (λv h' n'=>Qb N d v/\h'=h/\n'=n):=λb c m hb=>GQ ho (AJ (λj z e=>by have:=hHb j z e;omega) AB) (by simp[closed]) ⟨b,rfl,hb⟩;refine BP 1 [(1,.iptr ([AG d.flow]++d.«end».flat++[Ao d.revs]++d.settings.flat))] h (λm=>n+1=m) ?_ (λm hm=>?_);simp[go_sem,AI.enc,AF.flat,AK.flat];exact⟨AV (AW hHb (qa _)) (AC _ _ _),AJ hHb AB⟩;subst hm;refine BP 0 [(1,.iptr ([AG d.flow]++d.«end».flat++[Ao d.revs]++d.settings.flat)),(3,.ptr (n+1) 0)] (hset h (n+1) (some (.cells [AA 150]))) (λm=>n+2=m) ?_ (λm hm=>?_);simp[go_sem,IO,AC,AS];subst hm;have hGb:∀j y,hset h (n+1) (some (.cells [AA 150])) j=some y->j<n+2:=λj y e=>by
  simp only[hset]at e;split at e;omega;have:=hHb j y e;omega
 refine BP 1 [(1,.iptr ([AG d.flow]++d.«end».flat++[Ao d.revs]++d.settings.flat)),(3,.ptr (n+1) 0),(4,.iptr d.settings.flat)] (hset h (n+1) (some (.cells [AA 150]))) (λm=>n+2<=m) ?_ (λm hm=>?_);simp[go_sem,IO,AF.flat,AK.flat,AC];exact⟨AV (AW hGb (qa _)) (AC _ _ _),AJ hGb (AJ hGb AB)⟩;refine AH ?_;have no:=λc m=>fin false c m (by simp);by_cases a1:(d.settings.comments.length:Int)<=30
 case neg=>simp[go_sem,AF.flat,AK.flat,a1];exact no _ _
 by_cases a2:(d.settings.styles.length:Int)<=30
 case neg=>simp[go_sem,AF.flat,AK.flat,a1,a2];exact no _ _
 by_cases a3:(d.settings.lists.length:Int)<=30
 case neg=>simp[go_sem,AF.flat,AK.flat,a1,a2,a3];exact no _ _
 by_cases a4:(d.settings.vars.length:Int)<=30
 case neg=>simp[go_sem,AF.flat,AK.flat,a1,a2,a3,a4];exact no _ _
 by_cases a5:(d.revs.length:Int)<=30
 case neg=>simp[go_sem,AF.flat,AK.flat,a1,a2,a3,a4,a5];exact no _ _
 simp[go_sem,AF.flat,AK.flat,a1,a2,a3,a4,a5];refine qC (V7 hB N d.flow hl 12 (n+1) 150 (hset h (n+1) (some (.cells [AA 150]))) m (AC _ _ _)) ?_;rintro v H' n' ⟨b,c,rfl,rfl,rfl,hfew⟩;rw[AS];cases b with
 | false=>simp[go_sem];exact no _ _
 | true=>
 simp[go_sem];refine kW (by simpa[AI.enc,AF.flat,AK.flat]using hc) ?_;rintro v ⟨e,rfl,hT⟩;simp[go_sem];obtain⟨f1,f2,f3⟩:=hfew rfl ⟨by omega,by omega⟩;exact fin _ _ _ λg=>⟨hT (by simpa using g),f3,by omega⟩
def FM (v:SV):Prop:=∃e:Int,v=AA e
def trS:Tr:=.pure 0<|.pure 1<|.pure 3<|.pure 4<|.pure 6<|.pure 7<|.pure 9<|.pure 10<|.one 2<|.one 5<|.one 8<|.one 11<|.one 12<|.one 13<|.one 14 .nil
theorem t83 (s:AK) (k:TC 146 [Ae s.styles] FM) (h2:TC 147 [Di s.lists] FM) (l:TC 148 [BZ s.comments] FM) (o:TC 149 [FI s.vars] FM):TC 83 [s.enc] FM:=by
 intro h n;refine Db Tryz.func83 rfl λi=>?_;have a:=i.lt;refine AY 1 [(1,.iptr s.flat)] h n ?_ (λm p=>?_);simp[go_sem,AK.enc,AK.flat];exact⟨AV (AW a (qa _)) (AC _ _ _),AJ a AB⟩;refine AT 0 (α:=Int) (λe=>[(2,AA e)]) (λ_=>h) (λ_ m=>n<=m) (BX trS rfl (by kernel_rfl) (by kernel_rfl) ?_) (λe m p=>?_);have b:∀j y,h j=some y->j<m:=λj y e=>by have:=a j y e;omega
 simp[go_sem,trS,AK.flat];refine kW k ?_;rintro v ⟨c,rfl⟩;simp[go_sem];refine kW h2 ?_;rintro v ⟨d,rfl⟩;simp[go_sem];refine kW l ?_;rintro v ⟨f,rfl⟩;simp[go_sem];refine kW o ?_;rintro v ⟨g,rfl⟩;simp[go_sem];refine kU (bs:=[.imm 1 ([c,d,f,g].map AA) false]) (h2:=h) 1 (AJ b AB) ⟨?_,trivial⟩ ?_;exact DV (es:=[AA c,AA d,AA f,AA g]) (AW b (qa _)) (by simp) (by rw[AC];simp[SV.cells]) (by simp[SV.storable,SV.cells]);refine(Pw _ (by simp)).use ?_;simp[go_sem];exact⟨by omega,_,IO⟩;refine AH ?_;simp[go_sem];exact GQ i AB (by simp[closed]) ⟨e,rfl⟩
theorem Ws (N:Nat) (hN:N<=1048576) (g:FuncId) (a b:List SV) (l:∀j,j<N->TC g (a++[AA j]++b) FM):TC 150 [AA N,.fn (.func g) a b] FM:=by
 intro h n;refine gq Tryz.func150 rfl λi=>?_;simp[go_sem];refine An 0 (α:=Nat) (λk=>[(1,.fn (.func g) a b),(7,AA N),(8,AA k)]) (λ_=>h) (λk m=>k<=N/\n<=m) (λk=>N-k) 0 ⟨qg _,qa _⟩ ?_ AB ?_;simp[Ai,Fz];rintro k m ⟨hk,d⟩;by_cases c:k<N;have w1:=wS k (by omega);have f:=l k c;simp only[qn,List.singleton_append]at f;simp[go_sem,c];refine f.use ?_;rintro v ⟨e,rfl⟩;by_cases h0:e=0;simp[go_sem,h0,w1,-Int.natCast_add];exact⟨k+1,by omega,⟨by omega,d⟩,rfl⟩;simp[go_sem,h0];exact GQ i AB (by simp[closed]) ⟨e,rfl⟩;simp[go_sem,c];exact GQ i AB (by simp[closed]) ⟨0,rfl⟩
def XE:Tr:=.pure 0<|.pure 1<|.pure 2<|.pure 4<|.pure 5<|.pure 6<|.pure 7<|.one 3<|.one 8<|.one 9<|.one 10<|.one 11 .nil
theorem cn (l:List Fb) (hl:l.length<=1048576) (hc:∀i,i<l.length->TC 210 [AA i,.iptr [Di l]] FM):TC 147 [Di l] FM:=by
 intro h n;refine Db Tryz.func147 rfl λd=>?_;have a:=d.lt;refine AY 1 [(1,.iptr [Di l])] h n ?_ (λm g=>?_);simp[go_sem];exact⟨AV (AW a (qa _)) (AC _ _ _),AJ a AB⟩;refine AT 0 (α:=Int) (λe=>[(2,AA e)]) (λ_=>h) (λ_ m=>n<=m) (BX XE rfl (by kernel_rfl) (by kernel_rfl) ?_) (λe m g=>?_);have b:∀j y,h j=some y->j<m:=λj y e=>by have:=a j y e;omega
 have f:(if(64:Int)<l.length then(64:Int)else l.length)=((min l.length 64:Nat):Int):=by split<;>omega
 simp[go_sem,XE];refine(JK _ _).use ?_;simp[go_sem,f];refine(Ws (min l.length 64) (by omega) 210 [] [.iptr [Di l]] (λj hj=>hc j (by omega))).use ?_;rintro v ⟨c,rfl⟩;simp[go_sem];generalize(if 64<(l.length:Int)then(9:Int)else 0)=e1;refine kU (bs:=[.imm 1 ([e1,c].map AA) false]) (h2:=h) 1 (AJ b AB) ⟨?_,trivial⟩ ?_;exact DV (es:=[AA e1,AA c]) (AW b (qa _)) (by simp) (by rw[AC];simp[SV.cells]) (by simp[SV.storable,SV.cells]);refine(Pw _ (by simp)).use ?_;simp[go_sem];exact⟨by omega,_,IO⟩;refine AH ?_;simp[go_sem];exact GQ d AB (by simp[closed]) ⟨e,rfl⟩
theorem co (l:List Au) (hl:l.length<=1048576) (hc:∀i,i<l.length->TC 213 [AA i,.iptr [BZ l]] FM):TC 148 [BZ l] FM:=by
 intro h n;refine Db Tryz.func148 rfl λd=>?_;have a:=d.lt;refine AY 1 [(1,.iptr [BZ l])] h n ?_ (λm g=>?_);simp[go_sem];exact⟨AV (AW a (qa _)) (AC _ _ _),AJ a AB⟩;refine AT 0 (α:=Int) (λe=>[(2,AA e)]) (λ_=>h) (λ_ m=>n<=m) (BX XE rfl (by kernel_rfl) (by kernel_rfl) ?_) (λe m g=>?_);have b:∀j y,h j=some y->j<m:=λj y e=>by have:=a j y e;omega
 have f:(if(1024:Int)<l.length then(1024:Int)else l.length)=((min l.length 1024:Nat):Int):=by split<;>omega
 simp[go_sem,XE];refine(JK _ _).use ?_;simp[go_sem,f];refine(Ws (min l.length 1024) (by omega) 213 [] [.iptr [BZ l]] (λj hj=>hc j (by omega))).use ?_;rintro v ⟨c,rfl⟩;simp[go_sem];generalize(if 1024<(l.length:Int)then(9:Int)else 0)=e1;refine kU (bs:=[.imm 1 ([e1,c].map AA) false]) (h2:=h) 1 (AJ b AB) ⟨?_,trivial⟩ ?_;exact DV (es:=[AA e1,AA c]) (AW b (qa _)) (by simp) (by rw[AC];simp[SV.cells]) (by simp[SV.storable,SV.cells]);refine(Pw _ (by simp)).use ?_;simp[go_sem];exact⟨by omega,_,IO⟩;refine AH ?_;simp[go_sem];exact GQ d AB (by simp[closed]) ⟨e,rfl⟩
theorem cp (l:List Ft) (hl:l.length<=1048576) (hc:∀i,i<l.length->TC 218 [AA i,.iptr [FI l]] FM):TC 149 [FI l] FM:=by
 intro h n;refine Db Tryz.func149 rfl λd=>?_;have a:=d.lt;refine AY 1 [(1,.iptr [FI l])] h n ?_ (λm g=>?_);simp[go_sem];exact⟨AV (AW a (qa _)) (AC _ _ _),AJ a AB⟩;refine AT 0 (α:=Int) (λe=>[(2,AA e)]) (λ_=>h) (λ_ m=>n<=m) (BX XE rfl (by kernel_rfl) (by kernel_rfl) ?_) (λe m g=>?_);have b:∀j y,h j=some y->j<m:=λj y e=>by have:=a j y e;omega
 have f:(if(128:Int)<l.length then(128:Int)else l.length)=((min l.length 128:Nat):Int):=by split<;>omega
 simp[go_sem,XE];refine(JK _ _).use ?_;simp[go_sem,f];refine(Ws (min l.length 128) (by omega) 218 [] [.iptr [FI l]] (λj hj=>hc j (by omega))).use ?_;rintro v ⟨c,rfl⟩;simp[go_sem];generalize(if 128<(l.length:Int)then(9:Int)else 0)=e1;refine kU (bs:=[.imm 1 ([e1,c].map AA) false]) (h2:=h) 1 (AJ b AB) ⟨?_,trivial⟩ ?_;exact DV (es:=[AA e1,AA c]) (AW b (qa _)) (by simp) (by rw[AC];simp[SV.cells]) (by simp[SV.storable,SV.cells]);refine(Pw _ (by simp)).use ?_;simp[go_sem];exact⟨by omega,_,IO⟩;refine AH ?_;simp[go_sem];exact GQ d AB (by simp[closed]) ⟨e,rfl⟩
theorem aN (l:List Fb) (i:Nat) (hi:i<l.length):PC 211 [AA i,.iptr [Di l]] (AA (l[i]).id):=by
 intro h n;refine gq Tryz.func211 rfl λa=>?_;simp[go_sem,hi,Fb.enc];exact As a rfl rfl
def trO:Tr:=.pure 0<|.pure 1<|.pure 3<|.pure 4<|.pure 5<|.pure 6<|.pure 7<|.one 2<|.one 8<|.one 9<|.one 10<|.one 11 .nil
theorem ct (l:List Fb) (hl:l.length<=1048576) (i:Nat) (hi:i<l.length) (hc:TC 212 [DL (l[i]).levels] FM):TC 210 [AA i,.iptr [Di l]] FM:=by
 intro h n;refine Db Tryz.func210 rfl λf=>?_;have c:=f.lt;obtain⟨x,g⟩:∃x,l[i]=x:=⟨_,rfl⟩
 rw[g]at hc;refine AY 0 [(0,AA i),(1,.iptr [Di l])] h n ?_ (λm o=>?_);simp[go_sem,IO];refine AT 0 (α:=Int) (λe=>[(3,AA e)]) (λ_=>h) (λ_ m=>n<=m) (BX trO rfl (by kernel_rfl) (by kernel_rfl) ?_) (λe m o=>?_);have a:∀j y,h j=some y->j<m:=λj y e=>by have:=c j y e;omega
 simp[go_sem,trO,hi,g,Fb.enc];have k:∀j,j<=i->PC 211 ([]++[AA j]++[.iptr [Di l]]) (AA (match l[j]? with|some r=>r.id|none=>0)):=λj hj=>by
  have b:j<l.length:=by omega
  simpa[b]using aN l j b
 refine(V0 i (by omega) 211 [] [.iptr [Di l]] (λj=>match l[j]? with|some r=>r.id|none=>0) k).use ?_;generalize G1 (λj=>match l[j]? with|some r=>r.id|none=>0) i=e1;simp[go_sem];refine hc.use ?_;rintro v ⟨d,rfl⟩;simp[go_sem];refine kU (bs:=[.imm 1 ([e1,d].map AA) false]) (h2:=h) 1 (AJ a AB) ⟨?_,trivial⟩ ?_;exact DV (es:=[AA e1,AA d]) (AW a (qa _)) (by simp) (by rw[AC];simp[SV.cells]) (by simp[SV.storable,SV.cells]);refine(Pw _ (by simp)).use ?_;simp[go_sem];exact⟨by omega,_,IO⟩;refine AH ?_;simp[go_sem];exact GQ f AB (by simp[closed]) ⟨e,rfl⟩
theorem cv (l:List CX) (hl:l.length<=1048576) (hc:∀x∈l,∀k:Int,TC 271 [.str x.template,AA k] FM):TC 212 [DL l] FM:=by
 intro h n;refine Db Tryz.func212 rfl λq=>?_;have f:=q.lt;have out:∀(e:Int) (m:Nat),B8 n h m (AA e) (λv h' n'=>FM v/\h'=h/\n'=n):=λe m=>GQ q AB (by simp[closed]) ⟨e,rfl⟩;refine AY 0 [(0,DL l)] h n ?_ (λm a=>?_);simp[go_sem,IO];refine Bc 0 [(0,DL l)] h n (AH ?_) (λm a=>?_);by_cases c:l=[];simp[go_sem,c];exact out _ _;by_cases o:(9:Int)<l.length;simp[go_sem,c,o];exact out _ _;simp[go_sem,c,o,IO,a];refine Bc 0 [] h n ?_ (λm a=>?_);refine AY 0 [(14,DL l),(15,AA l.length),(16,AA 0)] h n ?_ (λm a=>?_);simp[go_sem,IO,a];refine AR (BG 0 (α:=Nat) (λi=>[(14,DL l),(15,AA l.length),(16,AA i)]) (λ_=>h) (λi m=>i<=l.length/\n<=m) (λi=>l.length-i) 0 ⟨qg _,a⟩ ?_ AB ?_);simp[go_sem,Ai,IO];rintro i m ⟨hi,a⟩;by_cases b:i<l.length;obtain⟨x,r⟩:∃x,l[i]=x:=⟨_,rfl⟩
 have g:x∈l:=by rw[<-r];exact ql b
 have w1:=wS i (by omega);refine AY 0 [(14,DL l),(15,AA l.length),(16,AA i),(17,.bool true)] h n ?_ (λm a=>?_);simp[go_sem,IO,a,b];refine AY 0 [(14,DL l),(15,AA l.length),(16,AA i)] h n ?_ (λm a=>?_);simp[go_sem,IO,a];refine Bc 0 [(14,DL l),(15,AA l.length),(16,AA i)] h n ?_ (λm a=>?_);refine AR ?_;refine AY 1 [(14,DL l),(15,AA l.length),(16,AA i),(3,AA i),(4,.iptr [AA x.format,AA x.start,.str x.template,AA x.restart])] h n ?_ (λm a=>?_);have d:∀j y,h j=some y->j<m:=λj y e=>by have:=f j y e;omega
 simp[go_sem,IO,b,r,CX.enc,AC];exact⟨by omega,AV (AW d (qa _)) (AC _ _ _),AJ d (AJ d AB)⟩;refine AT 0 (α:=Unit) (λ_=>[(14,DL l),(15,AA l.length),(16,AA i),(3,AA i),(4,.iptr [AA x.format,AA x.start,.str x.template,AA x.restart])]) (λ_=>h) (λ_ m=>n<=m) (AR (AH ?_)) (λ_ m a=>?_);by_cases a1:x.format<1;simp[go_sem,a1];exact out _ _;by_cases a2:7<x.format;simp[go_sem,a1,a2];exact out _ _;by_cases a3:x.start<0;simp[go_sem,a1,a2,a3];exact out _ _;by_cases a4:32767<x.start;simp[go_sem,a1,a2,a3,a4];exact out _ _;simp[go_sem,a1,a2,a3,a4,IO,a];refine Bc 0 [(14,DL l),(15,AA l.length),(16,AA i),(3,AA i),(4,.iptr [AA x.format,AA x.start,.str x.template,AA x.restart])] h n (AH ?_) (λm a=>?_);simp[go_sem,w1,-Int.natCast_add];refine(hc x g _).use ?_;rintro v ⟨e,rfl⟩;by_cases p:e=0;simp[go_sem,p,IO,a];simp[go_sem,p];exact out _ _;refine AH ?_;by_cases a1:x.restart<0;simp[go_sem,a1];exact out _ _;by_cases a2:(i:Int)<x.restart;simp[go_sem,a1,a2];exact out _ _;simp[go_sem,a1,a2,IO,a];refine AH ?_;simp[go_sem,w1,IO,-Int.natCast_add];exact⟨i+1,by omega,⟨by omega,a⟩,rfl⟩;refine AH ?_;simp[go_sem,b,a];refine AH ?_;simp[go_sem];exact out _ _
theorem aQ (l:List Au) (i:Nat) (hi:i<l.length):PC 216 [AA i,.iptr [BZ l]] (AA (l[i]).id):=by
 intro h n;refine gq Tryz.func216 rfl λa=>?_;simp[go_sem,hi,Au.enc];exact As a rfl rfl
theorem aP (x y:Au):PC 215 [y.enc,.iptr [AA x.id,AA x.parent,.str x.author,AA x.time,.str x.text,.bool x.done]] (.bool (decide (y.id=x.parent))):=by
 intro h n;refine gq Tryz.func215 rfl λa=>?_;simp[go_sem,Au.enc,AC];exact Ay a (AQ a (qa _) AB) (by by_cases h:y.id=x.parent<;>simp[h]) rfl
def trT:Tr:=.pure 0<|.pure 1<|.pure 3<|.pure 4<|.pure 6<|.pure 7<|.pure 11<|.pure 12<|.pure 16<|.pure 17<|.one 2<|.one 5<|.one 8<|.one 9<|.one 10<|.one 13<|.one 14<|.one 15<|.one 18<|.one 19<|.one 20<|.one 21 .nil
theorem mF (l:List Au) (hl:l.length<=1048576) (u:∀x∈l,x.author.size<=1048576/\x.text.size<=1048576) (i:Nat) (hi:i<l.length):TC 213 [AA i,.iptr [BZ l]] FM:=by
 intro h n;refine Db Tryz.func213 rfl λq=>?_;have a:=q.lt;obtain⟨x,s⟩:∃x,l[i]=x:=⟨_,rfl⟩
 have hxs:=u x (by rw[<-s];exact ql hi);obtain⟨X,g⟩:∃X:SV,X=.iptr [AA x.id,AA x.parent,.str x.author,AA x.time,.str x.text,.bool x.done]:=⟨_,rfl⟩
 refine Bp 0 [(0,AA i),(1,.iptr [BZ l])] h n ?_ (λm c=>?_);simp[go_sem,IO];subst c;refine AY 1 [(0,AA i),(1,.iptr [BZ l]),(4,X)] h n ?_ (λm c=>?_);rw[g];simp[go_sem,IO,hi,s,Au.enc,AC];exact⟨AV (AW a (qa _)) (AC _ _ _),AJ a (AJ a AB)⟩;refine BM 0 (α:=Bx) (λb=>[(0,AA i),(1,.iptr [BZ l]),(4,X),(5,.bool b.b)]) (λ_=>h) (λ_ m=>n<=m) ?_ (λb m c=>?_)
 . rw[g];by_cases o:x.parent=0;simp[go_sem,o,IO,c];exact⟨⟨_⟩,rfl⟩
   . have k:i<=l.length:=by omega
     have hc:=aO (l.take i) (by simp;omega) 215 [] [.iptr [AA x.id,AA x.parent,.str x.author,AA x.time,.str x.text,.bool x.done]] (λj=>match(l.take i)[j]? with|some y=>decide (y.id=x.parent)|none=>false) (λj p=>by rw[qf p];exact aP x _);generalize Rc (λj=>match(l.take i)[j]? with|some y=>decide (y.id=x.parent)|none=>false) (l.take i).length=ba at hc;rw[kz]at hc;simp[go_sem,o,k,-List.map_take];refine qw hc ?_;simp[go_sem,IO,c,o];exact⟨⟨ba⟩,IO⟩
 obtain⟨b⟩:=b;dsimp only;refine AT 0 (α:=Int) (λe=>[(3,AA e)]) (λ_=>h) (λ_ m=>n<=m) (BX trT rfl (by kernel_rfl) (by kernel_rfl) ?_) (λe m c=>?_);have d:∀j y,h j=some y->j<m:=λj y e=>by have:=a j y e;omega
 rw[g];simp[go_sem,trT];have t:∀j,j<=i->PC 216 ([]++[AA j]++[.iptr [BZ l]]) (AA (match l[j]? with|some r=>r.id|none=>0)):=λj p=>by
  have f:j<l.length:=by omega
  simpa[f]using aQ l j f
 refine(V0 i (by omega) 216 [] [.iptr [BZ l]] (λj=>match l[j]? with|some r=>r.id|none=>0) t).use ?_;generalize G1 (λj=>match l[j]? with|some r=>r.id|none=>0) i=e1;simp[go_sem];refine(JK _ _).use ?_;simp[go_sem];refine(XY x.author (by omega)).use ?_;simp[go_sem];refine(JK _ _).use ?_;simp[go_sem];refine(Jw _ _ _).use ?_;simp[go_sem];refine(JK _ _).use ?_;simp[go_sem];refine(Xf x.text (by omega)).use ?_;simp[go_sem];generalize(if b=false then(8:Int)else 0)=e2;generalize(if EN x.author=false then(39:Int)else 0)=e3;generalize(if x.time<0\/1099511627776<x.time then(40:Int)else 0)=e4;generalize OD x.text=e5;refine kU (bs:=[.imm 1 ([e1,e2,e3,e4,e5].map AA) false]) (h2:=h) 1 (AJ d AB) ⟨?_,trivial⟩ ?_;exact DV (es:=[AA e1,AA e2,AA e3,AA e4,AA e5]) (AW d (qa _)) (by simp) (by rw[AC];simp[SV.cells]) (by simp[SV.storable,SV.cells]);refine(Pw _ (by simp)).use ?_;simp[go_sem];exact⟨by omega,_,IO⟩;refine AH ?_;simp[go_sem];exact GQ q AB (by simp[closed]) ⟨e,rfl⟩
section
variable {P : Program} {E : B6} {evs : Operand → SV} {o : Oper} {h : Hp} {n : Nat} {K : SV → Hp → Nat → Prop}
abbrev EJ (b:UInt8):SV:=.int .u8 b.toNat
theorem SE {j dst e:TypeId} {x:Operand} {s:ByteArray} (r:o.op=.convert j dst x) (B:FC P j=true) (y:A9 P dst=some e) (z:Jl P e=some .u8) (g:evs x=.str s)
 (A:K (.imm 1 (s.data.toList.map EJ) false) h n):EI E P evs o h n K:=by
 refine⟨by rw[r];simp,λc ev _ _ R F C=>?_⟩;have d:=C x;rw[g]at d;have d:=Kq d;have m:=Lib.run_convert_string_bytes (P:=P) c.w j dst e s (FD B) (A5 y) (FY z);have p:=Lib.bytesWorld_size c.w e s;have X:DZ c { c with w:=Lib.bytesWorld c.w e s }:=by
  refine⟨λ_ _ e=>e,by simp[p],λb hb hn=>⟨hn,Lib.bytesWorld_at_old c.w e s b hb⟩,λb=>?_,?_,?_,?_,?_⟩;unfold rm;rcases ji b c.w.heap.size with g|g;simp only[Lib.bytesWorld_at_old c.w e s b g];exact qa _;simp[jg g];simp only[Lib.bytesWorld,World.freeze];split<;>rfl;simp only[Lib.bytesWorld,World.freeze];split<;>rfl;simp only[Lib.bytesWorld,World.freeze];split<;>rfl;simp only[Lib.bytesWorld,World.freeze];split<;>first|exact qa _|exact je _
 have k:s.size<=grownCap c.w s.size 0 e:=by unfold grownCap;exact Nat.le_add_right _ _
 have f:s.data.toList.length=s.size:=by rw[jU];rfl
 refine⟨.slice (some ⟨c.w.heap.size,0,none⟩) s.size (grownCap c.w s.size 0 e),.imm 1 (s.data.toList.map EJ) false,h,n,{ c with w:=Lib.bytesWorld c.w e s },by simp only[execOp,r,d,Sem.run_bind,m,Result.andThen_ok,Sem.run_pure],?_,⟨λo x e=>(R.obj o x e).mono X λb hb=>?_,R.inj2,R.own2⟩,F,⟨X,qa _,λ_ _=>rfl⟩,A⟩;rw[V];refine .inr ⟨⟨c.w.heap.size,0,none⟩,grownCap c.w s.size 0 e,s.data.toList.map (λb=>Value.int .u8 b.toNat),by simp[f],by simp[f];exact k,by simp,⟨λ_=>rfl,λ_ hb=>?_,λi x hi=>?_,λx g=>?_⟩,?_⟩;obtain⟨D,x,t,v⟩:=(R.own2 _).1 hb;exact Nat.lt_irrefl _ ((R.obj D x t).hold_lt v);rw[qO,qX]at hi;obtain⟨b,hb,rfl⟩:=hi;have hil:=(qo.1 hb).1;have:=Lib.bytesWorld_cell c.w e s i (by omega);rw[KW,hb]at this;simpa using this;obtain⟨b,_,rfl⟩:=qy.1 g;rfl;rw[Ho];refine⟨s.data.toList.map (λb=>Value.int .u8 b.toNat),AZ.map (R:=λa b=>a=b) (λa b e=>by subst e;simp[V]) ?_,?_,?_,?_⟩;have:∀l:List UInt8,AZ (λa b=>a=b) l l:=λl=>by induction l with|nil=>trivial|cons a l ih=>exact⟨rfl,ih⟩
 exact this _;intro u q;obtain⟨b,_,rfl⟩:=qy.1 q;rfl;intro u q;obtain⟨b,_,rfl⟩:=qy.1 q;rfl;have:∀l:List UInt8,l.map (λb=>Value.int .u8 b.toNat)=(l.map (λb=>Value.int .u8 b.toNat)).flatMap (·.cells.toList):=λl=>by induction l with|nil=>rfl|cons a l ih=>rw[qu,qK,<-ih];rfl
 exact this _;exact Lib.bytesWorld_at_old c.w _ s b ((R.obj o x e).hold_lt hb)
theorem MV {x:Operand} {f:Array TypeId} {j off z len:Nat} {full:Bool} (d:o.op=.call { callee:=.builtin .unsafeSliceData,args:=#[x],argTypes:=f }) (l:evs x=.sl j off z len full) (hl:len≠0)
 (g:K (.ptr j off) h n):EI E P evs o h n K:=by
 refine⟨by rw[d];simp,λc ev _ _ R F k=>?_⟩;have a:=k x;rw[l,V]at a;obtain⟨b,st,cap,hρ,i,hcap,_⟩:=a;refine⟨.pointer (some ⟨b,st+off,none⟩),.ptr j off,h,n,c,?_,by rw[V];exact⟨b,st,hρ,rfl⟩,R,F,ke n c,g⟩;refine Bi (P:=P) (ev:=ev) d _ _ _ λcs=>?_;have e:=Lib.run_unsafeSliceData_row (P:=P) c.w f o.type ⟨b,st+off,none⟩ len cap (by omega);simp only[BigFrame.builtin_unsafeSliceData,Sem.run_bind,Sem.run_pure];simp only[List.map_toArray,qu,qS,i]at e ⊢;rw[e];rfl
theorem KL {x y:Operand} {M it e:TypeId} {j:Nat} {bs:List UInt8} (S:o.op=.call { callee:=.builtin .unsafeString,args:=#[x,y],argTypes:=#[M,it] }) (D:P.underlying M=some (.pointer e)) (hc:P.cellsOf e=1)
 (hx:evs x=.ptr j 0) (hy:evs y=.int .i64 bs.length) (t:h j=some (.cells (bs.map EJ) (some e))) (m:bs≠[]) (z:bs.length<=9223372036854775807)
 (a:K (.str ⟨bs.toArray⟩) (hset h j none) n):EI E P evs o h n K:=by
 refine⟨by rw[S];simp,λc ev _ _ R F U=>?_⟩;have q:=U x;rw[hx,V]at q;obtain⟨b,st,hρ,hu⟩:=q;have d:=U y;rw[hy]at d;have d:=C7 d;obtain⟨b',st',arr,e',vs,N,s,O,Q,g5,Z⟩:=R.obj _ _ t;rw[hρ]at N;cases N;obtain⟨H,rfl⟩:=Z e rfl;subst H;have hl:=Q.length;rw[qd]at hl;have hblt:=(qp.1 s).1;have I:bs.length<=arr.size:=by
  rcases Nat.eq_zero_or_pos bs.length with h0|h0;omega;have l:vs[bs.length-1]? = some vs[bs.length-1]:=qf (by omega);have:=(qp.1 (O _ _ l)).1;omega
 have f:∀i x,bs[i]? = some x->c.w.cell? ((⟨b,0,none⟩:Addr).add i)=some (.int .u8 x.toNat):=λi x hi=>by
  have h1:(bs.map EJ)[i]? = some (EJ x):=by rw[qO,hi];rfl
  obtain⟨v,J,L⟩:=Q.get h1;have:=C7 L;subst this;have h3:=O i _ J;rw[dT rfl];simp only[World.cell?,s];simpa using h3
 have T:=Lib.run_unsafeString_row (P:=P) c.w M it o.type e' D hc b arr.size (by simp[World.shape?,s]) bs m I z f;have g:∀k,k≠b->(c.w.freeze ⟨b,0,none⟩ bs.length).heap[k]? = c.w.heap[k]?:=λk a=>by
  unfold World.freeze;split;rfl;simp only[jX];rw[if_neg (Ne.symm a)]
 have A:(c.w.freeze ⟨b,0,none⟩ bs.length).heap.size=c.w.heap.size:=by unfold World.freeze;split<;>simp
 have p:c.own b:=R.ownI ⟨j,_,0,t,hρ⟩;have u:=R.kill j t;have G:∀k,rm c.w k<=rm (c.w.freeze ⟨b,0,none⟩ bs.length) k:=λk=>by
  by_cases a:k=b;subst a;have h0:¬bs.length=0:=by simpa using m
  unfold rm World.freeze;rw[if_neg h0];simp only[jX,if_true,s,jk];exact qa _;unfold rm;rw[g k a];exact qa _
 have B:∀k,¬c.own k->¬(c.kill j).own k:=λk a h2=>by
  obtain⟨o',x',r,Y⟩:=(u.own2 k).1 h2;simp only[hset]at r;split at r;cases r;exact a ((R.own2 k).2 ⟨o',x',r,Y⟩)
 have X:DZ c { (c.kill j)with w:=c.w.freeze ⟨b,0,none⟩ bs.length }:=
  ⟨λ_ _ e=>e,by simp[A],λk a hn=>⟨B k hn,g k (by rintro rfl;exact hn p)⟩,G,by unfold World.freeze;split<;>rfl,by unfold World.freeze;split<;>rfl,⟨by unfold World.freeze;split<;>rfl,by unfold World.freeze;split<;>exact qa _⟩⟩
 refine⟨.string ⟨bs.toArray⟩,.str ⟨bs.toArray⟩,hset h j none,n,{ (c.kill j)with w:=c.w.freeze ⟨b,0,none⟩ bs.length },?_,by rw[V],⟨λo x e=>?_,u.inj2,u.own2⟩,F,⟨X,qa _,λ_ _=>rfl⟩,a⟩;refine Bi (P:=P) (ev:=ev) S _ _ _ λcs=>?_;simp only[BigFrame.builtin_unsafeString,Sem.run_bind,Sem.run_pure];simp only[List.map_toArray,qu,qS,hu,d,jJ]at T ⊢;rw[T];rfl;simp only[hset]at e;split at e;cases e;rename_i C;refine(R.obj o x e).mono0 X.to0 λk a=>g k ?_;intro W;rw[W]at a;exact C (R.inj2 o j x _ b e t a (.inl ⟨0,hρ⟩))
end
set_option maxRecDepth 100000 in
set_option maxHeartbeats 2000000 in
theorem Ug (b:Nat) (w:World) (h0:w.cell? ⟨b,2,none⟩=some (.pointer (some ⟨b,2,none⟩))):
 Calls Tryz.prog 335 #[.pointer (some ⟨b,2,none⟩)] w λe w'=>e=.returned (.tuple #[])/\w'=w:=by
 obtain⟨j,a,_⟩:=qX.1 (show(Tryz.prog.info? 386).map (·.size)=some 2 by kernel_rfl)
 go_enter Tryz.func335,Tryz.ntmps335
 go_wp2
 rw[Lib.run_neq_ptr_same w _ Tryz.underlying384 a]
 go_wp2
 go_end0
 exact⟨rfl,rfl⟩
theorem YY (m:Nat):liesAt Tryz.prog Tryz.prog.depth 388 (m+1) 2 386 1=true:=by kernel_rfl
theorem S4:Tryz.prog.cellsOf 388=7:=by kernel_rfl
set_option maxRecDepth 100000 in
set_option maxHeartbeats 2000000 in
theorem S3 (b k:Nat) (w:World) (h0:w.cell? ⟨b,2,none⟩=some (.pointer none)) (c:w.shape? b=some (388,k)) (hk:7<=k) (hfz:w.frozen? ⟨b,2,none⟩=false):
 Calls Tryz.prog 335 #[.pointer (some ⟨b,2,none⟩)] w λe w'=>e=.returned (.tuple #[])/\w'=w.setCell ⟨b,2,none⟩ (.pointer (some ⟨b,2,none⟩)):=by
 obtain⟨j,f,d⟩:=qX.1 (show(Tryz.prog.info? 386).map (·.size)=some 2 by kernel_rfl);obtain⟨m,g⟩:∃m,k / Tryz.prog.cellsOf 388=m+1:=⟨k / 7-1,by rw[S4];omega⟩
 have a:=YY m;rw[<-g]at a
 go_enter Tryz.func335,Tryz.ntmps335
 go_wp2
 rw[Lib.run_to_unsafe w ⟨b,2,none⟩ Tryz.underlying384 Tryz.underlying403 f (by rw[d];decide) c (by simp;omega)];simp only[Result.andThen];rw[Oper.upon_value]
 go_wp2
 rw[run_callFunc_extern Tryz.func341 (by kernel_rfl) (by kernel_rfl) (by kernel_rfl) (e:=Extern.AbiNoEscape.same) (by kernel_rfl)];rw[Lib.run_noEscape];simp only[Result.andThen];rw[Oper.upon_value]
 go_wp2
 rw[Lib.run_from_unsafe w ⟨b,2,none⟩ Tryz.underlying403 Tryz.underlying384 f c a];simp only[Result.andThen];rw[Oper.upon_value]
 go_wp2
 go_end0
 exact⟨rfl,rfl⟩
theorem Yc:Kk Tryz.prog 335=true:=by unfold Kk;rw[Tryz.func335];kernel_rfl
theorem bv {H:Hp} {n q:Nat} {a b p o:SV} {r:List SV} (B:H q=some (.cells (a::b::p::o::r) (some 388))) (hp:p=.nilp\/p=.ptr q 2) (O:r.length=3):
 BA Tryz.prog 335 [.ptr q 2] H n (λv h' n'=>v=.tup []/\h'=hset H q (some (.cells (a::b::.ptr q 2::o::r) (some 388)))/\n'=n):=by
 refine⟨Yc,λc vs _ R F A=>?_⟩;obtain⟨u,rfl,L⟩:=A.single;rw[V]at L;obtain⟨b0,st,hρ,rfl⟩:=L;obtain⟨b',st',arr,e,us,G,z,I,J,g5,N⟩:=R.obj q _ B;rw[hρ]at G;cases G;obtain⟨C,rfl⟩:=N 388 rfl;subst C;obtain⟨Q,E,l⟩:=J.get (i:=2) (a:=p) rfl;have h2:=I 2 _ E;have f:c.w.cell? ⟨b0,2,none⟩=some Q:=by simp only[World.cell?,z];simpa using h2
 have y:=J.length;simp only[qF,O]at y;have D:7<=arr.size:=by
  have s:us[6]? = some us[6]:=qf (by omega);have:=(qp.1 (I _ _ s)).1;omega
 have t:V c (.ptr q 2) (.pointer (some ⟨b0,2,none⟩)):=by rw[V];exact⟨b0,0,hρ,by simp⟩
 simp only[jc];rcases hp with rfl|rfl;rw[V]at l;subst l;obtain⟨w',m,M,X⟩:=Ig (P:=Tryz.prog) (off:=2) (xs:=[.ptr q 2]) (us:=[.pointer (some ⟨b0,2,none⟩)]) R B hρ (by simp) (by simp) ⟨t,trivial⟩ (by simp[Value.oneCell']);have d:=run_storeCells_cells (P:=Tryz.prog) b0 2 [.pointer (some ⟨b0,2,none⟩)] 0 c.w (by intro j x;simp at x;subst x;simp[f]) (by intro j x;simp at x;subst x;simp[World.frozen?,z]) (by simp[Value.oneCell']);simp only[jc,jJ]at m d;rw[m]at d;simp only[Result.ok.injEq,true_and]at d;refine(S3 b0 arr.size c.w f (by simp[World.shape?,z]) D (by simp[World.frozen?,z])).mono ?_;rintro e w2 ⟨rfl,rfl⟩;have hw:w'=c.w.setCell ⟨b0,2,none⟩ (.pointer (some ⟨b0,2,none⟩)):=by rw[d];rfl
 subst hw;exact⟨.tuple #[],.tup [],_,n,{ c with w:=c.w.setCell ⟨b0,2,none⟩ (.pointer (some ⟨b0,2,none⟩)) },rfl,⟨rfl,rfl,rfl⟩,rfl,by simp[V,VL],by simpa using M,F,⟨X,qa _,λ_ _=>rfl⟩⟩;rw[V]at l;obtain⟨b1,st1,hρ1,rfl⟩:=l;rw[hρ]at hρ1;cases hρ1;have g:hset H q (some (.cells (a::b::.ptr q 2::o::r) (some 388)))=H:=by
  funext k;by_cases K:k=q;subst K;rw[O1,B];simp[hset,K]
 refine(Ug b0 c.w (by simpa using f)).mono ?_;rintro e w2 ⟨rfl,rfl⟩;exact⟨.tuple #[],.tup [],_,n,c,rfl,⟨rfl,g.symm,rfl⟩,rfl,by simp[V,VL],R,F,ke n c⟩
def Ep (ob:Option Nat) (bs:List UInt8):SV:=AM 1 ob (bs.map EJ)
theorem Zh {H:Hp} {k p:Nat} {a:Option Nat} {bs:List UInt8} {x:UInt8} (h0:a=none->bs=[]) (m:H k=some (.cells [EJ x])) (h2:∀j,a=some j->H j=some (.cells (bs.map EJ) (some 5))) (hroom:bs.length+1<=1073741824):
 AU Tryz.prog H p .append [381,381] [Ep a bs,.sl k 0 1 1 true]=some { val:=.sl p 0 1 (bs.length+1) false,upd:=a.map λj=>(j,none),new:=some (.cells ((bs++[x]).map EJ) (some 5)) }:=by
 have f:A9 Tryz.prog 381=some 5:=by simp[go_sem]
 have g:Bh Tryz.prog 5=1:=by simp[go_sem]
 have h:(BH Tryz.prog 5).storable=true:=by simp[go_sem]
 have i:(BH Tryz.prog 5).cells.length=1:=by simp[go_sem]
 have l:BY Tryz.prog 5<=65536:=by simp[go_sem]
 have c:Gq 5=some 5:=by rfl
 have b:flat H (.sl k 0 1 1 true)=some [EJ x]:=by simp[flat,m,Bg]
 have e:dY (bs.length+1) (BY Tryz.prog 5)=true:=by simp only[dY,qq,decide_eq_true_eq];exact⟨by omega,l⟩
 simp only[AU,f,jE,if_true,Cm,Dw,b,g,h,i];cases a with
 | none=>
  have:=h0 rfl;subst this;simp[Ep,AM,Hd,c];simpa using e
 | some j=>
  have d:=h2 j rfl;have n:flat H (.sl j 0 1 bs.length false)=some (bs.map EJ):=by simp[flat,d,Bg];exact qB (by simp)
  have ht:HI H 5 j 0=some 5:=by simp[HI,c,Wy,d]
  simp[Ep,AM,Hd,n,e,ht]
theorem bu {G:Hp} {n q:Nat} {a at_ p t s e:SV} {c:Option Nat} {bs:List UInt8} {x:UInt8} (A:G q=some (.cells [a,at_,p,Ep c bs,t,s,e] (some 388))) (hp:p=.nilp\/p=.ptr q 2)
 (h0:c=none->bs=[]) (h2:∀j,c=some j->j≠q/\G j=some (.cells (bs.map EJ) (some 5))) (f:bs.length+1<=1073741824):
 BA Tryz.prog 329 [.ptr q 2,EJ x] G n (λ_ h' n'=>∃j,(∀o y,o≠q->c≠some o->G o=some y->h' o=some y)/\h' q=some (.cells [a,at_,.ptr q 2,Ep (some j) (bs++[x]),t,s,e] (some 388))/\
  h' j=some (.cells ((bs++[x]).map EJ) (some 5))/\n<=j/\j<n'):=by
 refine Db Tryz.func329 rfl λr=>?_;have hqn:q<n:=(r q _ A).1;have l:∀j,c=some j->j<n:=λj e=>(r j _ (h2 j e).2).1;refine Bp 0 [(0,.ptr q 2),(1,EJ x)] G n ?_ (λm w=>?_);simp[go_sem,IO];subst w;refine Bp 0 [(0,.ptr q 2),(1,EJ x)] (hset G q (some (.cells [a,at_,.ptr q 2,Ep c bs,t,s,e] (some 388)))) n ?_ (λm w=>?_);simp[go_sem];refine qC (bv A hp rfl) ?_;rintro v H' n' ⟨rfl,rfl,rfl⟩;simp[go_sem,IO];subst w;refine AH ?_;have d:q≠n:=by omega
 have b:q≠n+1:=by omega
 simp[go_sem,AC];have i:∀p,AU Tryz.prog (hset (hset G q (some (.cells [a,at_,.ptr q 2,Ep c bs,t,s,e] (some 388)))) n (some (.cells [EJ x]))) p .append [381,381] [Ep c bs,.sl n 0 1 1 true]=_:=λp=>
  Zh h0 (AC _ _ _) (λj e=>by rw[AD _ _ (by have:=l j e;omega),AD _ _ (h2 j e).1];exact(h2 j e).2) f
 have k:Ep (some (n+1)) (bs++[x])=.sl (n+1) 0 1 (bs.length+1) false:=by simp[Ep,AM]
 cases c with
 | none=>
  simp[go_sem,i,AC,AD,d,b];refine .inl ⟨λo y g h=>?_,n+1,by rw[AC,k],by rw[AD _ _ (Ne.symm b),AC],by omega,by omega⟩;have:=(r o y h).1;rw[AD _ _ g,AD _ _ (by omega),AD _ _ (by omega),AD _ _ g];exact h
 | some j=>
  have u:=(h2 j rfl).1;have hjl:=l j rfl;have z:q≠j:=Ne.symm u;simp[go_sem,i,AC,AD,d,b,z];refine .inl ⟨λo y g h2 h=>?_,n+1,by rw[AC,k],by rw[AD _ _ (Ne.symm b),AC],by omega,by omega⟩;have:=(r o y h).1;rw[AD _ _ g,AD _ _ (by omega),AD _ _ (Ne.symm h2),AD _ _ (by omega),AD _ _ g];exact h
theorem V8:Tryz.prog.cellsOf 5=1:=by kernel_rfl
theorem Xy {G:Hp} {n q:Nat} {a at_ p g f e:SV} {d:Option Nat} {bs:List UInt8} (b:G q=some (.cells [a,at_,p,Ep d bs,g,f,e] (some 388))) (h0:d=none->bs=[]):
 BA Tryz.prog 336 [.ptr q 2] G n (λv h' n'=>v=AA bs.length/\h'=G/\n'=n):=by
 refine Db Tryz.func336 rfl λc=>?_;have hqn:q<n:=(c q _ b).1;refine AH ?_;cases d with
 | none=>
  have:=h0 rfl;subst this;simp[go_sem,b,Ep,AM];exact As c rfl rfl
 | some j=>
  simp[go_sem,b,Ep,AM];exact As c rfl rfl
def Y3:Tr:=.pure 0 (.pure 1 (.pure 2 (.pure 5 (.pure 6 (.pure 7 (.two 3 8 (.two 4 8 (.one 8 (.one 9 (.one 10 (.one 11 .nil)))) (.two 4 9 (.one 9 (.one 10 (.one 11 .nil))) (.one 4 (.one 10 (.one 11 .nil))))) (.two 3 9 (.two 4 9 (.one 9 (.one 10 (.one 11 .nil))) (.one 4 (.one 10 (.one 11 .nil)))) (.one 3 (.one 4 (.one 10 (.one 11 .nil)))))))))))
theorem bw {G:Hp} {n q j:Nat} {a at_ p w u e:SV} {bs:List UInt8} (c:G q=some (.cells [a,at_,p,Ep (some j) bs,w,u,e] (some 388))) (s:G j=some (.cells (bs.map EJ) (some 5))) (_hjq:j≠q) (b:bs≠[]) (hlen:bs.length<=1073741824):
 BA Tryz.prog 337 [.ptr q 2] G n (λv h' n'=>v=.str ⟨bs.toArray⟩/\h'=hset G j none/\n'=n):=by
 refine Db Tryz.func337 rfl λt=>?_;have hqn:q<n:=(t q _ c).1;have g:bs.length≠0:=by simpa using b
 refine Bp 0 [(0,.ptr q 2)] G n ?_ (λm h=>?_);simp[go_sem,IO];subst h;refine AT 0 (α:=Unit) (λ_=>[(2,.str ⟨bs.toArray⟩)]) (λ_=>hset G j none) (λ_ m=>n=m) (BX Y3 rfl (by kernel_rfl) (by kernel_rfl) ?_) (λ_ m h=>?_)
 . have hb:Ep (some j) bs=.sl j 0 1 bs.length false:=by simp[Ep,AM]
   rw[hb]at c;simp[go_sem,Y3,c];have l:∀{E:B6} {evs:Operand->SV} {o:Oper} {n:Nat} {K:SV->Hp->Nat->Prop} {x:Operand} {z:Array TypeId},o.op=.call { callee:=.builtin .unsafeSliceData,args:=#[x],argTypes:=z }->evs x=.sl j 0 1 bs.length false->K (.ptr j 0) G n->EI E Tryz.prog evs o G n K:=λd f k=>MV d f g k;have r:∀{E:B6} {evs:Operand->SV} {o:Oper} {n:Nat} {K:SV->Hp->Nat->Prop} {x y:Operand} {it:TypeId},o.op=.call { callee:=.builtin .unsafeString,args:=#[x,y],argTypes:=#[405,it] }->evs x=.ptr j 0->evs y=AA bs.length->K (.str ⟨bs.toArray⟩) (hset G j none) n->EI E Tryz.prog evs o G n K:=λd f i k=>KL d Tryz.underlying405 V8 f i s b (by omega) k;refine⟨⟨?_,?_,?_⟩,⟨?_,?_⟩,?_⟩
   all_goals
    refine l rfl rfl ?_;simp[go_sem,c];refine r rfl rfl rfl ?_;simp[go_sem,IO]
 subst h;refine AH ?_;simp[go_sem];refine .inl ⟨rfl,rfl,rfl⟩
theorem bx {G:Hp} {n q:Nat} {a at_ p b d c e:SV} (f:G q=some (.cells [a,at_,p,b,d,c,e] (some 388))):
 BA Tryz.prog 338 [.ptr q 2] G n (λv h' n'=>v=.tup []/\h'=hset G q (some (.cells [a,at_,.nilp,.imm 0 [] true,d,c,e] (some 388)))/\n'=n):=by
 refine Db Tryz.func338 rfl λho=>?_;refine AH ?_;simp[go_sem,f,AC,AS];refine .inl ⟨rfl,rfl,rfl⟩
theorem Nb {E:B6} {N:Nat} {a:Code} {Q:dO} {sa:SA} {h:Hp} {n:Nat} (H:Es h n->SP E N a Q sa h n):SP E N a Q sa h n:=
 λd c b I R F A=>H (λo x e=>HP F (R.obj o x e)) d c b I R F A
structure ZJ (G:Hp) (q B:Nat) (s:ByteArray) (at_:Int) (bs:List UInt8) (ps:List B7) (pl e:Int) (p:SV) (ob op:Option Nat):Prop where
 le:B<=q
 cells:G q=some (.cells [.str s,AA at_,p,Ep ob bs,AM 3 op (ps.map B7.enc),AA pl,AA e] (some 388))
 p:p=.nilp\/p=.ptr q 2
 b0:ob=none->bs=[]
 b1:∀j,ob=some j->B<=j/\j≠q/\bs≠[]/\G j=some (.cells (bs.map EJ) (some 5))
 o0:op=none->ps=[]
 o1:∀j,op=some j->B<=j/\j≠q/\ob≠some j/\G j=some (.cells ((ps.map B7.enc).flatMap SV.cells))
def Sb (G:Hp) (q B:Nat) (s:ByteArray) (at_:Int) (bs:List UInt8) (ps:List B7) (pl e:Int):Prop:=∃p ob op,ZJ G q B s at_ bs ps pl e p ob op
def VN (q B:Nat) (s:ByteArray) (G:Hp) (n:Nat) (R:Int->List UInt8->List B7->Int->Int->Prop):SV->Hp->Nat->Prop:=λ_ h' n'=>
 ∃at_ bs ps pl e,R at_ bs ps pl e/\Sb h' q B s at_ bs ps pl e/\(∀o y,o<B->G o=some y->h' o=some y)/\n<=n'
theorem B7.len (p:B7):p.enc.cells.length=3:=rfl
theorem B7.size (ps:List B7):∀e∈ps.map B7.enc,e.storable=true/\e.cells.length=3:=λe a=>by obtain⟨x,_,rfl⟩:=qy.1 a;exact⟨rfl,rfl⟩
theorem XP {X:Hp} {k p:Nat} {b:Option Nat} {ps:List B7} {x:B7} (h0:b=none->ps=[]) (c:X k=some (.cells x.enc.cells)) (h2:∀j,b=some j->X j=some (.cells ((ps.map B7.enc).flatMap SV.cells))) (a:ps.length+1<=1073741824):
 AU Tryz.prog X p .append [361,361] [AM 3 b (ps.map B7.enc),.sl k 0 3 1 true]=some { val:=.sl p 0 3 (ps.length+1) false,upd:=b.map λj=>(j,none),new:=some (.cells ((ps.map B7.enc).flatMap SV.cells++x.enc.cells)) }:=by
 have d:Ar 0 ((b.getD 0)+1) 3 b (ps.map B7.enc):=⟨λe=>by rw[h0 e];rfl,λj e=>by rw[e];simp,B7.size ps⟩
 have:=Dp (P:=Tryz.prog) (H:=X) (t:=361) (t2:=361) (el:=366) (e:=x.enc) (by simp[go_sem]) (by simp[go_sem]) (by simp[go_sem]) (by simp) (by simp[go_sem]) (by simp[go_sem]) (by simp[go_sem]) (by simpa using a) d (B7.len x) c h2 p;simpa using this
def ZG (G:Hp) (B q n:Nat) (C:Nat->List SV) (es:List SV) (z:Hp×Nat) (m:Nat):Prop:=
 n<=m/\z.1 q=some (.cells (C z.2) (some 388))/\z.1 z.2=some (.cells (es.flatMap SV.cells))/\n<=z.2/\z.2<m/\∀o y,o<B->G o=some y->z.1 o=some y
def Ww:Tr:=.pure 0 (.pure 1 (.pure 2 (.pure 3 (.pure 5 (.pure 6 (.pure 7 (.two 4 8 (.one 8 (.one 9 (.one 10 (.one 11 (.one 12 (.one 13 (.one 14 .nil))))))) (.two 4 9 (.one 9 (.one 10 (.one 11 (.one 12 (.one 13 (.one 14 .nil)))))) (.two 4 10 (.one 10 (.one 11 (.one 12 (.one 13 (.one 14 .nil))))) (.one 4 (.one 11 (.one 12 (.one 13 (.one 14 .nil))))))))))))))
set_option maxHeartbeats 1000000 in
theorem Xv {G:Hp} {n q B:Nat} {s:ByteArray} {at_ l e:Int} {bs:List UInt8} {ps:List B7} (S:Sb G q B s at_ bs ps l e) (hb:bs.length<=1048576) (hps:ps.length<=1048576):
 BA Tryz.prog 330 [.ptr q 0] G n (VN q B s G n λK L R Q e'=>K=at_/\L=[]/\R.length<=ps.length+1/\Q=l/\e'=e):=by
 refine Db Tryz.func330 rfl λF=>?_;obtain⟨p,W,P,S⟩:=S;have hqn:q<n:=(F q _ S.cells).1;by_cases c:bs=[];refine Bp 0 [(0,.ptr q 0),(6,.bool false)] G n ?_ (λm D=>?_);simp[go_sem];refine qC (Xy S.cells S.b0) ?_;rintro v w n' ⟨rfl,rfl,rfl⟩;simp[go_sem,IO,c];subst D;refine AH ?_;simp[go_sem];exact .inl ⟨at_,[],ps,l,e,⟨rfl,rfl,by omega,rfl,rfl⟩,⟨p,W,P,by rw[<-c];exact S⟩,λo y _ h=>h,qa _⟩
 . refine Bp 0 [(0,.ptr q 0),(6,.bool true)] G n ?_ (λm D=>?_);simp[go_sem];refine qC (Xy S.cells S.b0) ?_;rintro v w n' ⟨rfl,rfl,rfl⟩;have:0<bs.length:=by cases bs<;>simp at c ⊢
   simp[go_sem,IO,this];subst D;refine Ah (b:=true) (by simp[go_sem]) ?_;simp only[if_true];cases W with
   | none=>exact absurd (S.b0 rfl) c
   | some j=>
   obtain⟨j1,T,j3,U⟩:=S.b1 j rfl;have hjn:j<n:=(F j _ U).1;have d:=S.cells;have I:q≠j:=Ne.symm T;have J:q≠n:=by omega
   have A:q≠n+1:=by omega
   obtain⟨x,hx⟩:∃x:B7,x=⟨⟨bs.toArray⟩,0,false⟩:=⟨_,rfl⟩
   obtain⟨E,M⟩:∃E,E=(ps++[x]).map B7.enc:=⟨_,rfl⟩
   have hle:=S.le;refine AT 0 (α:=Hp×Nat) (λ_=>[(0,.ptr q 0)]) (λz=>z.1) (ZG G B q n (λk=>[.str s,AA at_,p,Ep (some j) bs,AM 3 (some k) E,AA l,AA e]) E)
    (BX Ww rfl (by kernel_rfl) (by kernel_rfl) ?_) (λz m D=>?_)
   have r:∀(X:Hp) (k p:Nat),X k=some (.cells [.str ⟨bs.toArray⟩,AA 0,.bool false])->(∀j,P=some j->X j=some (.cells ((ps.map B7.enc).flatMap SV.cells)))->_:=λX k p u g=>XP (x:=x) (p:=p) S.o0 (by rw[hx];exact u) g (by omega);have t:∀(X:Hp),X q=some (.cells [.str s,AA at_,p,Ep (some j) bs,.sl (n+1) 0 3 (ps.length+1) false,AA l,AA e] (some 388))->X (n+1)=some (.cells ((ps.map B7.enc).flatMap SV.cells++x.enc.cells))->(∀o y,o<B->G o=some y->X o=some y)->
    ZG G B q n (λk=>[.str s,AA at_,p,Ep (some j) bs,AM 3 (some k) E,AA l,AA e]) E (X,n+1) (n+2):=λX u g g3=>⟨by omega,by show X q=_;rw[u,M];simp[AM],by show X (n+1)=_;rw[g,M];simp,by show n<=n+1;omega,by show n+1<n+2;omega,g3⟩
   have step:Ak (B6.plain.call false 0) Tryz.prog 337 [.ptr q 2] G n (λv h' n'=>v=.str ⟨bs.toArray⟩/\h'=hset G j none/\n=n'):=qC (bw d U T j3 (by omega)) λv h' n' ⟨a,b,c⟩=>⟨a,b,c.symm⟩
   cases P with
   | none =>
    have f:∃a,(∃x_1,ZG G B q n (λk=>[.str s,AA at_,p,Ep (some j) bs,AM 3 (some k) E,AA l,AA e]) E (a,x_1) (n+1+1))/\∀(o:Nat) (y:BT),a o=some y->hset (hset (hset (hset G j none) n (some (BT.cells [.str ⟨bs.toArray⟩,AA 0,.bool false]))) (n+1) (some (.cells (List.flatMap SV.cells (List.map B7.enc ps)++x.enc.cells)))) q (some (.cells [.str s,AA at_,p,Ep (some j) bs,.sl (n+1) 0 3 (ps.length+1) false,AA l,AA e] (some 388))) o=some y:=
     ⟨_,⟨_,t _ (AC _ _ _) ((AD _ _ (Ne.symm A)).trans (AC _ _ _)) λo y u g=>by have:=(F o y g).1;rw[AD _ _ (by omega),AD _ _ (by omega),AD _ _ (by omega),AD _ _ (by omega)];exact g⟩,AB⟩
    simp[go_sem,Ww,d];refine⟨?_,?_⟩;refine kS step ?_;rintro v w n' ⟨rfl,rfl,rfl⟩;simp[go_sem,r,AC,AD,d,I,J,A];exact f;refine kS step ?_;rintro v w n' ⟨rfl,rfl,rfl⟩;simp[go_sem,r,AC,AD,d,I,J,A];exact f
   | some i =>
    obtain⟨i1,i2,i3,N⟩:=S.o1 i rfl;have hin:i<n:=(F i _ N).1;have C:i≠j:=by rintro rfl;exact i3 rfl
    have Y:i≠n:=by omega
    have Z:q≠i:=Ne.symm i2;have f:∃a,(∃x_1,ZG G B q n (λk=>[.str s,AA at_,p,Ep (some j) bs,AM 3 (some k) E,AA l,AA e]) E (a,x_1) (n+1+1))/\∀(o:Nat) (y:BT),a o=some y->hset (hset (hset (hset (hset G j none) n (some (BT.cells [.str ⟨bs.toArray⟩,AA 0,.bool false]))) i none) (n+1) (some (.cells (List.flatMap SV.cells (List.map B7.enc ps)++x.enc.cells)))) q (some (.cells [.str s,AA at_,p,Ep (some j) bs,.sl (n+1) 0 3 (ps.length+1) false,AA l,AA e] (some 388))) o=some y:=
     ⟨_,⟨_,t _ (AC _ _ _) ((AD _ _ (Ne.symm A)).trans (AC _ _ _)) λo y u g=>by have:=(F o y g).1;rw[AD _ _ (by omega),AD _ _ (by omega),AD _ _ (by omega),AD _ _ (by omega),AD _ _ (by omega)];exact g⟩,AB⟩
    simp[go_sem,Ww,d];refine⟨?_,?_⟩;refine kS step ?_;rintro v w n' ⟨rfl,rfl,rfl⟩;simp[go_sem,r,AC,AD,d,I,J,A,Y,Z,C,N];exact f;refine kS step ?_;rintro v w n' ⟨rfl,rfl,rfl⟩;simp[go_sem,r,AC,AD,d,I,J,A,Y,Z,C,N];exact f
   obtain⟨H,k⟩:=z;obtain⟨m1,m2,O,m4,m5,V⟩:=D;dsimp only at m2 O m4 V ⊢;rw[M]at m2 O;refine AH ?_;simp[go_sem];refine qC (bx m2) ?_;rintro v w n' ⟨rfl,rfl,rfl⟩;simp[go_sem];have:=S.le;refine .inl ⟨at_,[],ps++[x],l,e,⟨rfl,rfl,?_,rfl,rfl⟩,⟨.nilp,none,some k,⟨S.le,by rw[AC];simp[Ep,AM],.inl rfl,λ_=>rfl,by simp,by simp,?_⟩⟩,λo y u g=>?_,by omega⟩;simp;rintro i hi;cases hi;exact⟨by omega,by omega,by simp,by rw[AD _ _ (by omega)];exact O⟩;rw[AD _ _ (by omega)];exact V o y u g
def DgQ (s:ByteArray) (k:Int) (G:Hp) (n:Nat):SV->Hp->Nat->Prop:=λv h' n'=>(∃b,v=.bool b/\(b=true->k<s.size))/\h'=G/\n'=n
theorem Xw {G:Hp} {n q B:Nat} {s:ByteArray} {at_ d e:Int} {bs:List UInt8} {ps:List B7} (S:Sb G q B s at_ bs ps d e) (k:Int) (b:0<=k):
 BA Tryz.prog 333 [.ptr q 0,AA k] G n (DgQ s k G n):=by
 refine Db Tryz.func333 rfl λho=>?_;obtain⟨p,ob,op,S⟩:=S;have hc:=S.cells;refine AH ?_;by_cases c:k<s.size;have hkl:k.toNat<s.size:=by omega
 obtain⟨x,a⟩:∃x,s[k.toNat]'hkl=x:=⟨_,rfl⟩
 have hb:s[k.toNat]? = some x:=by rw[Sv hkl,a]
 by_cases c1:(49:Int)<=x.toNat;simp[go_sem,hc,c,b,a,c1];exact .inl ⟨⟨_,rfl,λ_=>c⟩,rfl,rfl⟩;simp[go_sem,hc,c,b,a,c1];exact .inl ⟨⟨_,rfl,λ_=>c⟩,rfl,rfl⟩;simp[go_sem,hc,c];exact .inl ⟨⟨false,rfl,by simp⟩,rfl,rfl⟩
def ZI (G:Hp) (B q n:Nat) (s:ByteArray) (at_ pl e:Int) (N:Nat) (z:Hp×List B7) (m:Nat):Prop:=n<=m/\Sb z.1 q B s at_ [] z.2 pl e/\z.2.length<=N/\∀o y,o<B->G o=some y->z.1 o=some y
set_option maxHeartbeats 1000000 in
theorem Xx {G:Hp} {n q B:Nat} {s:ByteArray} {at_ u e d:Int} {b:Bool} {bs:List UInt8} {ps:List B7} (S:Sb G q B s at_ bs ps u e) (hb:bs.length<=1048576) (T:ps.length<=1048576):
 BA Tryz.prog 334 [.ptr q 0,.int .u8 d,.bool b] G n (VN q B s G n λN O V _ e'=>N=at_/\O=[]/\V.length<=ps.length+2/\e'=e):=by
 refine Db Tryz.func334 rfl λZ=>?_
 refine BM 0 (α:=Hp×List B7) (λ_=>[(0,.ptr q 0),(1,.int .u8 d),(2,.bool b)]) (λz=>z.1) (ZI G B q n s at_ u e (ps.length+1)) ?_ (λz m I=>?_)
 . simp[go_sem]
   refine qC (Xv S hb T) ?_
   rintro v H' n' ⟨a1,a2,a3,a4,a5,⟨rfl,rfl,r3,rfl,rfl⟩,r6,r7,r8⟩
   simp[go_sem,IO]
   exact⟨H',⟨a3,r8,r6,r3,r7⟩,AB⟩
 obtain⟨X,c⟩:=z
 obtain⟨I,t,Q,A⟩:=I
 dsimp only at t Q A ⊢
 refine Nb λhX=>?_
 have F:∀o y,X o=some y->o<m:=λo y e=>(hX o y e).1
 refine BM 0 (α:=Hp×List B7) (λ_=>[(0,.ptr q 0)]) (λz=>z.1) (ZI G B q n s at_ u e (ps.length+2)) ?_ (λz m I=>?_)
 . have hle0:=t.choose_spec.choose_spec.choose_spec.le
   obtain⟨p,U,L,t⟩:=t
   cases U with
   | some j=>exact absurd rfl (t.b1 j rfl).2.2.1
   | none=>
   have f:=t.cells
   obtain⟨x,hx⟩:∃x:B7,x=⟨.empty,IntKind.i64.wrap (IntKind.u8.wrap (d-48)),b⟩:=⟨_,rfl⟩
   have C:∀(X:Hp) (k p:Nat),X k=some (.cells [.str .empty,AA (IntKind.i64.wrap (IntKind.u8.wrap (d-48))),.bool b])->(∀j,L=some j->X j=some (.cells ((c.map B7.enc).flatMap SV.cells)))->_:=λX k p w l=>XP (x:=x) (p:=p) t.o0 (by rw[hx];exact w) l (by omega)
   have hqm:q<m:=F q _ f
   have x2:q≠m:=by omega
   have M:q≠m+1:=by omega
   have H:∀(Y:Hp),Y q=some (.cells [.str s,AA at_,p,Ep none [],.sl (m+1) 0 3 (c.length+1) false,AA u,AA e] (some 388))->Y (m+1)=some (.cells ((c.map B7.enc).flatMap SV.cells++x.enc.cells))->Sb Y q B s at_ [] (c++[x]) u e:=λY w l=>
    ⟨p,none,some (m+1),t.le,by rw[w];simp[AM],t.p,λ_=>rfl,by simp,by simp,by rintro i hi;cases hi;exact⟨by omega,by omega,by simp,by rw[l];simp⟩⟩
   cases L with
   | none =>
    have r:∃a,(∃x_1,ZI G B q n s at_ u e (ps.length+2) (a,x_1) (m+1+1))/\∀(o:Nat) (y:BT),a o=some y->hset (hset (hset X m (some (BT.cells [.str .empty,AA (IntKind.i64.wrap (IntKind.u8.wrap (d-48))),.bool b]))) (m+1) (some (.cells (List.flatMap SV.cells (List.map B7.enc c)++x.enc.cells)))) q (some (.cells [.str s,AA at_,p,Ep none [],.sl (m+1) 0 3 (c.length+1) false,AA u,AA e] (some 388))) o=some y:=
     ⟨_,⟨c++[x],by omega,H _ (AC _ _ _) ((AD _ _ (Ne.symm M)).trans (AC _ _ _)),by simp;omega,λo y w l=>by have:=(Z o y l).1;dsimp only;rw[AD _ _ (by omega),AD _ _ (by omega),AD _ _ (by omega)];exact A o y w l⟩,AB⟩
    simp[go_sem,f,AC,AD,x2,M,C]
    exact r
   | some i =>
    obtain⟨i1,J,i3,K⟩:=t.o1 i rfl
    have hin:i<m:=F i _ K
    have y1:i≠m:=by omega
    have y2:q≠i:=Ne.symm J
    have r:∃a,(∃x_1,ZI G B q n s at_ u e (ps.length+2) (a,x_1) (m+1+1))/\∀(o:Nat) (y:BT),a o=some y->hset (hset (hset (hset X m (some (BT.cells [.str .empty,AA (IntKind.i64.wrap (IntKind.u8.wrap (d-48))),.bool b]))) i none) (m+1) (some (.cells (List.flatMap SV.cells (List.map B7.enc c)++x.enc.cells)))) q (some (.cells [.str s,AA at_,p,Ep none [],.sl (m+1) 0 3 (c.length+1) false,AA u,AA e] (some 388))) o=some y:=
     ⟨_,⟨c++[x],by omega,H _ (AC _ _ _) ((AD _ _ (Ne.symm M)).trans (AC _ _ _)),by simp;omega,λo y w l=>by have:=(Z o y l).1;dsimp only;rw[AD _ _ (by omega),AD _ _ (by omega),AD _ _ (by omega),AD _ _ (by omega)];exact A o y w l⟩,AB⟩
    simp[go_sem,f,AC,AD,x2,M,C,y1,y2,K]
    exact r
 obtain⟨X2,W⟩:=z
 obtain⟨R,h,E,D⟩:=I
 dsimp only at h E D ⊢
 refine AH ?_
 obtain⟨p,U,L,h⟩:=h
 have P:=h.cells
 simp[go_sem,P]
 have hle:=h.le
 refine .inl ⟨at_,[],W,IntKind.i64.wrap (u+1),e,⟨rfl,rfl,E,rfl⟩,⟨p,U,L,h.le,AC _ _ _,h.p,h.b0,λj g=>absurd rfl (h.b1 j g).2.2.1,h.o0,λj g=>?_⟩,λo y w l=>?_,R⟩
 . obtain⟨i1,J,i3,K⟩:=h.o1 j g
   exact⟨i1,J,i3,by rw[AD _ _ J];exact K⟩
 . rw[AD _ _ (by omega)];exact D o y w l
def XL (a b:ByteArray) (v:SV):Prop:=∃x,v=.bool x/\(x=true->b.size<=a.size)
theorem dC (a b:ByteArray):TC 340 [.str a,.str b] (XL a b):=by
 intro h n;refine Db Tryz.func340 rfl λd=>?_;refine AH ?_;by_cases c:(b.size:Int)<=a.size;simp[go_sem,c];exact GQ d AB (by simp[closed]) ⟨_,rfl,λ_=>by omega⟩;simp[go_sem,c];exact GQ d AB (by simp[closed]) ⟨_,rfl,by simp⟩
theorem Yp (a b:ByteArray):TC 332 [.str a,.str b] (XL a b):=by
 intro h n;refine Db Tryz.func332 rfl λc=>?_;refine AH ?_;simp[go_sem];refine kW (dC a b) ?_;rintro v ⟨x,rfl,d⟩;simp[go_sem];exact GQ c AB (by simp[closed]) ⟨x,rfl,d⟩
theorem ZJ.upd {G:Hp} {q B:Nat} {s:ByteArray} {at_ l e:Int} {bs:List UInt8} {ps:List B7} {p:SV} {i k:Option Nat} (S:ZJ G q B s at_ bs ps l e p i k) (f h e':Int):
 Sb (hset G q (some (.cells [.str s,AA f,p,Ep i bs,AM 3 k (ps.map B7.enc),AA h,AA e'] (some 388)))) q B s f bs ps h e':=
 ⟨p,i,k,S.le,AC _ _ _,S.p,S.b0,λj g=>by obtain⟨a,b,c,d⟩:=S.b1 j g;exact⟨a,b,c,by rw[AD _ _ b];exact d⟩,S.o0,λj g=>by obtain⟨a,b,c,d⟩:=S.o1 j g;exact⟨a,b,c,by rw[AD _ _ b];exact d⟩⟩
theorem VZ {G:Hp} {n q B:Nat} {s:ByteArray} {at_ c e:Int} {bs:List UInt8} {ps:List B7} (S:Sb G q B s at_ bs ps c e) (k:Es G n) (hb:bs.length<=1048576) (x:UInt8):
 BA Tryz.prog 329 [.ptr q 2,EJ x] G n (VN q B s G n λa b f d e'=>a=at_/\b=bs++[x]/\f=ps/\d=c/\e'=e):=by
 obtain⟨p,ob,z,S⟩:=S;have hqn:=(k q _ S.cells).1;have hle:=S.le;refine(bu (x:=x) S.cells S.p S.b0 (λj g=>⟨(S.b1 j g).2.1,(S.b1 j g).2.2.2⟩) (by omega)).mono ?_;rintro v h' n' ⟨j,h,r,t,g4,g5⟩;refine⟨at_,bs++[x],ps,c,e,⟨rfl,rfl,rfl,rfl,rfl⟩,⟨.ptr q 2,some j,z,S.le,r,.inr rfl,by simp,λi hi=>?_,S.o0,λi hi=>?_⟩,λo y h1 h2=>h o y (by omega) (λg=>?_) h2,by omega⟩;cases hi;exact⟨by omega,by omega,by simp,t⟩;obtain⟨u,l,w,m⟩:=S.o1 i hi;have:=(k i _ m).1;exact⟨u,l,λg=>by cases g;omega,h i _ l w m⟩;have:=(S.b1 o g).1;omega
def Yw:Tr:=.pure 0 (.pure 1 (.pure 2 (.pure 4 (.pure 5 (.pure 6 (.two 3 7 (.one 7 (.one 8 (.one 9 (.pure 10 .nil)))) (.one 3 (.one 8 (.one 9 (.pure 10 .nil))))))))))
def VG:Tr:=.pure 0 (.pure 1 (.pure 2 (.pure 3 (.pure 5 (.pure 6 (.pure 7 (.two 4 8 (.one 8 (.pure 9 (.one 10 (.one 11 .nil)))) (.pure 9 (.one 4 (.one 10 (.one 11 .nil)))))))))))
def Yx:Tr:=.pure 0 (.pure 1 (.pure 2 (.pure 4 (.pure 5 (.pure 6 (.two 3 7 (.one 7 (.one 8 (.one 9 (.pure 10 (.pure 11 (.pure 12 (.pure 13 (.pure 14 (.one 15 (.pure 16 (.one 17 (.pure 18 (.pure 19 .nil))))))))))))) (.one 3 (.one 8 (.one 9 (.pure 10 (.pure 11 (.pure 12 (.pure 13 (.pure 14 (.one 15 (.pure 16 (.one 17 (.pure 18 (.pure 19 .nil)))))))))))))))))))
def ZE (n:Nat) (P:Prop) (b:Bx) (m:Nat):Prop:=n<=m/\(b.b=true->P)
def UV (G:Hp) (q B n:Nat) (s:ByteArray) (R:Int->List UInt8->List B7->Int->Int->Prop) (z:Hp) (m:Nat):Prop:=n<=m/\∃at_ bs ps pl e,R at_ bs ps pl e/\Sb z q B s at_ bs ps pl e/\∀o y,o<B->G o=some y->z o=some y
theorem VN.st {q B:Nat} {s:ByteArray} {G:Hp} {n0 n:Nat} {R:Int->List UInt8->List B7->Int->Int->Prop} {v:SV} {h':Hp} {n':Nat} (H:VN q B s G n R v h' n') (hn:n0<=n):UV G q B n0 s R h' n':=by
 obtain⟨a1,a2,a3,a4,a5,a,h2,b,h4⟩:=H;exact⟨by omega,a1,a2,a3,a4,a5,a,h2,b⟩
def Zf (s:ByteArray) (at_ e:Int) (bs:List UInt8) (ps:List B7):Int->List UInt8->List B7->Int->Int->Prop:=λat' bs' ps' _ e'=>
 ((at_<at'/\at'<=s.size/\e'=e)\/(at'=at_/\e'=14))/\bs'.length<=bs.length+1/\ps'.length<=ps.length+2
set_option maxHeartbeats 2000000 in
theorem bt {G:Hp} {n q B:Nat} {s:ByteArray} {at_ O e:Int} {bs:List UInt8} {ps:List B7} (S:Sb G q B s at_ bs ps O e) (h0:0<=at_) (N:at_<s.size) (hs:s.size<=1048576) (hb:bs.length<=1048576) (D:ps.length<=1048576):
 BA Tryz.prog 328 [.ptr q 0] G n (VN q B s G n (Zf s at_ e bs ps)):=by
 refine Db Tryz.func328 rfl λho=>?_;obtain⟨p0,ob0,op0,M⟩:=id S;have hc:=M.cells;have w1:IntKind.i64.wrap (at_+1)=at_+1:=by rw[Cl]<;>omega
 have w2:IntKind.i64.wrap (at_+2)=at_+2:=by rw[Cl]<;>omega
 have w3:IntKind.i64.wrap (at_+3)=at_+3:=by rw[Cl]<;>omega
 have fin:∀(z:Hp) (m:Nat) (a1 I d H j e':Int) (f:List UInt8) (i:List B7) (p:SV) (u w:Option Nat),ZJ z q B s a1 f i H I p u w->(∀o y,o<B->G o=some y->z o=some y)->n<=m->Zf s at_ e bs ps d f i j e'->
  B8 n (hset z q (some (.cells [.str s,AA d,p,Ep u f,AM 3 w (i.map B7.enc),AA j,AA e'] (some 388)))) m (.tup []) (VN q B s G n (Zf s at_ e bs ps)):=λz m a1 I d H j e' f i p u w T t a V=>
  .inl ⟨d,f,i,j,e',V,T.upd d j e',λo y Q R=>by have:=T.le;rw[AD _ _ (by omega)];exact t o y Q R,a⟩
 refine AR ?_;refine AT 0 (α:=Bx) (λb=>[(0,.ptr q 0),(5,.bool b.b)]) (λ_=>G) (ZE n (at_+2<=s.size)) (BX Yw rfl (by kernel_rfl) (by kernel_rfl) ?_) (λb m a=>?_);have C:∀{K:SV->Hp->Nat->Prop},(∀b:Bx,ZE n (at_+2<=s.size) b n->K (.bool b.b) G n)->Ak (B6.plain.call false 0) Tryz.prog 332 [.str (s.extract at_.toNat s.size),.str ⟨#[37,37]⟩] G n K:=λU=>
  kW (Yp _ _) λv ⟨x,I,P⟩=>by
   rw[I];refine U ⟨x⟩ ⟨qa _,λg=>?_⟩;have:=P g;simp at this;have h9:(⟨#[37,37]⟩:ByteArray).size=2:=rfl;omega
 simp[go_sem,Yw,hc,h0];have:=Int.le_of_lt N;simp[this];refine⟨?_,?_⟩ <;>
 . refine C λb hb=>?_;simp[go_sem,IO];exact⟨b,hb,rfl⟩
 obtain⟨b⟩:=b;obtain⟨a,c⟩:=a;dsimp only at c ⊢;cases b with
 | true=>
  have c:=c rfl;refine Ah (b:=true) (by simp[go_sem]) ?_;simp only[if_true];refine Nb λL=>?_;refine BM 0 (α:=Hp) (λ_=>[(0,.ptr q 0)]) (λz=>z) (UV G q B n s λd f i j e'=>d=at_/\f=bs++[37]/\i=ps/\j=O/\e'=e) ?_ (λz m a=>?_);simp[go_sem];refine qC (show BA Tryz.prog 329 [.ptr q 2,.int .u8 37] G _ _ from VZ S L hb 37) ?_;rintro v k n' E;simp[go_sem,IO];exact⟨k,E.st a,AB⟩;obtain⟨a,a1,a2,a3,a4,a5,⟨rfl,rfl,rfl,rfl,rfl⟩,⟨p,u,w,T⟩,t⟩:=a;refine AH ?_;have A:=T.cells;simp[go_sem,A,w2];exact fin _ _ _ _ _ _ _ _ _ _ _ _ _ T t a ⟨.inl ⟨by omega,c,rfl⟩,by simp,by omega⟩
 | false =>
  refine Ah (b:=false) (by simp[go_sem]) ?_;simp only[qj,if_false];refine BM 0 (α:=Bx) (λb=>[(0,.ptr q 0),(27,.bool b.b)]) (λ_=>G) (ZE n (at_+1<s.size)) ?_ (λb m a=>?_);simp[go_sem,hc,w1];refine qC (Xw S (at_+1) (by omega)) ?_;rintro v k n' ⟨⟨b,rfl,Hn⟩,rfl,rfl⟩;simp[go_sem,IO];exact⟨⟨b⟩,⟨a,Hn⟩,rfl⟩;obtain⟨b⟩:=b;obtain⟨a,c⟩:=a;dsimp only at c ⊢;cases b with
  | true=>
   have c:=c rfl;refine Ah (b:=true) (by simp[go_sem]) ?_;simp only[if_true];refine AT 0 (α:=Hp) (λ_=>[(0,.ptr q 0)]) (λz=>z) (UV G q B n s λd f i _ e'=>d=at_/\f=[]/\i.length<=ps.length+2/\e'=e) (BX VG rfl (by kernel_rfl) (by kernel_rfl) ?_) (λz m a=>?_);have hkl:(at_+1).toNat<s.size:=by omega
   obtain⟨x,F⟩:∃x,s[(at_+1).toNat]'hkl=x:=⟨_,rfl⟩
   have r:s[(at_+1).toNat]? = some x:=by rw[Sv hkl,F]
   have l:0<=at_+1:=by omega
   simp[go_sem,VG,hc,w1,l,r];refine⟨?_,?_⟩ <;>
   . refine qC (Xx S hb D) ?_;rintro v k n' E;simp[go_sem,IO];exact⟨k,E.st a,AB⟩
   obtain⟨a,a1,a2,a3,a4,a5,⟨rfl,rfl,hl,rfl⟩,⟨p,u,w,T⟩,t⟩:=a;refine AH ?_;have A:=T.cells;simp[go_sem,A,w2];exact fin _ _ _ _ _ _ _ _ _ _ _ _ _ T t a ⟨.inl ⟨by omega,by omega,rfl⟩,by simp,hl⟩
  | false =>
   refine Ah (b:=false) (by simp[go_sem]) ?_;simp only[qj,if_false];refine AT 0 (α:=Bx) (λb=>[(0,.ptr q 0),(54,.bool b.b)]) (λ_=>G) (ZE n (at_+2<s.size)) (BX Yx rfl (by kernel_rfl) (by kernel_rfl) ?_) (λb m a=>?_);have J:=Int.le_of_lt N;simp[go_sem,Yx,hc,h0,J];refine⟨?_,?_⟩ <;>
   . refine kW (Yp _ _) ?_;rintro v ⟨b,rfl,_⟩;cases b with
     | false=>
      simp[go_sem,IO];exact⟨⟨false⟩,⟨a,by simp⟩,rfl⟩
     | true=>
      simp[go_sem,hc,w2];refine qC (Xw S (at_+2) (by omega)) ?_;rintro v k n' ⟨⟨b,rfl,Hn⟩,rfl,rfl⟩;simp[go_sem,IO];exact⟨⟨b⟩,⟨a,Hn⟩,rfl⟩
   obtain⟨b⟩:=b;obtain⟨a,c⟩:=a;dsimp only at c ⊢;cases b with
   | true=>
    have c:=c rfl;refine Ah (b:=true) (by simp[go_sem]) ?_;simp only[if_true];refine AT 0 (α:=Hp) (λ_=>[(0,.ptr q 0)]) (λz=>z) (UV G q B n s λd f i _ e'=>d=at_/\f=[]/\i.length<=ps.length+2/\e'=e) (BX VG rfl (by kernel_rfl) (by kernel_rfl) ?_) (λz m a=>?_);have hkl:(at_+2).toNat<s.size:=by omega
    obtain⟨x,F⟩:∃x,s[(at_+2).toNat]'hkl=x:=⟨_,rfl⟩
    have r:s[(at_+2).toNat]? = some x:=by rw[Sv hkl,F]
    have l:0<=at_+2:=by omega
    simp[go_sem,VG,hc,w2,l,r];refine⟨?_,?_⟩ <;>
    . refine qC (Xx S hb D) ?_;rintro v k n' E;simp[go_sem,IO];exact⟨k,E.st a,AB⟩
    obtain⟨a,a1,a2,a3,a4,a5,⟨rfl,rfl,hl,rfl⟩,⟨p,u,w,T⟩,t⟩:=a;refine AH ?_;have A:=T.cells;simp[go_sem,A,w3];exact fin _ _ _ _ _ _ _ _ _ _ _ _ _ T t a ⟨.inl ⟨by omega,by omega,rfl⟩,by simp,hl⟩
   | false=>
    refine Ah (b:=false) (by simp[go_sem]) ?_;simp only[qj,if_false];refine AH ?_;simp[go_sem,hc];exact fin _ _ _ _ _ _ _ _ _ _ _ _ _ M (λ_ _ _ h=>h) a ⟨.inr ⟨rfl,rfl⟩,by omega,by omega⟩
def UH:Tr:=.pure 0 (.pure 1 (.pure 2 (.pure 4 (.pure 5 (.pure 6 (.two 3 7 (.one 7 (.one 8 (.pure 9 (.pure 10 (.pure 11 (.pure 12 (.pure 13 (.one 14 (.pure 15 (.pure 16 .nil)))))))))) (.two 3 8 (.one 8 (.pure 9 (.pure 10 (.pure 11 (.pure 12 (.pure 13 (.one 14 (.pure 15 (.pure 16 .nil))))))))) (.one 3 (.pure 9 (.pure 10 (.pure 11 (.pure 12 (.pure 13 (.one 14 (.pure 15 (.pure 16 .nil))))))))))))))))
def Y0:Tr:=.pure 0 (.pure 1 (.pure 2 (.pure 4 (.pure 5 (.pure 6 (.two 3 7 (.one 7 (.one 8 (.pure 9 .nil))) (.one 3 (.one 8 (.pure 9 .nil)))))))))
def Y1:Tr:=.pure 0 (.pure 1 (.pure 2 (.pure 3 (.pure 4 (.pure 5 (.pure 7 (.pure 8 (.pure 9 (.two 6 10 (.one 10 (.one 11 (.one 12 .nil))) (.one 6 (.one 11 (.one 12 .nil))))))))))))
def SnR (s:ByteArray) (z:Int×Int):Int->List UInt8->List B7->Int->Int->Prop:=λat_ bs ps _ e=>
 at_=z.1/\e=z.2/\0<=at_/\at_<=s.size/\(e=0->(bs.length:Int)<=at_/\(ps.length:Int)<=2*at_)/\(bs.length:Int)<=at_+1/\(ps.length:Int)<=2*at_+2
def SnI (G:Hp) (q B n:Nat) (s:ByteArray) (z:Hp×Int×Int) (m:Nat):Prop:=UV G q B n s (SnR s z.2) z.1 m
def ZK (s:ByteArray) (z:Hp×Int×Int):Nat:=2*(s.size-z.2.1).toNat+(if z.2.2=0 then 1 else 0)
set_option maxHeartbeats 2000000 in
theorem br {G:Hp} {n q B:Nat} {s:ByteArray} {pl:Int} (S:Sb G q B s 0 [] [] pl 0) (hs:s.size<=1024):
 BA Tryz.prog 320 [.ptr q 0] G n (VN q B s G n λ_ _ i _ _=>i.length<=1048576):=by
 refine Db Tryz.func320 rfl λho=>?_;refine AT 0 (α:=Hp×Int×Int) (λ_=>[(0,.ptr q 0)]) (λz=>z.1) (SnI G q B n s) ?_ (λz m U=>?_);refine AR (BG 0 (α:=Hp×Int×Int) (λ_=>[(0,.ptr q 0)]) (λz=>z.1) (SnI G q B n s) (ZK s) (G,0,0) ⟨qa _,0,[],[],pl,0,⟨rfl,rfl,by omega,by simp,by simp,by simp,by simp⟩,S,λ_ _ _ h=>h⟩ ?_ AB ?_);simp[go_sem,Ai,IO];rintro⟨z,a0,e0⟩ m ⟨U,at_,bs,ps,C,e,⟨N,h2,J,h4,Q,h6,h7⟩,T,l⟩;dsimp only at N h2 T l ⊢;subst N;subst h2;obtain⟨p,ob,op,T0⟩:=id T;have hc:=T0.cells;by_cases c:at_<s.size/\e=0;obtain⟨c1,rfl⟩:=c;have hl:=Q rfl;have hbl:bs.length<=1024/\ps.length<=2048:=by omega
 refine Bc 0 [(0,.ptr q 0)] z m ?_ (λm3 hm3=>?_);refine AT 0 (α:=Unit) (λ_=>[(0,.ptr q 0),(18,.bool true)]) (λ_=>z) (λ_ m2=>m<=m2) (BX UH rfl (by kernel_rfl) (by kernel_rfl) ?_) (λ_ m2 f=>?_);simp[go_sem,UH,hc,c1,IO];refine AH ?_;simp[go_sem,IO,f];refine AR ?_;have hkl:at_.toNat<s.size:=by omega
 obtain⟨x,X⟩:∃x,s[at_.toNat]'hkl=x:=⟨_,rfl⟩
 have K:s[at_.toNat]? = some x:=by rw[Sv hkl,X]
 refine Bc 0 [(0,.ptr q 0)] z m ?_ (λY L=>?_);refine AT 0 (α:=Bx) (λb=>[(0,.ptr q 0),(28,.bool b.b)]) (λ_=>z) (λ_ Y=>m3<=Y) (BX Y0 rfl (by kernel_rfl) (by kernel_rfl) ?_) (λb Y L=>?_);simp[go_sem,Y0,hc,J,K,IO];exact⟨⟨_⟩,rfl⟩;obtain⟨b⟩:=b;refine AH ?_;cases b with
 | false=>simp[go_sem,IO];omega
 | true=>
  simp[go_sem];refine qC (bt T J c1 (by omega) (by omega) (by omega)) ?_;rintro v D n' ⟨a1,a2,a3,a4,a5,⟨W,r2,r3⟩,r6,r7,r8⟩;simp[go_sem,IO];have R:∀o y,o<B->G o=some y->D o=some y:=λo y a j=>r7 o y a (l o y a j);refine⟨D,a1,a5,?_,⟨by omega,a1,a2,a3,a4,a5,⟨rfl,rfl,by omega,by omega,λg=>by omega,by omega,by omega⟩,r6,R⟩,AB⟩;rcases W with⟨a,j,rfl⟩|⟨rfl,rfl⟩
  simp[ZK];omega;simp[ZK]
 refine Nb λV=>?_;refine AT 0 (α:=Hp) (λ_=>[(0,.ptr q 0)]) (λy=>y) (UV z q B m s λO P i pl' e'=>O=at_/\P=bs++[x]/\i=ps/\pl'=C/\e'=0) (BX Y1 rfl (by kernel_rfl) (by kernel_rfl) ?_) (λy m5 M=>?_);simp[go_sem,Y1,hc,J,K];refine⟨?_,?_⟩ <;>
 . refine qC (VZ T V (by omega) x) ?_;rintro v D n' hq;simp[go_sem,IO];exact⟨D,hq.st L,AB⟩
 obtain⟨M,a1,a2,a3,a4,a5,⟨rfl,rfl,rfl,rfl,rfl⟩,⟨Z,u,A,k⟩,d⟩:=M;have hT:=k.cells;have w1:IntKind.i64.wrap (a1+1)=a1+1:=by rw[Cl]<;>omega
 refine AH ?_;simp[go_sem,hT,w1,IO];refine⟨_,a1+1,0,by simp[ZK];omega,⟨by omega,a1+1,bs++[x],a3,a4,0,⟨rfl,rfl,by omega,by omega,λ_=>by simp;omega,by simp;omega,by omega⟩,k.upd (a1+1) a4 0,λo w a j=>?_⟩,AB⟩;have:=k.le;exact(AD _ _ (show o≠q by omega)).trans (d o w a (l o w a j));refine Bo 0 [] z (λ_=>False) ?_ (λ_ hF=>hF.elim);refine AT 0 (α:=Unit) (λ_=>[(0,.ptr q 0),(18,.bool false)]) (λ_=>z) (λ_ m2=>m<=m2) (BX UH rfl (by kernel_rfl) (by kernel_rfl) ?_) (λ_ m2 f=>?_);by_cases c1:at_<s.size;have I:¬e=0:=λg=>c ⟨c1,g⟩;have c3:(e==0)=false:=by simpa using I
 simp[go_sem,UH,hc,c1,c3,IO];simp[go_sem,UH,hc,c1,IO];refine AH ?_;simp[go_sem,IO];exact⟨z,⟨at_,e,by omega,at_,bs,ps,C,e,⟨rfl,rfl,J,h4,Q,h6,h7⟩,T,l⟩,AB⟩;obtain⟨z,a0,e0⟩:=z;obtain⟨U,at_,bs,ps,C,e,⟨N,h2,J,h4,Q,h6,h7⟩,T,l⟩:=U;dsimp only at N h2 T l ⊢;refine BM 0 (α:=Hp) (λ_=>[(0,.ptr q 0)]) (λy=>y) (UV z q B m s λ_ _ i _ _=>i.length<=1048576) ?_ (λy m2 f=>?_);simp[go_sem];refine qC (Xv T (by omega) (by omega)) ?_;rintro v D n' ⟨b1,E,F,r,H,⟨r1,r2,r3,r4,r5⟩,r6,r7,r8⟩;simp[go_sem,IO];exact⟨D,⟨r8,b1,E,F,r,H,by dsimp only;omega,r6,r7⟩,AB⟩;obtain⟨f,b1,E,F,r,H,t,⟨Z,u,A,k⟩,d⟩:=f;have hc:=k.cells;refine AH ?_;by_cases c1:H=0;by_cases I:9<r;simp[go_sem,hc,c1,I];refine .inl ⟨b1,E,F,r,9,t,k.upd b1 r 9,λo y a j=>?_,by omega⟩;have:=k.le;rw[AD _ _ (by omega)];exact d o y a (l o y a j);simp[go_sem,hc,c1,I];exact .inl ⟨b1,E,F,r,H,t,⟨Z,u,A,k⟩,λo y a j=>d o y a (l o y a j),by omega⟩;simp[go_sem,hc,c1];exact .inl ⟨b1,E,F,r,H,t,⟨Z,u,A,k⟩,λo y a j=>d o y a (l o y a j),by omega⟩
theorem bC (b:Int):PC 319 [Io b] (.bool (decide (b<32)||decide (b=127))):=by
 intro h n;refine gq Tryz.func319 rfl λa=>?_;by_cases c:b<32;simp[go_sem,c];exact As a rfl rfl;simp[go_sem,c];exact As a rfl (by by_cases d:b=127<;>simp[d])
def PaT (v:SV):Prop:=∃(ps:List B7) (e:Int),v=.tup [.imm 3 (ps.map B7.enc) false,AA e]/\ps.length<=1048576
def Yy:Tr:=.pure 0 (.pure 1 (.pure 2 (.pure 4 (.one 3 (.pure 5 .nil)))))
theorem dB (s:ByteArray) (J:s.size<=1048576):TC 302 [.str s] PaT:=by
 intro h n
 refine Db Tryz.func302 rfl λE=>?_
 have out:∀(H:Hp) (m:Nat) (e:Int),(∀j y,h j=some y->H j=some y)->B8 n H m (.tup [.imm 0 [] true,AA e]) (λv h' n'=>PaT v/\h'=h/\n'=n):=λH m e C=>
  Vi 2 E C (v:=.tup [.imm 3 [] false,AA e]) (.inr ⟨BC (by simp),IO,trivial⟩) (by simp[closed,closedL]) ⟨[],e,rfl,by simp⟩
 refine AY 0 [(0,.str s)] h n ?_ (λm A=>?_)
 . simp[go_sem,IO]
 refine AT 0 (α:=Unit) (λ_=>[(0,.str s)]) (λ_=>h) (λ_ m=>n<=m/\s.size<=64) (AR ?_) (λ_ m A=>?_)
 . by_cases a1:(64:Int)<s.size
   . refine AH ?_
     simp[go_sem,a1]
     exact out _ _ _ AB
   have hl:s.size<=64:=by omega
   refine AH ?_
   simp[go_sem,a1]
   refine(P7 s (by omega)).use ?_
   cases CZ s with
   | false=>
    simp[go_sem]
    exact out _ _ _ AB
   | true=>
   simp[go_sem]
   have B:∀b:List UInt8,b.map EJ=(b.map λx=>(x.toNat:Int)).map Io:=λb=>by rw[Qw];rfl
   refine SE (s:=s) (e:=5) rfl (by simp[go_sem]) (by simp[go_sem]) (by simp[go_sem]) rfl ?_
   rw[B]
   have r:s.data.toList.length=s.size:=by rw[jU];rfl
   have c:=bB (s.data.toList.map λx=>(x.toNat:Int)) (by simp[r];omega) 319 [] [] (λi=>match(s.data.toList.map λx=>(x.toNat:Int))[i]? with|some b=>decide (b<32)||decide (b=127)|none=>false) (λi hi=>by rw[qf hi];exact bC _)
   generalize Rc _ _=b at c
   generalize(s.data.toList.map λx=>(x.toNat:Int)).map Io=L at c ⊢
   simp[go_sem]
   refine qw c ?_
   cases b with
   | true=>
    simp[go_sem]
    exact out _ _ _ AB
   | false=>
    simp[go_sem,IO,A,hl]
 obtain⟨A,hl⟩:=A
 refine Nb λl=>?_
 refine BM 0 (α:=Hp) (λ_=>[(4,.ptr m 0)]) (λz=>z) (λz m2=>m<m2/\Sb z m m s 0 [] [] 0 0/\∀o y,h o=some y->z o=some y) ?_ (λz m2 t=>?_)
 . simp[go_sem,IO]
   exact⟨_,⟨⟨.nilp,none,none,qa _,AC _ _ _,.inl rfl,λ_=>rfl,by simp,λ_=>rfl,by simp⟩,AJ (λj y e=>(l j y e).1) AB⟩,AB⟩
 obtain⟨t,S,I⟩:=t
 refine AT 0 (α:=Hp) (λ_=>[(4,.ptr m 0)]) (λy=>y) (UV z m m m2 s λ_ _ q _ _=>q.length<=1048576) ?_ (λy K f=>?_)
 . refine BM 0 (α:=Hp) (λ_=>[(4,.ptr m 0)]) (λy=>y) (UV z m m m2 s λ_ _ q _ _=>q.length<=1048576) ?_ (λy K f=>?_)
   . simp[go_sem]
     refine qC (br S (by omega)) ?_
     rintro v N n' Q
     simp[go_sem,IO]
     exact⟨N,Q.st (qa _),AB⟩
   obtain⟨f,b1,F,ps,G,e,p,⟨M,u,a,T⟩,k⟩:=f
   have hc:=T.cells
   have d:∀o w,h o=some w->y o=some w:=λo w g=>k o w (l o w g).1 (I o w g)
   by_cases c1:e=0
   . refine AH ?_
     simp[go_sem,hc,c1,IO]
     exact⟨y,⟨by omega,b1,F,ps,G,e,p,⟨M,u,a,T⟩,k⟩,AB⟩
   . have O:(e !=0)=true:=by simpa using c1
     refine BP 0 [(4,.ptr m 0),(26,.bool true)] y (λ_=>True) ?_ (λm4 _=>?_)
     . simp[go_sem,hc,O,IO]
     refine Ah (b:=true) (by simp[go_sem]) ?_
     simp only[if_true]
     refine AT 0 (α:=Unit) (λ_=>[(2,.imm 0 [] true),(3,AA e)]) (λ_=>y) (λ_ _=>True) (BX Yy rfl (by kernel_rfl) (by kernel_rfl) ?_) (λ_ m5 _=>?_)
     . simp[go_sem,Yy,hc,IO]
     refine AH ?_
     simp[go_sem]
     exact out _ _ _ d
 obtain⟨f,b1,F,ps,G,e,p,⟨M,u,a,T⟩,k⟩:=f
 have hc:=T.cells
 have d:∀o w,h o=some w->y o=some w:=λo w g=>k o w (l o w g).1 (I o w g)
 refine AH ?_
 simp[go_sem,hc]
 have P:Ar n (K+(a.getD 0)+1) 3 a (ps.map B7.enc):=⟨λe=>by rw[T.o0 e];rfl,λj e=>⟨by have:=(T.o1 j e).1;omega,by rw[e];simp;omega⟩,B7.size ps⟩
 have C:∀j w,AN a (ps.map B7.enc) h j=some w->y j=some w:=λj w g=>by
  cases a with
  | none=>exact d j w g
  | some i=>
   simp only[AN,hset]at g
   split at g
   . rename_i D;subst D;rw[(T.o1 j rfl).2.2.2];exact g
   . exact d j w g
 exact Vi 2 E d (v:=.tup [.imm 3 (ps.map B7.enc) false,AA 0]) (.inr ⟨AM.fz E P C,IO,trivial⟩) (by simp[closed,closedL];exact BU.2 λs J=>by obtain⟨x,_,rfl⟩:=qy.1 J;rfl) ⟨ps,0,rfl,p⟩
theorem au (p:B7) (k:Int):PC 304 [p.enc,.iptr [AA k]] (.bool (decide (k<p.level))):=by
 intro h n;refine gq Tryz.func304 rfl λa=>?_;simp[go_sem,B7.enc,AC];exact Ay a (AQ a (qa _) AB) rfl rfl
theorem dA (s:ByteArray) (o:s.size<=1048576) (k:Int):TC 271 [.str s,AA k] FM:=by
 intro h n;refine Db Tryz.func271 rfl λj=>?_;have d:=j.lt;have out:∀(e:Int) (m:Nat),B8 n h m (AA e) (λv h' n'=>FM v/\h'=h/\n'=n):=λe m=>GQ j AB (by simp[closed]) ⟨e,rfl⟩;refine AY 1 [(0,.str s),(3,.iptr [AA k])] h n ?_ (λm g=>?_);simp[go_sem,IO];exact⟨AV (AW d (qa _)) (AC _ _ _),AJ d AB⟩;refine Bc 0 [(0,.str s),(3,.iptr [AA k])] h n (AH ?_) (λm g=>?_);by_cases a1:k<1;simp[go_sem,a1];exact out _ _;by_cases a2:9<k;simp[go_sem,a1,a2];exact out _ _;simp[go_sem,a1,a2,IO,g];refine AH ?_;simp[go_sem];refine kW (dB s o) ?_;rintro v ⟨ps,e,rfl,f⟩;by_cases c:e=0;have a:=ao ps f 304 [] [.iptr [AA k]] (λi=>match ps[i]? with|some p=>decide (k<p.level)|none=>false) (λi hi=>by rw[qf hi];exact au _ k);generalize Rc _ _=b at a;simp[go_sem,c];refine qw a ?_;cases b<;>simp[go_sem]<;>exact out _ _;have l:(e==0)=false:=by simpa using c
 simp[go_sem,l];exact out _ _
theorem Jy {E:B6} {ops:Array Oper} {K:SA->Hp->Nat->Prop} {sa:SA} {h:Hp} {n:Nat} {b:Bool} {e:Int} {a:List Oper} {c:List CR} {dst:Option Tmp}
 (d:∀r:Int,Ja E Tryz.prog ops K a c sa { dst:=dst,val:=AA r } h n):Bs E Tryz.prog ops K sa h n 87 [.bool b,AA e] a c dst:=
 jw _ _ _ _ _ _ (JK b e) (d _)
theorem Qu {E:B6} {ops:Array Oper} {K:SA->Hp->Nat->Prop} {sa:SA} {h:Hp} {n:Nat} {s:ByteArray} (hs:s.size<=1048576) {a:List Oper} {b:List CR} {dst:Option Tmp}
 (c:∀r:Int,Ja E Tryz.prog ops K a b sa { dst:=dst,val:=AA r } h n):Bs E Tryz.prog ops K sa h n 217 [.str s] a b dst:=
 jw _ _ _ _ _ _ (Xf s (by omega)) (c _)
set_option maxHeartbeats 2000000 in
theorem mG (l:List Ft) (hl:l.length<=1048576) (q:∀x∈l,x.name.size<=1048576/\x.value.size<=1048576) (i:Nat) (hi:i<l.length):TC 218 [AA i,.iptr [FI l]] FM:=by
 intro h n;refine gq Tryz.func218 rfl λf=>?_;obtain⟨x,a⟩:∃x,l[i]=x:=⟨_,rfl⟩
 have e:=q x (by rw[<-a];exact ql hi);by_cases h0:i=0
 . subst h0;simp[go_sem,hi,a,Ft.enc]
   repeat first|refine nq ?_|refine sq ?_
   refine jw _ _ _ _ _ _ (V5 x.name) ?_;simp[go_sem]
   repeat first|refine nq ?_|refine sq ?_
   refine Jy λg=>?_;simp[go_sem]
   repeat first|refine nq ?_|refine sq ?_
   refine Jy λj=>?_;simp[go_sem]
   repeat first|refine nq ?_|refine sq ?_
   refine Jy λk=>?_;simp[go_sem,hi,a,Ft.enc]
   repeat first|refine nq ?_|refine sq ?_
   refine Qu e.2 λm=>?_;simp[go_sem]
   repeat first|refine nq ?_|refine sq ?_
   refine Bs.lend _ _ _ _ _ _ 2 [n] (Pw [g,j,k,m] (by simp)) rfl (by simp) (λh' o=>?_) ?_;have:=o n (by simp);simp[hset]at this;simp[AZ,Fz,this,Bg,SV.storable,SV.cells];simp[go_sem]
   repeat first|refine nq ?_|refine sq ?_
   exact GQ f (AQ f (qa _) AB) (by simp[closed]) ⟨_,rfl⟩
 . have c:0<i:=by omega
   have d:(if(1:Int)>i then(1:Int)else i)=i:=by split<;>omega
   have hmx2:(if(1:Int)<i then(i:Int)else 1)=i:=by split<;>omega
   have w1:IntKind.i64.wrap ((i:Int)-1)=((i-1:Nat):Int):=by rw[Cl]<;>omega
   have b:i-1<l.length:=by omega
   obtain⟨y,p⟩:∃y,l[i-1]=y:=⟨_,rfl⟩
   simp[go_sem,hi,a,Ft.enc]
   repeat first|refine nq ?_|refine sq ?_
   refine jw _ _ _ _ _ _ (V5 x.name) ?_;simp[go_sem]
   repeat first|refine nq ?_|refine sq ?_
   refine Jy λg=>?_;simp[go_sem,hi,a,Ft.enc,c,w1,b,p,d]
   repeat first|refine nq ?_|refine sq ?_
   refine Jy λj=>?_;simp[go_sem,hi,a,Ft.enc,c,w1,b,p,d]
   repeat first|refine nq ?_|refine sq ?_
   refine Jy λk=>?_;simp[go_sem,hi,a,Ft.enc]
   repeat first|refine nq ?_|refine sq ?_
   refine Qu e.2 λm=>?_;simp[go_sem]
   repeat first|refine nq ?_|refine sq ?_
   refine Bs.lend _ _ _ _ _ _ 2 [n] (Pw [g,j,k,m] (by simp)) rfl (by simp) (λh' o=>?_) ?_;have:=o n (by simp);simp[hset]at this;simp[AZ,Fz,this,Bg,SV.storable,SV.cells];simp[go_sem]
   repeat first|refine nq ?_|refine sq ?_
   exact GQ f (AQ f (qa _) AB) (by simp[closed]) ⟨_,rfl⟩
end Go.Proofs.YtgakninlhfkkmaaGreat.Sh
