/- A part of the proof (part 15 of 18). -/
import Derived.Test.YtgakninlhfkkmaaGreatN14
namespace Go.Proofs.YtgakninlhfkkmaaGreat.Sh
open Go.Proofs.Tryz
open Proofs
set_option maxRecDepth 10000
set_option maxHeartbeats 4000000
def Ke(ps:List CJ):List Int:=ps.map (·.level)
def flL(bs:List UInt8):List Int:=if bs=[]then[]else[0]
def WQ(s:ByteArray)(k:Int):Bool:=if k<s.size then(match s[k.toNat]? with|some x=>decide ((49:Int)<=x.toNat)&&decide ((x.toNat:Int)<=57)|none=>false)else false
theorem WR{s:ByteArray}{k:Int}(h:WQ s k=true):k<s.size:=by
 unfold WQ at h;split at h
 assumption
 cases h
def RW(s:ByteArray)(k:Int):Int:=match s[k.toNat]? with|some x=>IntKind.i64.wrap (IntKind.u8.wrap ((x.toNat:Int)-48))|none=>0
def G9(a b:ByteArray):Bool:=decide (b.size<=a.size)&&((a.extract 0 b.size).toList==b.toList)
theorem U5{a b:ByteArray}(h:G9 a b=true):b.size<=a.size:=by unfold G9 at h;simp at h;exact h.1
theorem iH(a b:ByteArray):PC 340 [.str a,.str b] (.bool (G9 a b)):=by
 intro h n;refine DO func340 rfl λe=>?_;refine AJ ?_;by_cases c:(b.size:Int)<=a.size;have d:b.size<=a.size:=by omega
 simp[go_sem,c];exact As e rfl (by simp[G9,d]);have d:¬b.size<=a.size:=by omega
 simp[go_sem,c];exact As e rfl (by simp[G9,d])
theorem b8(a b:ByteArray):PC 332 [.str a,.str b] (.bool (G9 a b)):=by
 intro h n;refine DO func332 rfl λc=>?_;refine AJ ?_;simp[go_sem];refine qz (iH a b) ?_;simp[go_sem];exact As c rfl rfl
def ZT(s:ByteArray)(at_ pl e:Int)(bs:List UInt8)(lv:List Int):Int×List UInt8×List Int×Int×Int:=
 if G9 (s.extract at_.toNat s.size) ⟨#[37,37]⟩then(at_+2,bs++[37],lv,pl,e)
 else if WQ s (at_+1)then(at_+2,[],lv++(flL bs++[RW s (at_+1)]),IntKind.i64.wrap (pl+1),e)
 else if G9 (s.extract at_.toNat s.size) ⟨#[37,100]⟩&&WQ s (at_+2)then(at_+3,[],lv++(flL bs++[RW s (at_+2)]),IntKind.i64.wrap (pl+1),e)
 else(at_,bs,lv,pl,14)
def eO(s:ByteArray)(at_ pl e:Int)(bs:List UInt8)(ps:List CJ):Int->List UInt8->List CJ->Int->Int->Prop:=λat' bs' ps' pl' e'=>
 (at',bs',Ke ps',pl',e')=ZT s at_ pl e bs (Ke ps)/\((at_<at'/\at'<=s.size/\e'=e)\/(at'=at_/\e'=14))/\bs'.length<=bs.length+1/\ps'.length<=ps.length+2
def du(G:Hp)(B q n:Nat)(s:ByteArray)(at_ pl e:Int)(L:List Int)(N:Nat)(z:Hp×List CJ)(m:Nat):Prop:=n<=m/\Vg z.1 q B s at_ [] z.2 pl e/\z.2.length<=N/\(∀o y,o<B->G o=some y->z.1 o=some y)/\Ke z.2=L
theorem ZF{G:Hp}{n q B:Nat}{s:ByteArray}{at_ l e:Int}{bs:List UInt8}{ps:List CJ}(S:Vg G q B s at_ bs ps l e)(hb:bs.length<=1048576)(hps:ps.length<=1048576):
 BL prog 330 [.ptr q 0] G n (Y6 q B s G n λL M I R e'=>L=at_/\M=[]/\(Ke I=Ke ps++flL bs/\I.length<=ps.length+1)/\R=l/\e'=e):=by
 refine DO func330 rfl λF=>?_;obtain⟨p,Y,Q,S⟩:=S;have hqn:q<n:=(F q _ S.cells).1;by_cases c:bs=[];refine B5 0 [(0,.ptr q 0),(6,.bool false)] G n ?_ (λm D=>?_);simp[go_sem];refine qP (cQ S.cells S.b0) ?_;rintro v w n' ⟨rfl,rfl,rfl⟩;simp[go_sem,IO,c];subst D;refine AJ ?_;simp[go_sem];exact .inl ⟨at_,[],ps,l,e,⟨rfl,rfl,⟨by rw[c];simp[flL],by omega⟩,rfl,rfl⟩,⟨p,Y,Q,by rw[<-c];exact S⟩,λo y _ h=>h,qa _⟩
 . refine B5 0 [(0,.ptr q 0),(6,.bool true)] G n ?_ (λm D=>?_);simp[go_sem];refine qP (cQ S.cells S.b0) ?_;rintro v w n' ⟨rfl,rfl,rfl⟩;have:0<bs.length:=by cases bs<;>simp at c ⊢
   simp[go_sem,IO,this];subst D;refine Au (b:=true) (by simp[go_sem]) ?_;simp only[if_true];cases Y with
   | none=>exact absurd (S.b0 rfl) c
   | some j=>
   obtain⟨j1,U,j3,V⟩:=S.b1 j rfl;have hjn:j<n:=(F j _ V).1;have d:=S.cells;have J:q≠j:=Ne.symm U;have K:q≠n:=by omega
   have A:q≠n+1:=by omega
   obtain⟨x,T⟩:∃x:CJ,x=⟨⟨bs.toArray⟩,0,false⟩:=⟨_,rfl⟩
   obtain⟨E,N⟩:∃E,E=(ps++[x]).map CJ.e:=⟨_,rfl⟩
   have hle:=S.le;refine AX 0 (α:=Hp×Nat) (λ_=>[(0,.ptr q 0)]) (λz=>z.1) (dq G B q n (λk=>[.str s,AA at_,p,FS (some j) bs,AW 3 (some k) E,AA l,AA e]) E)
    (CK ai rfl (by kernel_rfl) (by kernel_rfl) ?_) (λz m D=>?_)
   have r:∀(X:Hp)(k p:Nat),X k=some (.cells [.str ⟨bs.toArray⟩,AA 0,.bool false])->(∀j,Q=some j->X j=some (.cells ((ps.map CJ.e).flatMap SV.cells)))->_:=λX k p u g=>bN (x:=x) (p:=p) S.o0 (by rw[T];exact u) g (by omega);have t:∀(X:Hp),X q=some (.cells [.str s,AA at_,p,FS (some j) bs,.sl (n+1) 0 3 (ps.length+1) false,AA l,AA e] (some 388))->X (n+1)=some (.cells ((ps.map CJ.e).flatMap SV.cells++x.e.cells))->(∀o y,o<B->G o=some y->X o=some y)->
    dq G B q n (λk=>[.str s,AA at_,p,FS (some j) bs,AW 3 (some k) E,AA l,AA e]) E (X,n+1) (n+2):=λX u g g3=>⟨by omega,by show X q=_;rw[u,N];simp[AW],by show X (n+1)=_;rw[g,N];simp,by show n<=n+1;omega,by show n+1<n+2;omega,g3⟩
   have step:Ap (CC.plain.call false 0) prog 337 [.ptr q 2] G n (λv h' n'=>v=.str ⟨bs.toArray⟩/\h'=h_ G j none/\n=n'):=qP (il d V U j3 (by omega)) λv h' n' ⟨a,b,c⟩=>⟨a,b,c.symm⟩
   cases Q with
   | none =>
    have f:∃a,(∃x_1,dq G B q n (λk=>[.str s,AA at_,p,FS (some j) bs,AW 3 (some k) E,AA l,AA e]) E (a,x_1) (n+1+1))/\∀(o:Nat)(y:Bb),a o=some y->h_ (h_ (h_ (h_ G j none) n (some (Bb.cells [.str ⟨bs.toArray⟩,AA 0,.bool false]))) (n+1) (some (.cells (List.flatMap SV.cells (List.map CJ.e ps)++x.e.cells)))) q (some (.cells [.str s,AA at_,p,FS (some j) bs,.sl (n+1) 0 3 (ps.length+1) false,AA l,AA e] (some 388))) o=some y:=
     ⟨_,⟨_,t _ (AD _ _ _) ((AE _ _ (Ne.symm A)).trans (AD _ _ _)) λo y u g=>by have:=(F o y g).1;rw[AE _ _ (by omega),AE _ _ (by omega),AE _ _ (by omega),AE _ _ (by omega)];exact g⟩,AC⟩
    simp[go_sem,ai,d];refine⟨?_,?_⟩;refine we step ?_;rintro v w n' ⟨rfl,rfl,rfl⟩;simp[go_sem,r,AD,AE,d,J,K,A];exact f;refine we step ?_;rintro v w n' ⟨rfl,rfl,rfl⟩;simp[go_sem,r,AD,AE,d,J,K,A];exact f
   | some i =>
    obtain⟨i1,i2,i3,O⟩:=S.o1 i rfl;have hin:i<n:=(F i _ O).1;have C:i≠j:=by rintro rfl;exact i3 rfl
    have Z:i≠n:=by omega
    have y2:q≠i:=Ne.symm i2;have f:∃a,(∃x_1,dq G B q n (λk=>[.str s,AA at_,p,FS (some j) bs,AW 3 (some k) E,AA l,AA e]) E (a,x_1) (n+1+1))/\∀(o:Nat)(y:Bb),a o=some y->h_ (h_ (h_ (h_ (h_ G j none) n (some (Bb.cells [.str ⟨bs.toArray⟩,AA 0,.bool false]))) i none) (n+1) (some (.cells (List.flatMap SV.cells (List.map CJ.e ps)++x.e.cells)))) q (some (.cells [.str s,AA at_,p,FS (some j) bs,.sl (n+1) 0 3 (ps.length+1) false,AA l,AA e] (some 388))) o=some y:=
     ⟨_,⟨_,t _ (AD _ _ _) ((AE _ _ (Ne.symm A)).trans (AD _ _ _)) λo y u g=>by have:=(F o y g).1;rw[AE _ _ (by omega),AE _ _ (by omega),AE _ _ (by omega),AE _ _ (by omega),AE _ _ (by omega)];exact g⟩,AC⟩
    simp[go_sem,ai,d];refine⟨?_,?_⟩;refine we step ?_;rintro v w n' ⟨rfl,rfl,rfl⟩;simp[go_sem,r,AD,AE,d,J,K,A,Z,y2,C,O];exact f;refine we step ?_;rintro v w n' ⟨rfl,rfl,rfl⟩;simp[go_sem,r,AD,AE,d,J,K,A,Z,y2,C,O];exact f
   obtain⟨H,k⟩:=z;obtain⟨m1,m2,P,m4,m5,W⟩:=D;dsimp only at m2 P m4 W ⊢;rw[N]at m2 P;refine AJ ?_;simp[go_sem];refine qP (im m2) ?_;rintro v w n' ⟨rfl,rfl,rfl⟩;simp[go_sem];have:=S.le;refine .inl ⟨at_,[],ps++[x],l,e,⟨rfl,rfl,?_,rfl,rfl⟩,⟨.nilp,none,some k,⟨S.le,by rw[AD];simp[FS,AW],.inl rfl,λ_=>rfl,by simp,by simp,?_⟩⟩,λo y u g=>?_,by omega⟩;exact⟨by rw[T];simp[Ke,flL,c],by simp⟩;rintro i hi;cases hi;exact⟨by omega,by omega,by simp,by rw[AE _ _ (by omega)];exact P⟩;rw[AE _ _ (by omega)];exact W o y u g
theorem ZG{G:Hp}{n q B:Nat}{s:ByteArray}{at_ f e:Int}{bs:List UInt8}{ps:List CJ}(S:Vg G q B s at_ bs ps f e)(k:Int)(d:0<=k):
 BL prog 333 [.ptr q 0,AA k] G n (λv h' n'=>v=.bool (WQ s k)/\h'=G/\n'=n):=by
 refine DO func333 rfl λho=>?_;obtain⟨p,ob,op,S⟩:=S;have hc:=S.cells;refine AJ ?_;by_cases c:k<s.size;have hkl:k.toNat<s.size:=by omega
 obtain⟨x,a⟩:∃x,s[k.toNat]'hkl=x:=⟨_,rfl⟩
 have hb:s[k.toNat]? = some x:=by rw[V1 hkl,a]
 have b:WQ s k=(decide ((49:Int)<=x.toNat)&&decide ((x.toNat:Int)<=57)):=by unfold WQ;rw[if_pos c,hb]
 by_cases c1:(49:Int)<=x.toNat;simp[go_sem,hc,c,d,a,c1];exact .inl ⟨by rw[b];simp[c1],rfl,rfl⟩;simp[go_sem,hc,c,d,a,c1];exact .inl ⟨by rw[b];simp[c1],rfl,rfl⟩;simp[go_sem,hc,c];exact .inl ⟨by unfold WQ;rw[if_neg c],rfl,rfl⟩
theorem ZH{G:Hp}{n q B:Nat}{s:ByteArray}{at_ t e d:Int}{b:Bool}{bs:List UInt8}{ps:List CJ}(S:Vg G q B s at_ bs ps t e)(hb:bs.length<=1048576)(W:ps.length<=1048576):
 BL prog 334 [.ptr q 0,.int .u8 d,.bool b] G n (Y6 q B s G n λQ R K pl' e'=>Q=at_/\R=[]/\(Ke K=Ke ps++(flL bs++[IntKind.i64.wrap (IntKind.u8.wrap (d-48))])/\K.length<=ps.length+2)/\pl'=IntKind.i64.wrap (t+1)/\e'=e):=by
 refine DO func334 rfl λho=>?_;refine B8 0 (α:=Hp×List CJ) (λ_=>[(0,.ptr q 0),(1,.int .u8 d),(2,.bool b)]) (λz=>z.1) (du G B q n s at_ t e (Ke ps++flL bs) (ps.length+1)) ?_ (λz m L=>?_);simp[go_sem];refine qP (ZF S hb W) ?_;rintro v H' n' ⟨a1,a2,a3,a4,a5,⟨rfl,rfl,⟨rl,r3⟩,rfl,rfl⟩,r6,r7,r8⟩;simp[go_sem,IO];exact⟨H',⟨a3,r8,r6,r3,r7,rl⟩,AC⟩;obtain⟨X,c⟩:=z;obtain⟨L,u,U,A,C⟩:=L;dsimp only at u U A C ⊢;refine Pq λhX=>?_;have H:∀o y,X o=some y->o<m:=λo y e=>(hX o y e).1;refine B8 0 (α:=Hp×List CJ) (λ_=>[(0,.ptr q 0)]) (λz=>z.1) (du G B q n s at_ t e (Ke ps++(flL bs++[IntKind.i64.wrap (IntKind.u8.wrap (d-48))])) (ps.length+2)) ?_ (λz m L=>?_)
 . have hle0:=u.choose_spec.choose_spec.choose_spec.le;obtain⟨p,ob,O,u⟩:=u;cases ob with
   | some j=>exact absurd rfl (u.b1 j rfl).2.2.1
   | none=>
   have f:=u.cells;obtain⟨x,Z⟩:∃x:CJ,x=⟨.empty,IntKind.i64.wrap (IntKind.u8.wrap (d-48)),b⟩:=⟨_,rfl⟩
   have D:∀(X:Hp)(k p:Nat),X k=some (.cells [.str .empty,AA (IntKind.i64.wrap (IntKind.u8.wrap (d-48))),.bool b])->(∀j,O=some j->X j=some (.cells ((c.map CJ.e).flatMap SV.cells)))->_:=λX k p w l=>bN (x:=x) (p:=p) u.o0 (by rw[Z];exact w) l (by omega);have hqm:q<m:=H q _ f;have x2:q≠m:=by omega
   have P:q≠m+1:=by omega
   have I:∀(Y:Hp),Y q=some (.cells [.str s,AA at_,p,FS none [],.sl (m+1) 0 3 (c.length+1) false,AA t,AA e] (some 388))->Y (m+1)=some (.cells ((c.map CJ.e).flatMap SV.cells++x.e.cells))->Vg Y q B s at_ [] (c++[x]) t e:=λY w l=>
    ⟨p,none,some (m+1),u.le,by rw[w];simp[AW],u.p,λ_=>rfl,by simp,by simp,by rintro i hi;cases hi;exact⟨by omega,by omega,by simp,by rw[l];simp⟩⟩
   cases O with
   | none =>
    have r:∃a,(∃x_1,du G B q n s at_ t e (Ke ps++(flL bs++[IntKind.i64.wrap (IntKind.u8.wrap (d-48))])) (ps.length+2) (a,x_1) (m+1+1))/\∀(o:Nat)(y:Bb),a o=some y->h_ (h_ (h_ X m (some (Bb.cells [.str .empty,AA (IntKind.i64.wrap (IntKind.u8.wrap (d-48))),.bool b]))) (m+1) (some (.cells (List.flatMap SV.cells (List.map CJ.e c)++x.e.cells)))) q (some (.cells [.str s,AA at_,p,FS none [],.sl (m+1) 0 3 (c.length+1) false,AA t,AA e] (some 388))) o=some y:=
     ⟨_,⟨c++[x],by omega,I _ (AD _ _ _) ((AE _ _ (Ne.symm P)).trans (AD _ _ _)),by simp;omega,λo y w l=>by have:=(ho o y l).1;dsimp only;rw[AE _ _ (by omega),AE _ _ (by omega),AE _ _ (by omega)];exact A o y w l,by rw[<-List.append_assoc,<-C,Z];simp[Ke]⟩,AC⟩
    simp[go_sem,f,AD,AE,x2,P,D];exact r
   | some i =>
    obtain⟨i1,M,i3,N⟩:=u.o1 i rfl;have hin:i<m:=H i _ N;have y1:i≠m:=by omega
    have y2:q≠i:=Ne.symm M;have r:∃a,(∃x_1,du G B q n s at_ t e (Ke ps++(flL bs++[IntKind.i64.wrap (IntKind.u8.wrap (d-48))])) (ps.length+2) (a,x_1) (m+1+1))/\∀(o:Nat)(y:Bb),a o=some y->h_ (h_ (h_ (h_ X m (some (Bb.cells [.str .empty,AA (IntKind.i64.wrap (IntKind.u8.wrap (d-48))),.bool b]))) i none) (m+1) (some (.cells (List.flatMap SV.cells (List.map CJ.e c)++x.e.cells)))) q (some (.cells [.str s,AA at_,p,FS none [],.sl (m+1) 0 3 (c.length+1) false,AA t,AA e] (some 388))) o=some y:=
     ⟨_,⟨c++[x],by omega,I _ (AD _ _ _) ((AE _ _ (Ne.symm P)).trans (AD _ _ _)),by simp;omega,λo y w l=>by have:=(ho o y l).1;dsimp only;rw[AE _ _ (by omega),AE _ _ (by omega),AE _ _ (by omega),AE _ _ (by omega)];exact A o y w l,by rw[<-List.append_assoc,<-C,Z];simp[Ke]⟩,AC⟩
    simp[go_sem,f,AD,AE,x2,P,D,y1,y2,N];exact r
 obtain⟨X2,ps2⟩:=z;obtain⟨V,h,F,E,J⟩:=L;dsimp only at h F E J ⊢;refine AJ ?_;obtain⟨p,ob,O,h⟩:=h;have T:=h.cells;simp[go_sem,T];have hle:=h.le;refine .inl ⟨at_,[],ps2,IntKind.i64.wrap (t+1),e,⟨rfl,rfl,⟨J,F⟩,rfl,rfl⟩,⟨p,ob,O,h.le,AD _ _ _,h.p,h.b0,λj g=>absurd rfl (h.b1 j g).2.2.1,h.o0,λj g=>?_⟩,λo y w l=>?_,V⟩;obtain⟨i1,M,i3,N⟩:=h.o1 j g;exact⟨i1,M,i3,by rw[AE _ _ M];exact N⟩;rw[AE _ _ (by omega)];exact E o y w l
theorem cP{G:Hp}{n q B:Nat}{s:ByteArray}{at_ H e:Int}{bs:List UInt8}{ps:List CJ}(S:Vg G q B s at_ bs ps H e)(h0:0<=at_)(h1:at_<s.size)(hs:s.size<=1048576)(hb:bs.length<=1048576)(M:ps.length<=1048576):
 BL prog 328 [.ptr q 0] G n (Y6 q B s G n (eO s at_ H e bs ps)):=by
 refine DO func328 rfl λho=>?_;obtain⟨p0,ob0,op0,W⟩:=id S;have hc:=W.cells;have w1:IntKind.i64.wrap (at_+1)=at_+1:=by rw[DA]<;>omega
 have w2:IntKind.i64.wrap (at_+2)=at_+2:=by rw[DA]<;>omega
 have w3:IntKind.i64.wrap (at_+3)=at_+3:=by rw[DA]<;>omega
 obtain⟨P,k⟩:∃b,b=G9 (s.extract at_.toNat s.size) ⟨#[37,37]⟩:=⟨_,rfl⟩
 obtain⟨Q,l⟩:∃b,b=WQ s (at_+1):=⟨_,rfl⟩
 obtain⟨K,r⟩:∃b,b=(G9 (s.extract at_.toNat s.size) ⟨#[37,100]⟩&&WQ s (at_+2)):=⟨_,rfl⟩
 have fin:∀(z:Hp)(m:Nat)(a1 X c O i e':Int)(d:List UInt8)(a:List CJ)(p:SV)(I J:Option Nat),dv z q B s a1 d a O X p I J->(∀o y,o<B->G o=some y->z o=some y)->n<=m->eO s at_ H e bs ps c d a i e'->
  CO n (h_ z q (some (.cells [.str s,AA c,p,FS I d,AW 3 J (a.map CJ.e),AA i,AA e'] (some 388)))) m (.tup []) (Y6 q B s G n (eO s at_ H e bs ps)):=λz m a1 X c O i e' d a p I J T E f hR=>
  .inl ⟨c,d,a,i,e',hR,T.upd c i e',λo y g1 g2=>by have:=T.le;rw[AE _ _ (by omega)];exact E o y g1 g2,f⟩
 refine AY ?_;refine AX 0 (α:=Unit) (λ_=>[(0,.ptr q 0),(5,.bool P)]) (λ_=>G) (λ_ m=>n<=m) (CK dT rfl (by kernel_rfl) (by kernel_rfl) ?_) (λ_ m f=>?_);have w:=b8 (s.extract at_.toNat s.size) ⟨#[37,37]⟩;rw[<-k]at w;simp[go_sem,dT,hc,h0];have:=Int.le_of_lt h1;simp[this];refine⟨?_,?_⟩ <;>
 . refine qz w ?_;simp[go_sem,IO]
 have j:P=true->at_+2<=s.size:=λg=>by
  rw[k]at g;have:=U5 g;simp at this;have h9:(⟨#[37,37]⟩:ByteArray).size=2:=rfl;omega
 cases P with
 | true=>
  have D:=j rfl;refine Au (b:=true) (by simp[go_sem]) ?_;simp only[if_true];refine Pq λU=>?_;refine B8 0 (α:=Hp) (λ_=>[(0,.ptr q 0)]) (λz=>z) (Xl G q B n s λc d a i e'=>c=at_/\d=bs++[37]/\a=ps/\i=H/\e'=e) ?_ (λz m f=>?_);simp[go_sem];refine qP (show BL prog 329 [.ptr q 2,.int .u8 37] G _ _ from ZE S U hb 37) ?_;rintro v A n' F;simp[go_sem,IO];exact⟨A,F.st f,AC⟩;obtain⟨f,a1,a2,a3,a4,a5,⟨rfl,rfl,rfl,rfl,rfl⟩,⟨p,I,J,T⟩,E⟩:=f;refine AJ ?_;have L:=T.cells;simp[go_sem,L,w2];exact fin _ _ _ _ _ _ _ _ _ _ _ _ _ T E f ⟨by unfold ZT;rw[<-k];rfl,.inl ⟨by omega,D,rfl⟩,by simp,by omega⟩
 | false =>
  refine Au (b:=false) (by simp[go_sem]) ?_;simp only[qn,if_false];refine Aa 0 [(0,.ptr q 0),(27,.bool Q)] G n ?_ (λm f=>?_);simp[go_sem,hc,w1];refine qP (ZG S (at_+1) (by omega)) ?_;rintro v A n' ⟨rfl,rfl,rfl⟩;rw[<-l];simp[go_sem,IO,f];have j:Q=true->at_+1<s.size:=λg=>by rw[l]at g;exact WR g
  cases Q with
  | true=>
   have D:=j rfl;refine Au (b:=true) (by simp[go_sem]) ?_;simp only[if_true];refine AX 0 (α:=Hp) (λ_=>[(0,.ptr q 0)]) (λz=>z) (Xl G q B n s λc d a i e'=>c=at_/\d=[]/\(Ke a=Ke ps++(flL bs++[RW s (at_+1)])/\a.length<=ps.length+2)/\i=IntKind.i64.wrap (H+1)/\e'=e) (CK Y0 rfl (by kernel_rfl) (by kernel_rfl) ?_) (λz m f=>?_);have hkl:(at_+1).toNat<s.size:=by omega
   obtain⟨x,N⟩:∃x,s[(at_+1).toNat]'hkl=x:=⟨_,rfl⟩
   have t:s[(at_+1).toNat]? = some x:=by rw[V1 hkl,N]
   have C:0<=at_+1:=by omega
   have u:IntKind.i64.wrap (IntKind.u8.wrap ((x.toNat:Int)-48))=RW s (at_+1):=by unfold RW;rw[t]
   simp[go_sem,Y0,hc,w1,C,t];refine⟨?_,?_⟩ <;>
   . refine qP (ZH S hb M) ?_;rintro v A n' F;rw[u]at F;simp[go_sem,IO];exact⟨A,F.st f,AC⟩
   obtain⟨f,a1,a2,a3,a4,a5,⟨rfl,rfl,⟨V,hl⟩,rfl,rfl⟩,⟨p,I,J,T⟩,E⟩:=f;refine AJ ?_;have L:=T.cells;simp[go_sem,L,w2];exact fin _ _ _ _ _ _ _ _ _ _ _ _ _ T E f ⟨by unfold ZT;rw[<-k,<-l,V];rfl,.inl ⟨by omega,by omega,rfl⟩,by simp,hl⟩
  | false =>
   refine Au (b:=false) (by simp[go_sem]) ?_;simp only[qn,if_false];refine AX 0 (α:=Unit) (λ_=>[(0,.ptr q 0),(54,.bool K)]) (λ_=>G) (λ_ m=>n<=m) (CK dU rfl (by kernel_rfl) (by kernel_rfl) ?_) (λ_ m f=>?_);have R:=Int.le_of_lt h1;simp[go_sem,dU,hc,h0,R];refine⟨?_,?_⟩ <;>
   . refine qz (b8 _ _) ?_;cases Y:G9 (s.extract at_.toNat s.size) ⟨#[37,100]⟩with
     | false=>
      have:K=false:=by rw[r,Y];rfl
      simp[go_sem,IO,f,this]
     | true=>
      have Z:K=WQ s (at_+2):=by rw[r,Y];rfl
      simp[go_sem,hc,w2];refine qP (ZG S (at_+2) (by omega)) ?_;rintro v A n' ⟨rfl,rfl,rfl⟩;rw[<-Z];simp[go_sem,IO,f]
   have j:K=true->at_+2<s.size:=λg=>by
    rw[r,qo]at g;exact WR g.2
   cases K with
   | true=>
    have D:=j rfl;refine Au (b:=true) (by simp[go_sem]) ?_;simp only[if_true];refine AX 0 (α:=Hp) (λ_=>[(0,.ptr q 0)]) (λz=>z) (Xl G q B n s λc d a i e'=>c=at_/\d=[]/\(Ke a=Ke ps++(flL bs++[RW s (at_+2)])/\a.length<=ps.length+2)/\i=IntKind.i64.wrap (H+1)/\e'=e) (CK Y0 rfl (by kernel_rfl) (by kernel_rfl) ?_) (λz m f=>?_);have hkl:(at_+2).toNat<s.size:=by omega
    obtain⟨x,N⟩:∃x,s[(at_+2).toNat]'hkl=x:=⟨_,rfl⟩
    have t:s[(at_+2).toNat]? = some x:=by rw[V1 hkl,N]
    have C:0<=at_+2:=by omega
    have u:IntKind.i64.wrap (IntKind.u8.wrap ((x.toNat:Int)-48))=RW s (at_+2):=by unfold RW;rw[t]
    simp[go_sem,Y0,hc,w2,C,t];refine⟨?_,?_⟩ <;>
    . refine qP (ZH S hb M) ?_;rintro v A n' F;rw[u]at F;simp[go_sem,IO];exact⟨A,F.st f,AC⟩
    obtain⟨f,a1,a2,a3,a4,a5,⟨rfl,rfl,⟨V,hl⟩,rfl,rfl⟩,⟨p,I,J,T⟩,E⟩:=f;refine AJ ?_;have L:=T.cells;simp[go_sem,L,w3];exact fin _ _ _ _ _ _ _ _ _ _ _ _ _ T E f ⟨by unfold ZT;rw[<-k,<-l,<-r,V];rfl,.inl ⟨by omega,by omega,rfl⟩,by simp,hl⟩
   | false=>
    refine Au (b:=false) (by simp[go_sem]) ?_;simp only[qn,if_false];refine AJ ?_;simp[go_sem,hc];exact fin _ _ _ _ _ _ _ _ _ _ _ _ _ W (λ_ _ _ h=>h) f ⟨by unfold ZT;rw[<-k,<-l,<-r];rfl,.inr ⟨rfl,rfl⟩,by omega,by omega⟩
abbrev Y7:=Int×List UInt8×List Int×Int×Int
def QM(s:ByteArray)(z:Y7):Y7:=match s[z.1.toNat]? with
 | some x=>if((x.toNat:Int)==37)then ZT s z.1 z.2.2.2.1 z.2.2.2.2 z.2.1 z.2.2.1 else(z.1+1,z.2.1++[x],z.2.2.1,z.2.2.2.1,z.2.2.2.2)
 | none=>(z.1+1,z.2)
def bB(s:ByteArray)(z:Y7):Nat:=2*(s.size-z.1).toNat+(if z.2.2.2.2=0 then 1 else 0)
theorem ae{s:ByteArray}{z:Y7}(h:z.1<s.size/\z.2.2.2.2=0):bB s (QM s z)<bB s z:=by
 have one:∀y:Y7,(z.1<y.1/\y.2.2.2.2=z.2.2.2.2)\/(y.1=z.1/\y.2.2.2.2≠0)->bB s y<bB s z:=λy g=>by
  unfold bB;rcases g with⟨b,a⟩|⟨b,a⟩
  rw[a];omega;rw[b,if_neg a,if_pos h.2];omega
 refine one _ ?_;unfold QM ZT;split;split;split;exact .inl ⟨by dsimp only;omega,rfl⟩;split;exact .inl ⟨by dsimp only;omega,rfl⟩;split;exact .inl ⟨by dsimp only;omega,rfl⟩;exact .inr ⟨rfl,by dsimp only;omega⟩;exact .inl ⟨by dsimp only;omega,rfl⟩;exact .inl ⟨by dsimp only;omega,rfl⟩
def bC(s:ByteArray)(z:Y7):Y7:=if _h:z.1<s.size/\z.2.2.2.2=0 then bC s (QM s z)else z
termination_by bB s z
decreasing_by exact ae _h
def XO(s:ByteArray):Y7:=bC s (0,[],[],0,0)
def ZX(s:ByteArray):List Int:=(XO s).2.2.1++flL (XO s).2.1
def ZW(s:ByteArray):Int:=if(XO s).2.2.2.2=0/\9<(XO s).2.2.2.1 then 9 else(XO s).2.2.2.2
def SnX(G:Hp)(q B n:Nat)(s:ByteArray)(z:Hp×Int×Int)(m:Nat):Prop:=Xl G q B n s (λat_ bs ps pl e=>SnR s z.2 at_ bs ps pl e/\bC s (at_,bs,Ke ps,pl,e)=XO s) z.1 m
def SnY(G:Hp)(q B n:Nat)(s:ByteArray)(z:Hp×Int×Int)(m:Nat):Prop:=Xl G q B n s (λat_ bs ps pl e=>SnR s z.2 at_ bs ps pl e/\(at_,bs,Ke ps,pl,e)=XO s) z.1 m
theorem cO{G:Hp}{n q B:Nat}{s:ByteArray}(S:Vg G q B s 0 [] [] 0 0)(hs:s.size<=1024):
 BL prog 320 [.ptr q 0] G n (Y6 q B s G n λ_ _ f _ e'=>f.length<=1048576/\Ke f=ZX s/\e'=ZW s):=by
 refine DO func320 rfl λho=>?_;refine AX 0 (α:=Hp×Int×Int) (λ_=>[(0,.ptr q 0)]) (λz=>z.1) (SnY G q B n s) ?_ (λz m Y=>?_);refine AY (BT 0 (α:=Hp×Int×Int) (λ_=>[(0,.ptr q 0)]) (λz=>z.1) (SnX G q B n s) (dx s) (G,0,0) ⟨qa _,0,[],[],0,0,⟨⟨rfl,rfl,by omega,by simp,by simp,by simp,by simp⟩,rfl⟩,S,λ_ _ _ h=>h⟩ ?_ AC ?_);simp[go_sem,Ao,IO];rintro⟨z,a0,e0⟩ m ⟨Y,at_,bs,ps,d,e,⟨⟨h1,h2,M,h4,R,h6,h7⟩,hw⟩,T,r⟩;dsimp only at h1 h2 T r ⊢;subst h1;subst h2;obtain⟨p,ob,op,T0⟩:=id T;have hc:=T0.cells;by_cases c:at_<s.size/\e=0;obtain⟨c1,rfl⟩:=c;have hl:=R rfl;have hbl:bs.length<=1024/\ps.length<=2048:=by omega
 refine CW 0 [(0,.ptr q 0)] z m ?_ (λm3 hm3=>?_);refine AX 0 (α:=Unit) (λ_=>[(0,.ptr q 0),(18,.bool true)]) (λ_=>z) (λ_ m2=>m<=m2) (CK Xb rfl (by kernel_rfl) (by kernel_rfl) ?_) (λ_ m2 j=>?_);simp[go_sem,Xb,hc,c1,IO];refine AJ ?_;simp[go_sem,IO,j];refine AY ?_;have hkl:at_.toNat<s.size:=by omega
 obtain⟨x,hx⟩:∃x,s[at_.toNat]'hkl=x:=⟨_,rfl⟩
 have D:s[at_.toNat]? = some x:=by rw[V1 hkl,hx]
 obtain⟨b,hb⟩:∃b:Bool,b=((x.toNat:Int)==37):=⟨_,rfl⟩
 have O:bC s (if b then ZT s at_ d 0 bs (Ke ps)else(at_+1,bs++[x],Ke ps,d,0))=XO s:=by
  rw[<-hw,bC.eq_def s (at_,bs,Ke ps,d,0),dif_pos ⟨c1,rfl⟩];unfold QM;dsimp only;rw[D,hb]
 refine Bg 0 [(0,.ptr q 0)] z (λm2=>m<=m2/\b=false) ?_ (λm4 t=>?_);refine AX 0 (α:=Unit) (λ_=>[(0,.ptr q 0),(28,.bool b)]) (λ_=>z) (λ_ m4=>m3<=m4) (CK dX rfl (by kernel_rfl) (by kernel_rfl) ?_) (λ_ m4 t=>?_);simp[go_sem,dX,hc,M,D,IO];exact by rw[hb];exact IO
 refine AJ ?_;cases b with
 | false=>simp[go_sem,IO];omega
 | true=>
  simp[go_sem];refine qP (cP T M c1 (by omega) (by omega) (by omega)) ?_;rintro v J n' ⟨a1,a2,a3,a4,a5,⟨hpc,hor,r2,r3⟩,r6,r7,r8⟩;simp[go_sem,IO];have X:∀o y,o<B->G o=some y->J o=some y:=λo y a k=>r7 o y a (r o y a k);refine⟨J,a1,a5,?_,⟨by omega,a1,a2,a3,a4,a5,⟨⟨rfl,rfl,by omega,by omega,λg=>by omega,by omega,by omega⟩,by rw[hpc];exact O⟩,r6,X⟩,AC⟩;rcases hor with⟨a,k,rfl⟩|⟨rfl,rfl⟩
  simp[dx];omega;simp[dx]
 obtain⟨t,rfl⟩:=t;refine Pq λZ=>?_;refine AX 0 (α:=Hp) (λ_=>[(0,.ptr q 0)]) (λy=>y) (Xl z q B m s λP Q f I e'=>P=at_/\Q=bs++[x]/\f=ps/\I=d/\e'=0) (CK dY rfl (by kernel_rfl) (by kernel_rfl) ?_) (λy m5 N=>?_);simp[go_sem,dY,hc,M,D];refine⟨?_,?_⟩ <;>
 . refine qP (ZE T Z (by omega) x) ?_;rintro v J n' hq;simp[go_sem,IO];exact⟨J,hq.st t,AC⟩
 obtain⟨N,a1,a2,a3,a4,a5,⟨rfl,rfl,rfl,rfl,rfl⟩,⟨p1,F,H,l⟩,i⟩:=N;have hT:=l.cells;have w1:IntKind.i64.wrap (a1+1)=a1+1:=by rw[DA]<;>omega
 refine AJ ?_;simp[go_sem,hT,w1,IO];refine⟨_,a1+1,0,by simp[dx];omega,⟨by omega,a1+1,bs++[x],a3,a4,0,⟨⟨rfl,rfl,by omega,by omega,λ_=>by simp;omega,by simp;omega,by omega⟩,O⟩,l.upd (a1+1) a4 0,λo w a k=>?_⟩,AC⟩;have:=l.le;exact(AE _ _ (show o≠q by omega)).trans (i o w a (r o w a k));refine Bg 0 [] z (λ_=>False) ?_ (λ_ U=>U.elim);refine AX 0 (α:=Unit) (λ_=>[(0,.ptr q 0),(18,.bool false)]) (λ_=>z) (λ_ m2=>m<=m2) (CK Xb rfl (by kernel_rfl) (by kernel_rfl) ?_) (λ_ m2 j=>?_);by_cases c1:at_<s.size;have C:¬e=0:=λg=>c ⟨c1,g⟩;have c3:(e==0)=false:=by simpa using C
 simp[go_sem,Xb,hc,c1,c3,IO];simp[go_sem,Xb,hc,c1,IO];refine AJ ?_;simp[go_sem,IO];have U:(at_,bs,Ke ps,d,e)=XO s:=by rw[<-hw,bC.eq_def,dif_neg c]
 exact⟨z,⟨at_,e,by omega,at_,bs,ps,d,e,⟨⟨rfl,rfl,M,h4,R,h6,h7⟩,U⟩,T,r⟩,AC⟩;obtain⟨z,a0,e0⟩:=z;obtain⟨Y,at_,bs,ps,d,e,⟨⟨h1,h2,M,h4,R,h6,h7⟩,hw⟩,T,r⟩:=Y;dsimp only at h1 h2 T r ⊢;refine B8 0 (α:=Hp) (λ_=>[(0,.ptr q 0)]) (λy=>y) (Xl z q B m s λ_ _ f I e'=>f.length<=1048576/\Ke f=ZX s/\I=(XO s).2.2.2.1/\e'=(XO s).2.2.2.2) ?_ (λy m2 j=>?_);simp[go_sem];refine qP (ZF T (by omega) (by omega)) ?_;rintro v J n' ⟨b1,K,L,u,A,⟨r1,r2,⟨rl,r3⟩,r4,r5⟩,r6,r7,r8⟩;simp[go_sem,IO];exact⟨J,⟨r8,b1,K,L,u,A,⟨by omega,by rw[rl,ZX,<-hw],by rw[r4,<-hw],by rw[r5,<-hw]⟩,r6,r7⟩,AC⟩;obtain⟨j,b1,K,L,u,A,⟨E,V,hP,hE⟩,⟨p1,F,H,l⟩,i⟩:=j;have W:ZW s=if A=0/\9<u then 9 else A:=by rw[ZW,<-hP,<-hE]
 have hc:=l.cells;refine AJ ?_;by_cases c1:A=0;by_cases C:9<u;simp[go_sem,hc,c1,C];refine .inl ⟨b1,K,L,u,9,⟨E,V,by rw[W,if_pos ⟨c1,C⟩]⟩,l.upd b1 u 9,λo y a k=>?_,by omega⟩;have:=l.le;rw[AE _ _ (by omega)];exact i o y a (r o y a k);simp[go_sem,hc,c1,C];exact .inl ⟨b1,K,L,u,A,⟨E,V,by rw[W,if_neg λg=>C g.2]⟩,⟨p1,F,H,l⟩,λo y a k=>i o y a (r o y a k),by omega⟩;simp[go_sem,hc,c1];exact .inl ⟨b1,K,L,u,A,⟨E,V,by rw[W,if_neg λg=>c1 g.1]⟩,⟨p1,F,H,l⟩,λo y a k=>i o y a (r o y a k),by omega⟩
def cA(s:ByteArray):Bool:=Jo (λi=>match(s.data.toList.map λx=>(x.toNat:Int))[i]? with|some b=>decide (b<32)||decide (b=127)|none=>false) (s.data.toList.map λx=>(x.toNat:Int)).length
def Vj(s:ByteArray):Int:=if(64:Int)<s.size then 10 else if A5 s=false then 12 else if cA s=true then 5 else ZW s
def PaX(s:ByteArray)(v:SV):Prop:=∃ps:List CJ,v=.tup [.i 3 (ps.map CJ.e) false,AA (Vj s)]/\ps.length<=1048576/\(Vj s=0->Ke ps=ZX s)
theorem dM(s:ByteArray)(P:s.size<=1048576):TC 302 [.str s] (PaX s):=by
 intro h n;refine DO func302 rfl λI=>?_;have out:∀(H:Hp)(m:Nat)(e:Int),e=Vj s->e≠0->(∀j y,h j=some y->H j=some y)->CO n H m (.tup [.i 0 [] true,AA e]) (λv h' n'=>PaX s v/\h'=h/\n'=n):=λH m e N G E=>
  ZV 2 I E (v:=.tup [.i 3 [] false,AA e]) (.inr ⟨Bj (by simp),IO,trivial⟩) (by simp[cc,ca]) ⟨[],by rw[N];rfl,by simp,λg=>absurd (N.trans g) G⟩
 refine Aa 0 [(0,.str s)] h n ?_ (λm B=>?_);simp[go_sem,IO];refine AX 0 (α:=Unit) (λ_=>[(0,.str s)]) (λ_=>h) (λ_ m=>n<=m/\s.size<=64/\Vj s=ZW s) (AY ?_) (λ_ m B=>?_)
 . by_cases a1:(64:Int)<s.size;refine AJ ?_;simp[go_sem,a1];exact out _ _ 10 (by unfold Vj;rw[if_pos a1]) (by decide) AC;have hl:s.size<=64:=by omega
   refine AJ ?_;simp[go_sem,a1];refine(Sn s (by omega)).use ?_;cases J:A5 s with
   | false=>
    simp[go_sem];exact out _ _ 12 (by unfold Vj;rw[if_neg a1,if_pos J]) (by decide) AC
   | true=>
   simp[go_sem];have C:∀b:List UInt8,b.map Ev=(b.map λx=>(x.toNat:Int)).map Jy:=λb=>by rw[List.map_map];rfl
   refine VM (s:=s) (e:=5) rfl (by simp[go_sem]) (by simp[go_sem]) (by simp[go_sem]) rfl ?_;rw[C];have r:s.data.toList.length=s.size:=by rw[vl];rfl
   have d:=iB (s.data.toList.map λx=>(x.toNat:Int)) (by simp[r];omega) 319 [] [] (λi=>match(s.data.toList.map λx=>(x.toNat:Int))[i]? with|some b=>decide (b<32)||decide (b=127)|none=>false) (λi hi=>by rw[qe hi];exact iC _);obtain⟨b,hb⟩:∃b,b=cA s:=⟨_,rfl⟩
   have F8:Jo (λi=>match(s.data.toList.map λx=>(x.toNat:Int))[i]? with|some b=>decide (b<32)||decide (b=127)|none=>false) (s.data.toList.map λx=>(x.toNat:Int)).length=b:=by rw[hb];rfl
   rw[F8]at d;generalize(s.data.toList.map λx=>(x.toNat:Int)).map Jy=L at d ⊢;simp[go_sem];refine qz d ?_;cases b with
   | true=>
    simp[go_sem];exact out _ _ 5 (by unfold Vj;rw[if_neg a1,if_neg (by rw[J];decide),if_pos hb.symm]) (by decide) AC
   | false=>
    simp[go_sem,IO,B,hl];unfold Vj;rw[if_neg a1,if_neg (by rw[J];decide),if_neg (by rw[<-hb];decide)]
 obtain⟨B,hl,u⟩:=B;refine Pq λq=>?_;refine B8 0 (α:=Hp) (λ_=>[(4,.ptr m 0)]) (λz=>z) (λz m2=>m<m2/\Vg z m m s 0 [] [] 0 0/\∀o y,h o=some y->z o=some y) ?_ (λz m2 t=>?_);simp[go_sem,IO];exact⟨_,⟨⟨.nilp,none,none,qa _,AD _ _ _,.inl rfl,λ_=>rfl,by simp,λ_=>rfl,by simp⟩,AL (λj y e=>(q j y e).1) AC⟩,AC⟩;obtain⟨t,S,O⟩:=t;refine AX 0 (α:=Hp) (λ_=>[(4,.ptr m 0)]) (λy=>y) (Xl z m m m2 s λ_ _ l _ e'=>(l.length<=1048576/\Ke l=ZX s/\e'=ZW s)/\e'=0) ?_ (λy Q k=>?_);refine B8 0 (α:=Hp) (λ_=>[(4,.ptr m 0)]) (λy=>y) (Xl z m m m2 s λ_ _ l _ e'=>l.length<=1048576/\Ke l=ZX s/\e'=ZW s) ?_ (λy Q k=>?_);simp[go_sem];refine qP (cO S (by omega)) ?_;rintro v U n' Y;simp[go_sem,IO];exact⟨U,Y.st (qa _),AC⟩;obtain⟨k,b1,K,ps,M,e,a,⟨R,A,c,T⟩,p⟩:=k;have hc:=T.cells;have f:∀o w,h o=some w->y o=some w:=λo w g=>p o w (q o w g).1 (O o w g);by_cases c1:e=0;refine AJ ?_;simp[go_sem,hc,c1,IO];exact⟨y,⟨by omega,b1,K,ps,M,e,⟨a,c1⟩,⟨R,A,c,T⟩,p⟩,AC⟩;have V:(e !=0)=true:=by simpa using c1
 refine By 0 [(4,.ptr m 0),(26,.bool true)] y (λ_=>True) ?_ (λm4 _=>?_);simp[go_sem,hc,V,IO];refine Au (b:=true) (by simp[go_sem]) ?_;simp only[if_true];refine AX 0 (α:=Unit) (λ_=>[(2,.i 0 [] true),(3,AA e)]) (λ_=>y) (λ_ _=>True) (CK dV rfl (by kernel_rfl) (by kernel_rfl) ?_) (λ_ m5 _=>?_);simp[go_sem,dV,hc,IO];refine AJ ?_;simp[go_sem];exact out _ _ e (by rw[u];exact a.2.2) c1 f;obtain⟨k,b1,K,ps,M,e,⟨a,W⟩,⟨R,A,c,T⟩,p⟩:=k;have D:(0:Int)=ZW s:=by rw[<-a.2.2,W]
 have hc:=T.cells;have f:∀o w,h o=some w->y o=some w:=λo w g=>p o w (q o w g).1 (O o w g);refine AJ ?_;simp[go_sem,hc];have X:BR n (Q+(c.getD 0)+1) 3 c (ps.map CJ.e):=⟨λe=>by rw[T.o0 e];rfl,λj e=>⟨by have:=(T.o1 j e).1;omega,by rw[e];simp;omega⟩,CJ.size ps⟩
 have E:∀j w,AV c (ps.map CJ.e) h j=some w->y j=some w:=λj w g=>by
  cases c with
  | none=>exact f j w g
  | some i=>
   simp only[AV,h_]at g;split at g;rename_i F;subst F;rw[(T.o1 j rfl).2.2.2];exact g;exact f j w g
 exact ZV 2 I f (v:=.tup [.i 3 (ps.map CJ.e) false,AA 0]) (.inr ⟨AW.fz I X E,IO,trivial⟩) (by simp[cc,ca];exact EO.2 λs P=>by obtain⟨x,_,rfl⟩:=ql.1 P;rfl) ⟨ps,by rw[u,<-D],a.1,λ_=>a.2.1⟩
def Zl(L:List Int)(k:Int):Bool:=Jo (λi=>match L[i]? with|some x=>decide (k<x)|none=>false) L.length
def ZP(s:ByteArray)(k:Int):Int:=if k<1\/9<k then 2 else if Vj s=0 then(if Zl (ZX s) k then 6 else 0)else Vj s
theorem gU(s:ByteArray)(u:s.size<=1048576)(k:Int):PC 271 [.str s,AA k] (AA (ZP s k)):=by
 intro h n;refine DO func271 rfl λq=>?_;have d:=q.lt;have out:∀(e:Int)(m:Nat),e=ZP s k->CO n h m (AA e) (Is (AA (ZP s k)) h n):=λe m t=>As q rfl (by rw[t]);refine Aa 1 [(0,.str s),(3,.q [AA k])] h n ?_ (λm f=>?_);simp[go_sem,IO];exact⟨AZ (AS d (qa _)) (AD _ _ _),AL d AC⟩;refine Bg 0 [(0,.str s),(3,.q [AA k])] h (λm=>n<=m/\¬(k<1\/9<k)) (AJ ?_) (λm f=>?_);by_cases a1:k<1;simp[go_sem,a1];exact out 2 _ (by unfold ZP;rw[if_pos (.inl a1)]);by_cases a2:9<k;simp[go_sem,a1,a2];exact out 2 _ (by unfold ZP;rw[if_pos (.inr a2)]);simp[go_sem,a1,a2,IO,f];obtain⟨f,o⟩:=f;refine AJ ?_;simp[go_sem];refine TC.use (dM s u) ?_;rintro v ⟨ps,rfl,j,g⟩;by_cases c:Vj s=0;have a:=gr ps j 304 [] [.q [AA k]] (λi=>match ps[i]? with|some p=>decide (k<p.level)|none=>false) (λi hi=>by rw[qe hi];exact gu _ k);obtain⟨b,hb⟩:∃b,b=Zl (ZX s) k:=⟨_,rfl⟩
 have F8:Jo (λi=>match ps[i]? with|some p=>decide (k<p.level)|none=>false) ps.length=b:=by
  rw[hb,<-g c];unfold Zl Ke;rw[qf];congr 1;funext i;rw[qX];cases ps[i]? <;> rfl
 rw[F8]at a;have l:ZP s k=if b then 6 else 0:=by unfold ZP;rw[if_neg o,if_pos c,hb]
 simp[go_sem,c];refine qz a ?_;cases b;simp[go_sem];exact out 0 _ (by rw[l];rfl);simp[go_sem];exact out 6 _ (by rw[l];rfl);have r:(Vj s==0)=false:=by simpa using c
 simp[go_sem,r];exact out _ _ (by unfold ZP;rw[if_neg o,if_neg c])
def MX(l:List A7)(x:A7):Bool:=(decide (x.base≠0) && !SD l x.k x.base)||(decide (x.next≠0)&&(decide (x.k=2) || !SD l 1 x.next))
def Xp{α:Type}(p:α->Bool)(l:List α)(i:Nat):Prop:=(l.take i).any p=false
theorem Ra{α:Type}(p:α->Bool)(l:List α):Xp p l 0:=rfl
theorem RZ{α:Type}{p:α->Bool}{l:List α}{i:Nat}(hi:i<l.length)(h:Xp p l i)(g:p l[i]=false):Xp p l (i+1):=by
 unfold Xp at h ⊢;rw[qb hi,List.any_append,h];simp[g]
theorem UT{α:Type}{p:α->Bool}{l:List α}(h:Xp p l l.length):¬l.any p=true:=by
 unfold Xp at h;rw[qm]at h;rw[h];simp
theorem Tx{α:Type}{p:α->Bool}{l:List α}{i:Nat}(hi:i<l.length)(h:p l[i]=true):l.any p=true:=vo.2 ⟨_,qi hi,h⟩
theorem Z4(l:List A7)(hl:l.length<=1048576)(hs:∀x∈l,x.Q.length<=1048576):EC 146 [Aj l]:=by
 obtain⟨F,hF⟩:=EC.fam (A:=λi=>[Aj l,AA i]) (N:=l.length) (λi hi=>iy l hl hs i hi);obtain⟨V,hV⟩:∃V:Int,V=if(128:Int)<l.length then 9 else if CD F l.length≠0 then CD F l.length else if l.any (MX l)then 25 else if l.any (λx=>Qg l l.length x.id)then 16 else 0:=⟨_,rfl⟩
 refine⟨V,?_⟩;intro h n;refine cm func146 rfl (by kernel_rfl) (by kernel_rfl) (by simp[go_sem]) λho B=>?_;have hHb:=ho.lt;obtain⟨G,hG⟩:∃G:Int->Hp,∀e,G e=h_ h (n+1) (some (.cells [AA e])):=⟨_,λ_=>rfl⟩
 have hGa:∀e,G e (n+1)=some (.cells [AA e]):=λe=>by rw[hG,AD]
 have hGs:∀e e',h_ (G e) (n+1) (some (.cells [AA e']))=G e':=λe e'=>by rw[hG,hG,Ah]
 have hGk:∀e j y,h j=some y->G e j=some y:=λe j y g=>by rw[hG,AE _ _ (by have:=hHb j y g;omega)];exact g
 have hGb:∀e j y,G e j=some y->j<n+2:=λe j y g=>by
  rw[hG]at g;simp only[h_]at g;split at g;omega;have:=hHb j y g;omega
 have out:∀(e:Int)(m:Nat),V=e->CO n (G e) m (AA e) (Is (AA V) h n):=λe m he=>On (T:=λv=>v=AA V) ho (hGk e) (by simp[cc]) (by rw[he]);refine By 1 [(1,.q [Aj l]),(2,.ptr (n+1) 0)] (G 0) (λm=>n+1<m) ?_ (λm hm=>?_);rw[hG];simp[go_sem,IO];refine⟨AZ (by simp[h_];exact AS hHb (qa _)) (by simp[h_]),λj y=>?_⟩;have:=hHb j y;simp only[h_];grind;refine Bg 0 [(1,.q [Aj l]),(2,.ptr (n+1) 0)] (G 0) (λm=>n+1<m/\¬(128:Int)<l.length) (AJ ?_) (λm hm=>?_);by_cases a1:(128:Int)<l.length;simp[go_sem,a1,hGa,hGs];exact out _ _ (by rw[hV,if_pos a1]);simp[go_sem,a1,IO,hm];obtain⟨hm,a1⟩:=hm;rw[if_neg a1]at hV;refine Bg 0 [(1,.q [Aj l]),(2,.ptr (n+1) 0)] (G 0) (λm=>n+1<m/\CD F l.length=0) ?_ (λm hm=>?_);refine By 0 [(1,.q [Aj l]),(2,.ptr (n+1) 0),(14,AA l.length),(15,AA 0)] (G 0) (λm=>n+1<m) ?_ (λm hm=>?_);simp[go_sem,IO,hm];refine AY (BT 0 (α:=Nat) (λi=>[(1,.q [Aj l]),(2,.ptr (n+1) 0),(14,AA l.length),(15,AA i)]) (λ_=>G 0) (λi m=>i<=l.length/\n+1<m/\CD F i=0) (λi=>l.length-i) 0 ⟨qg _,hm,rfl⟩ ?_ AC ?_);simp[go_sem,Ao,IO];rintro i m ⟨hi,hm,hI⟩;by_cases hlt:i<l.length;have w1:=wS i (by omega);refine AJ ?_;simp[go_sem,hlt];refine qz (hF i hlt) ?_;obtain⟨e,he⟩:∃e,F i=e:=⟨_,rfl⟩
 rw[he];by_cases e0:e=0;simp[go_sem,e0,w1,IO,-Int.natCast_add];exact⟨i+1,by omega,⟨by omega,hm,by rw[CD,if_pos hI,he,e0]⟩,rfl⟩;have e1:(e !=0)=true:=by simpa using e0
 have hne:F i≠0:=by rw[he];exact e0
 have ha:CD F l.length=e:=by rw[EM F hlt hI hne,he]
 simp[go_sem,e1,hGa,hGs];exact out _ _ (by rw[hV,if_pos (by rw[ha];exact e0),ha]);refine AJ ?_;have e:i=l.length:=by omega
 subst e;simp[go_sem,IO,hm,hI];obtain⟨hm,a2⟩:=hm;rw[if_neg (by rw[a2];simp)]at hV;refine Bg 0 [(1,.q [Aj l]),(2,.ptr (n+1) 0)] (G 0) (λm=>n+1<m/\Xp (MX l) l l.length) ?_ (λm hm=>?_)
 . refine By 0 [(1,.q [Aj l]),(2,.ptr (n+1) 0),(25,Aj l),(26,AA l.length),(27,AA 0)] (G 0) (λm=>n+1<m) ?_ (λm hm=>?_);simp[go_sem,IO,hm];refine AY (BT 0 (α:=Nat) (λi=>[(1,.q [Aj l]),(2,.ptr (n+1) 0),(25,Aj l),(26,AA l.length),(27,AA i)]) (λ_=>G 0) (λi m=>i<=l.length/\n+1<m/\Xp (MX l) l i) (λi=>l.length-i) 0 ⟨qg _,hm,Ra _ _⟩ ?_ AC ?_);simp[go_sem,Ao,IO];rintro i m ⟨hi,hm,hI⟩;by_cases hlt:i<l.length
   . have w1:=wS i (by omega);obtain⟨x,hx⟩:∃x,l[i]=x:=⟨_,rfl⟩
     obtain⟨X,hX⟩:∃X:SV,X=.q [AA x.id,AA x.k,.str x.name,AA x.base,AA x.next,AU x.Q]:=⟨_,rfl⟩
     refine By 0 [(1,.q [Aj l]),(2,.ptr (n+1) 0),(25,Aj l),(26,AA l.length),(27,AA i),(28,.bool true)] (G 0) (λm=>n+1<m) ?_ (λm hm=>?_);simp[go_sem,IO,hm,hlt];refine By 0 [(1,.q [Aj l]),(2,.ptr (n+1) 0),(25,Aj l),(26,AA l.length),(27,AA i)] (G 0) (λm=>n+1<m) ?_ (λm hm=>?_);simp[go_sem,IO,hm];refine AX 0 (α:=Unit) (λ_=>[(1,.q [Aj l]),(2,.ptr (n+1) 0),(25,Aj l),(26,AA l.length),(27,AA i)]) (λ_=>G 0) (λ_ m=>n+1<m/\MX l x=false) (AY ?_) (λ_ m hm=>?_)
     . refine By 1 [(1,.q [Aj l]),(2,.ptr (n+1) 0),(25,Aj l),(26,AA l.length),(27,AA i),(6,X)] (G 0) (λm=>n+1<m) ?_ (λm hm=>?_);have hHm:∀j y,G 0 j=some y->j<m:=λj y e=>by have:=hGb 0 j y e;omega
       rw[hX];simp[go_sem,IO,hlt,hx,A7.e,AD];exact⟨by omega,AZ (AS hHm (qa _)) (AD _ _ _),AL hHm (AL hHm AC)⟩;refine By 0 [(1,.q [Aj l]),(2,.ptr (n+1) 0),(25,Aj l),(26,AA l.length),(27,AA i),(59,.bool (MX l x))] (G 0) (λm=>n+1<m) ?_ (λm hm=>?_)
       . rw[hX];obtain⟨q1,hq1⟩:∃q,SD l x.k x.base=q:=⟨_,rfl⟩
         obtain⟨q2,hq2⟩:∃q,SD l 1 x.next=q:=⟨_,rfl⟩
         have hbad:MX l x=((decide (x.base≠0) && !q1)||(decide (x.next≠0)&&(decide (x.k=2) || !q2))):=by rw[MX,hq1,hq2]
         have e208:∀(kd id:Int)(q:Bool),SD l kd id=q->∀{m:Nat} {K:SV->Hp->Nat->Prop},K (.bool q) (G 0) m->Ap (CC.plain.call true B) prog 208 [Aj l,AA kd,AA id] (G 0) m K:=λkd id q e m K hK=>qz (fe l kd id hl) (by rw[e];exact hK);have second:x.next=0\/(x.next≠0/\x.k=2)\/(x.next≠0/\x.k≠2):=by
          by_cases c1:x.next=0;exact .inl c1;by_cases c2:x.k=2;exact .inr (.inl ⟨c1,c2⟩);exact .inr (.inr ⟨c1,c2⟩)
         by_cases b0:x.base=0
         . rcases second with c1|⟨c1,c2⟩|⟨c1,c2⟩
           simp[go_sem,b0,c1,hbad,IO,hm]
           . have c1':(x.next !=0)=true:=by simpa using c1
             simp[go_sem,b0,c1,c1',c2,hbad,IO,hm]
           . have c1':(x.next !=0)=true:=by simpa using c1
             have c2':(x.k==2)=false:=by simpa using c2
             simp[go_sem,b0,c1',c2'];refine e208 _ _ _ hq2 ?_;cases q2<;>simp[go_sem,b0,c1,c2,hbad,IO,hm]
         . have b0':(x.base !=0)=true:=by simpa using b0
           simp[go_sem,b0'];refine e208 _ _ _ hq1 ?_;cases q1 with
           | false=>simp[go_sem,b0,hbad,IO,hm]
           | true=>
            rcases second with c1|⟨c1,c2⟩|⟨c1,c2⟩
            simp[go_sem,b0,c1,hbad,IO,hm]
            . have c1':(x.next !=0)=true:=by simpa using c1
              simp[go_sem,b0,c1,c1',c2,hbad,IO,hm]
            . have c1':(x.next !=0)=true:=by simpa using c1
              have c2':(x.k==2)=false:=by simpa using c2
              simp[go_sem,c1',c2'];refine e208 _ _ _ hq2 ?_;cases q2<;>simp[go_sem,b0,c1,c2,hbad,IO,hm]
       obtain⟨b,hb⟩:∃b,MX l x=b:=⟨_,rfl⟩
       rw[hb];refine AJ ?_;cases b with
       | true=>simp[go_sem,hGa,hGs];exact out _ _ (by rw[hV,if_pos (Tx hlt (by rw[hx];exact hb))])
       | false=>simp[go_sem,IO,hm]
     refine AJ ?_;simp[go_sem,w1,IO,-Int.natCast_add];exact⟨i+1,by omega,⟨by omega,hm.1,RZ hlt hI (by rw[hx];exact hm.2)⟩,rfl⟩
   refine AJ ?_;have e:i=l.length:=by omega
   subst e;simp[go_sem,IO,hm,hI]
 obtain⟨hm,a3⟩:=hm;rw[if_neg (UT a3)]at hV;refine Bg 0 [(2,.ptr (n+1) 0)] (G 0) (λm=>n+1<m/\Xp (λx=>Qg l l.length x.id) l l.length) ?_ (λm hm=>?_)
 . refine By 0 [(1,.q [Aj l]),(2,.ptr (n+1) 0),(61,Aj l),(62,AA l.length),(63,AA 0)] (G 0) (λm=>n+1<m) ?_ (λm hm=>?_);simp[go_sem,IO,hm];refine AY (BT 0 (α:=Nat) (λi=>[(1,.q [Aj l]),(2,.ptr (n+1) 0),(61,Aj l),(62,AA l.length),(63,AA i)]) (λ_=>G 0) (λi m=>i<=l.length/\n+1<m/\Xp (λx=>Qg l l.length x.id) l i) (λi=>l.length-i) 0 ⟨qg _,hm,Ra _ _⟩ ?_ AC ?_);simp[go_sem,Ao,IO];rintro i m ⟨hi,hm,hI⟩;by_cases hlt:i<l.length
   . have w1:=wS i (by omega);obtain⟨x,hx⟩:∃x,l[i]=x:=⟨_,rfl⟩
     refine By 0 [(1,.q [Aj l]),(2,.ptr (n+1) 0),(61,Aj l),(62,AA l.length),(63,AA i),(64,.bool true)] (G 0) (λm=>n+1<m) ?_ (λm hm=>?_);simp[go_sem,IO,hm,hlt];refine By 0 [(1,.q [Aj l]),(2,.ptr (n+1) 0),(61,Aj l),(62,AA l.length),(63,AA i)] (G 0) (λm=>n+1<m) ?_ (λm hm=>?_);simp[go_sem,IO,hm];refine AX 0 (α:=Unit) (λ_=>[(1,.q [Aj l]),(2,.ptr (n+1) 0),(61,Aj l),(62,AA l.length),(63,AA i)]) (λ_=>G 0) (λ_ m=>n+1<m/\Qg l l.length x.id=false) (AY ?_) (λ_ m hm=>?_)
     . refine By 1 [(1,.q [Aj l]),(2,.ptr (n+1) 0),(61,Aj l),(62,AA l.length),(63,AA i),(8,.q [AA x.id,AA x.k,.str x.name,AA x.base,AA x.next,AU x.Q])] (G 0) (λm=>n+1<m) ?_ (λm hm=>?_);have hHm:∀j y,G 0 j=some y->j<m:=λj y e=>by have:=hGb 0 j y e;omega
       simp[go_sem,IO,hlt,hx,A7.e,AD];exact⟨by omega,AZ (AS hHm (qa _)) (AD _ _ _),AL hHm (AL hHm AC)⟩;refine By 0 [(1,.q [Aj l]),(2,.ptr (n+1) 0),(61,Aj l),(62,AA l.length),(63,AA i),(8,.q [AA x.id,AA x.k,.str x.name,AA x.base,AA x.next,AU x.Q]),(9,.ptr m 0)] (h_ (G 0) m (some (.cells [AA 0]))) (λm2=>m<m2) ?_ (λm2 hm2=>?_);simp[go_sem,IO,AD,Ah];refine B8 0 (α:=Hp×Nat) (λz=>[(1,.q [Aj l]),(2,.ptr (n+1) 0),(61,Aj l),(62,AA l.length),(63,AA i),(9,.ptr m 0),(70,.fn (.func 270) [] [.q [Aj l],.ptr z.2 0])]) (λz=>z.1) (λz m3=>m2<=z.2/\z.2<m3/\z.1 z.2=some (.cells [AA x.id])/\∀o y,h_ (G 0) m (some (.cells [AA 0])) o=some y->z.1 o=some y) ?_ (λz m3 hm3=>?_);simp[go_sem];refine qP (iU l x.id) ?_;rintro v H' n' ⟨k,rfl,g1,g2,g3,g4⟩;simp[go_sem,IO];exact⟨H',k,⟨g1,g2,g3,g4⟩,rfl,AC⟩;obtain⟨z,k⟩:=z;obtain⟨k1,k2,k3,k4⟩:=hm3;dsimp only at k1 k2 k3 k4 ⊢;refine AY ?_;refine Et rfl rfl rfl λE1 yl R hY=>?_;have za:z (n+1)=some (.cells [AA 0]):=k4 _ _ (by rw[AE _ _ (by omega)];exact hGa 0);have zm:z m=some (.cells [AA 0]):=k4 _ _ (AD _ _ _);let D:Nat->Prop:=λo=>o=n+1\/o=m\/o=m3;let J:Nat->Hp->Nat->Prop:=λc hh mm=>m3<mm/\c<=l.length/\hh (n+1)=some (.cells [AA 0])/\hh m=some (.cells [AA c])/\hh m3=some (.loop (R .ready none));let Jx:Hp->Nat->Prop:=λhh mm=>m3<mm/\hh (n+1)=some (.cells [AA 16])/\hh m3=some (.loop (R .done (some .ret)));have Y:YX E1 yl l.length J Jx D:=by
        refine⟨λc y hh mm hJ=>?_,?_,?_⟩;obtain⟨g0,gc,g1,g2,g3⟩:=hJ;have q1:n+1≠mm:=by omega
        have q2:m≠mm:=by omega
        have q3:m3≠mm:=by omega
        have q3':=q3.symm;have q4:m≠m3:=by omega
        have q5:n+1≠m3:=by omega
        have q6:n+1≠m:=by omega
        have w2:=wS c (by omega);refine hY _ _ _ _ g3 rfl (Je ?_);by_cases hc:c+1<=l.length;have hc':¬(((l.length:Nat):Int)<((c+1:Nat):Int)):=by omega
        simp[go_sem,J0,A7.e,AD,AE,g2,g3,q4,w2,hc',Hg,-Int.natCast_add];refine⟨by rw[AE _ _ q4.symm,AD],λo g1 g2=>?_,hc,?_⟩;have e1:o≠m:=λe=>g1 (.inr (.inl e));have e2:o≠m3:=λe=>g1 (.inr (.inr e));have e3:o≠mm:=by omega
        simp[h_,e1,e2];exact⟨by omega,hc,by simp[h_,q5,q6,g1],by simp[h_,q4],by simp[h_]⟩;have hc':(((l.length:Nat):Int)<((c+1:Nat):Int)):=by omega
        simp[go_sem,J0,A7.e,AD,AE,g1,g2,g3,q4,q5,q6,w2,hc',Hg,-Int.natCast_add];refine⟨by rw[AE _ _ q5.symm,AE _ _ q4.symm,AD],λo g1 g2=>?_,?_⟩;have e0:o≠n+1:=λe=>g1 (.inl e);have e1:o≠m:=λe=>g1 (.inr (.inl e));have e2:o≠m3:=λe=>g1 (.inr (.inr e));have e3:o≠mm:=by omega
        simp[h_,e0,e1,e2];exact⟨by omega,by omega,by simp[h_,q5],by simp[h_]⟩;rintro c hh mm h' m' ⟨g0,gc,g1,g2,g3⟩ hmm hD;exact⟨by omega,gc,by rw[hD _ (.inl rfl)];exact g1,by rw[hD _ (.inr (.inl rfl))];exact g2,by rw[hD _ (.inr (.inr rfl))];exact g3⟩;rintro c hh mm ⟨g0,gc,g1,g2,g3⟩ o (rfl|rfl|rfl)<;>omega
       have hkm3:k≠m3:=by omega
       refine we (cK Y l hl (id:=x.id) (k:=k) (by rw[AE _ _ hkm3];exact k3) (by rintro(g|g|g)<;>omega) ⟨by omega,qg _,by rw[AE _ _ (by omega)];exact za,by rw[AE _ _ (by omega)];exact zm,AD _ _ _⟩) ?_;rintro v h' m' ⟨hm',hfr,⟨hch,c,g0,gc,g1,g2,g3⟩|⟨hch,g0,g1,g3⟩⟩;refine⟨_,_,g3,by simp,?_⟩;simp[go_sem];refine⟨⟨by omega,hch⟩,λo y e=>?_⟩;have o1:o<n+2:=hGb 0 o y e;by_cases o2:o=n+1;subst o2;rw[AE _ _ (by omega),g1,<-e,hGa];rw[AE _ _ (by omega),hfr o (by rintro(g|g|g)<;>omega) (by omega) (by omega),AE _ _ (by omega)];exact k4 _ _ ((AE _ _ (by omega)).trans e);refine⟨_,_,g3,by simp,?_⟩;simp[go_sem];rw[AE _ _ (by omega:n+1≠m3),g1];refine⟨_,rfl,On (T:=λv=>v=AA V) ho (λo y e=>?_) (by simp[cc]) (by rw[hV,if_pos (Tx hlt (by rw[hx];exact hch))])⟩;have o1:o<n:=hHb o y e;rw[AE _ _ (by omega),hfr o (by rintro(g|g|g)<;>omega) (by omega) (by omega),AE _ _ (by omega)];exact k4 _ _ ((AE _ _ (by omega)).trans (hGk 0 _ _ e))
     refine AJ ?_;simp[go_sem,w1,IO,-Int.natCast_add];exact⟨i+1,by omega,⟨by omega,hm.1,RZ hlt hI (by rw[hx];exact hm.2)⟩,rfl⟩
   refine AJ ?_;have e:i=l.length:=by omega
   subst e;simp[go_sem,IO,hm,hI]
 obtain⟨hm,a4⟩:=hm;rw[if_neg (UT a4)]at hV;refine AJ ?_;simp[go_sem,hGa,hGs];exact out _ _ hV
theorem jA(s:AI)(a:s.sizedT):EC 83 [s.e]:=
 e83 s (Z4 _ a.A a.Q)
  (iu _ a.L λi hi=>iz _ a.L i hi (i6 _ (a.levels _ (qi hi)) λx b k=>⟨_,gU x.template (a.tpl _ (qi hi) x b) k⟩))
  (iv _ a.C λi hi=>i7 _ a.C a.com i hi)
  (iw _ a.vars λi hi=>i8 _ a.vars a.var i hi)
section
variable{K K':Ck}(h0:K.m0=K'.m0)(h1:K.m1=K'.m1)(h2:K.m2=K'.m2)
include h0 h1
theorem LF:Gg K=Gg K':=by funext a b;unfold Gg;rw[h0,h1]
include h2
theorem Li:EV K=EV K':=by
 have d:Ia K=Ia K':=by funext a b;unfold Ia;rw[LF h0 h1]
 have e:Fc K=Fc K':=by funext a;unfold Fc;rw[h2]
 have f:Jq K=Jq K':=by funext a b;unfold Jq;rw[h2]
 have g:Jr K=Jr K':=by funext a b c;unfold Jr;rw[h2,LF h0 h1]
 funext a b;unfold EV;rw[d,e,f,g]
theorem S9:∀(N:Nat)(a:BN)(l:List AB),gN K N a l↔gN K' N a l
 | 0,_,_=>Iff.rfl
 | N+1,a,l=>by
  have e:=Li h0 h1 h2;have g:=S9 N;simp only[gN,e,g]
end
noncomputable def av(s:AI):Int:=open Classical in if h:∃e:Int,PC 83 [s.e] (AA e)then h.choose else 0
theorem Vp{s:AI}(h:EC 83 [s.e]):PC 83 [s.e] (AA (av s)):=by
 have h':∃e:Int,PC 83 [s.e] (AA e):=h;unfold av;rw[dif_pos h'];exact h'.choose_spec
def Kd(d:AG):Ck:=⟨0,0,0,0,0,0,HV d.S.A d.S.A.length,BU [] (d.S.L.map (·.id)),BU [] (d.V.map (·.id))⟩
structure DU(N:Nat)(d:AG):Prop where
 S:av d.S=0
 V:El d.V=0
 endH:EV (Kd d) 3 d.T0 = 0
 endI:d.T0.I=0
 endM:d.T0.move=0
 endD:d.T0.Y=[]
 W:gN (Kd d) N ⟨true,false,0⟩ d.W
 ids:CX [] (GU N d.W)
 units:IntKind.i64.wrap (Oz N d.W)<=16384
def Ze(T:Prop)(v:SV):Prop:=∃e:Int,v=AA e/\(e=0↔T)
theorem GH{a b:Int}:Bc [a,b]=0↔a=0/\b=0:=by
 simp only[Bc];by_cases c:a=0<;>by_cases hb:b=0<;>simp[c,hb]
theorem jr(d:AG){B N:Nat}(hB:B<=1048576)(hl:Dq AF.D B N d.W)(he:d.T0.D)(h1:d.S.A.length<=1048576)(h2:d.S.L.length<=1048576)(h3:d.V.length<=1048576)(h4:∀r∈d.V,r.O.size<=1048576)
 (h83:EC 83 [d.S.e]):TC 24 [d.e] (Ze (DU N d)):=by
 intro h n;refine DO func24 rfl λho=>?_;have hHb:=ho.lt;obtain⟨X,hX⟩:∃X:SV,X=.q ([AK d.W]++d.T0.g++[BE d.V]++d.S.g):=⟨_,rfl⟩
 obtain⟨T,hT⟩:∃T:Prop,T=DU N d:=⟨_,rfl⟩
 rw[<-hT];have no:∀(e:Int)(H2:Hp)(m:Nat),e≠0->¬T->(∀j y,h j=some y->H2 j=some y)->CO n H2 m (AA e) (λv h' n'=>Ze T v/\h'=h/\n'=n):=λe H2 m he hb hh=>On ho hh (by simp[cc]) ⟨e,rfl,λg=>absurd g he,λg=>absurd g hb⟩;refine Aa 1 [(1,X)] h n ?_ (λm hm=>?_);rw[hX];simp[go_sem,AG.e,AF.g,AI.g];exact⟨AZ (AS hHb (qa _)) (AD _ _ _),AL hHb AC⟩;refine Bg 0 [(1,X)] h (λm=>n<=m/\av d.S=0/\El d.V=0) ?_ (λm hm=>?_)
 . refine AX 0 (α:=Int) (λe=>[(1,X),(3,AA e)]) (λ_=>h) (λe m=>n<=m/\e=Bc [av d.S,El d.V]) (CK dQ rfl (by kernel_rfl) (by kernel_rfl) ?_) (λe m hm=>?_);have hHm:∀j y,h j=some y->j<m:=λj y e=>by have:=hHb j y e;omega
   rw[hX];simp[go_sem,dQ,AF.g,AI.g];refine qz (by simpa[AI.e,AI.g]using Vp h83) ?_;generalize av d.S=e;simp[go_sem];refine(c84 d.V h3 h4).use ?_;generalize El d.V=e2;simp[go_sem];refine wn (bs:=[.i 1 ([e,e2].map AA) false]) (h2:=h) 1 (AL hHm AC) ⟨?_,trivial⟩ ?_;exact Cz (es:=[AA e,AA e2]) (AS hHm (qa _)) (by simp) (by rw[AD];simp[SV.cells]) (by simp[SV.B,SV.cells]);refine(Sa _ (by simp)).use ?_;generalize Bc [e,e2]=ef;simp[go_sem,IO]
   first|exact⟨ef,⟨by omega,rfl⟩,IO⟩|exact⟨by omega,IO⟩|(trace_state;omega)
   obtain⟨hm,hef⟩:=hm;by_cases e0:e=0
   case neg=>exact AJ (by simp[go_sem,e0];exact no e _ _ e0 (λg=>e0 (by rw[hT]at g;rw[hef];exact GH.2 ⟨g.S,g.V⟩)) AC)
   have hrv:=GH.1 (hef▸e0);rw[e0];exact AJ (by simp[go_sem,IO,hm,hrv])
 obtain⟨hm,h8,hrv⟩:=hm;refine B8 0 (α:=Ck) (λq=>[(1,X),(4,.ptr q.p 0)]) (λq=>BD q.st ([],0) h) (λq m=>n<=m/\q.ok m/\q.m2=(Kd d).m2/\q.m0=(Kd d).m0/\q.m1=(Kd d).m1/\∀o y,q.st ([],0) o=some y->n<=o) ?_ (λK n1 hq=>?_);rw[hX];simp[go_sem,AF.g,AI.g];refine qP (by simpa[AG.e,AF.g,AI.g]using iq d h1 h2 h3 (h:=h) (n:=m)) ?_;rintro v H' n' ⟨K,a1,a2,rfl,a4,a5,b0,b1,a6,a7⟩;simp[go_sem,IO];refine⟨K,⟨by omega,a1,a5,b0,b1,λo y e=>by have:=a7 o y e;omega⟩,IO,λo y e=>?_⟩;simp only[BD]at e;cases c:K.st ([],0) o with
 | some z=>rw[c]at e;cases e;exact a4 o y c
 | none=>rw[c]at e;exact a6 o y e
 obtain⟨hn1,hK,hm2,hm0,hm1,hlo⟩:=hq;have D:=hK.clo;have hlos:∀s' o y,K.st s' o=some y->n<=o:=λs' o y e=>by
  cases c:K.st ([],0) o with
  | some z=>exact hlo o z c
  | none=>rw[D.dom ([],0) s' o c]at e;cases e
 have BV:∀s',∀j y,h j=some y->BD K.st s' h j=some y:=λs' j y e=>by
  simp only[BD];cases c:K.st s' j with
  | some z=>have:=hlos s' j z c;have:=hHb j y e;omega
  | none=>exact e
 have hUb:∀s' j y,BD K.st s' h j=some y->j<n1:=λs' j y e=>(D.old s' (qa _) (λj y e=>⟨by have:=hHb j y e;omega,H8 hn1 (ho j y e).2⟩) j y e).1;have hps:∀s',BD K.st s' h K.p=some (.cells [.map K.s0,.map K.s1,.map K.s2,.map K.s3,.map K.s4,AA s'.2]):=λs'=>(hK.has (s:=s') Cl).p;refine Aa 1 [(1,X),(4,.ptr K.p 0),(5,.q [AA d.T0.I,AA d.T0.move,Ax d.T0.Y,Ai d.T0.Z])] (BD K.st ([],0) h) n1 ?_ (λm hm=>?_);rw[hX];simp[go_sem,IO,AF.g,AI.g,AD];exact⟨AZ (AS (hUb _) (qa _)) (AD _ _ _),AL (hUb _) (AL (hUb _) AC)⟩;refine Bg 0 [(1,X),(4,.ptr K.p 0)] (BD K.st ([],0) h) (λm=>n1<=m/\EV K 3 d.T0 = 0/\d.T0.I=0/\d.T0.move=0/\d.T0.Y=[]) ?_ (λm hm=>?_)
 . have hd:=YG hK ([],0) 3 d.T0 he (H:=BD K.st ([],0) h) (n:=m) hm Cl;obtain⟨eh,heh⟩:∃eh,EV K 3 d.T0 = eh:=⟨_,rfl⟩
   rw[heh]at hd ⊢;refine AX 0 (α:=Int) (λe=>[(1,X),(4,.ptr K.p 0),(6,AA e)]) (λ_=>BD K.st ([],0) h) (λe m=>n1<=m/\(e=0↔eh=0/\d.T0.I=0/\d.T0.move=0/\d.T0.Y=[])) (CK Yz rfl (by kernel_rfl) (by kernel_rfl) ?_) (λe8 m hm=>?_);rw[hX];have fin:∀(e ea:Int)(m1:Nat)(KK:SV->Hp->Nat->Prop),n1<=m1->KK (AA (Bc [e,ea])) (BD K.st ([],0) h) (m1+1)->Ap (CC.plain.call false 0) prog 82 [.sl m1 0 1 2 true] (h_ (BD K.st ([],0) h) m1 (some (.cells [AA e,AA ea]))) (m1+1) KK:=λe ea m1 KK hm1 hk=>by
    refine wn (bs:=[.i 1 ([e,ea].map AA) false]) (h2:=BD K.st ([],0) h) 1 (AL (λj z e=>by have:=hUb ([],0) j z e;omega) AC) ⟨?_,trivial⟩ ?_;exact Cz (es:=[AA e,AA ea]) (AS (hUb ([],0)) hm1) (by simp) (by rw[AD];simp[SV.cells]) (by simp[SV.B,SV.cells]);exact(Sa _ (by simp)).use hk
   have hd':∀KK:SV->Hp->Nat->Prop,KK (AA eh) (BD K.st ([],0) h) m->Ap (CC.plain.call false 0) prog 86 [.ptr K.p 0,AA 3,.agg [AU d.T0.Q,AA d.T0.I,AA d.T0.move,Ax d.T0.Y,Ai d.T0.Z]] (BD K.st ([],0) h) m KK:=λKK hk=>by
    refine qP (by simpa[AF.e,AF.g]using hd) ?_;rintro v H' n' ⟨rfl,rfl,rfl⟩;exact hk
   clear hd heh;generalize hin:d.T0.I=ins at hd' ⊢;generalize hmv:d.T0.move=mv at hd' ⊢;by_cases i0:ins=0;subst i0;by_cases m0:mv=0;subst m0;simp[go_sem,Yz,AF.g,hin,hmv];refine hd' _ ?_;simp[go_sem];refine(Ki _ _).use ?_;simp[go_sem];refine fin _ _ _ _ hm ?_;generalize hf:Bc [eh,_]=ef;simp[go_sem,IO];refine⟨ef,⟨by omega,?_⟩,IO⟩;rw[<-hf,GH];by_cases dl:d.T0.Y=[]<;>simp[dl];simp[go_sem,Yz,AF.g,hin,hmv,m0];refine hd' _ ?_;simp[go_sem,m0];refine(Ki _ _).use ?_;simp[go_sem];refine fin _ _ _ _ hm ?_;generalize hf:Bc [eh,_]=ef;simp[go_sem,IO];have hne:¬ef=0:=by rw[<-hf,GH];simp
   exact⟨ef,⟨by omega,hne⟩,IO⟩;simp[go_sem,Yz,AF.g,hin,hmv,i0];refine hd' _ ?_;simp[go_sem,i0];refine(Ki _ _).use ?_;simp[go_sem];refine fin _ _ _ _ hm ?_;generalize hf:Bc [eh,_]=ef;simp[go_sem,IO];have hne:¬ef=0:=by rw[<-hf,GH];simp
   exact⟨ef,⟨by omega,hne⟩,IO⟩;obtain⟨hm,hz⟩:=hm;have hE:=Li hm0 hm1 hm2;by_cases e80:e8=0
   case neg=>exact AJ (by simp[go_sem,e80];exact no e8 _ _ e80 (λg=>e80 (by rw[hT]at g;exact hz.2 ⟨by rw[<-heh,hE];exact g.endH,g.endI,g.endM,g.endD⟩)) (BV _))
   have hhd:=hz.1 e80;rw[e80];exact AJ (by simp[go_sem,IO,hm,hhd])
 obtain⟨hm,hhd⟩:=hm;refine AX 0 (α:=GR) (λ_=>[(4,.ptr K.p 0)]) (λq=>BD K.st q h) (λq m=>n1<=m/\Dh ([],0) (GU N d.W) (Oz N d.W) q/\CX [] (GU N d.W)/\gN K N ⟨true,false,0⟩ d.W) (AJ ?_) (λq m hm=>?_);rw[hX];simp[go_sem,AF.g,AI.g];refine qP (by simpa[BN.e]using Pu hK hB N d.W hl ([],0) ⟨true,false,0⟩ (BD K.st ([],0) h) m hm Cl) ?_;rintro v H' n' ⟨e,s2,rfl,hT2,rfl,rfl⟩;rw[D.up2];by_cases e0:e=0;obtain⟨b1,b2,b3⟩:=hT2.1 e0;simp[go_sem,e0,IO];exact⟨s2.1,s2.2,⟨hm,b3,b2,b1⟩,AC⟩;simp[go_sem,e0];exact no e _ _ e0 (λg=>by rw[hT]at g;exact hT2.2 e0 ⟨(S9 hm0 hm1 hm2 ..).2 g.W,g.ids⟩) (BV _);obtain⟨_,hnx,hfr,hgn⟩:=hm;have hun:IntKind.i64.wrap (Oz N d.W)=q.2:=by
  have h1:=hnx.rg (by simp only[IntKind.wrap_i64];rfl);have h2:=hnx.un;rw[h1]at h2;rw[h2];simp
 have hE:=Li hm0 hm1 hm2;have hTT:T↔q.2<=16384:=by
  rw[hT];exact⟨λg=>by rw[<-hun];exact g.units,λg=>⟨h8,hrv,by rw[<-hE];exact hhd.1,hhd.2.1,hhd.2.2.1,hhd.2.2.2,(S9 hm0 hm1 hm2 ..).1 hgn,hfr,by rw[hun];exact g⟩⟩
 refine AJ ?_;simp[go_sem,hps];refine(Ki _ _).use ?_;simp[go_sem];refine On ho (BV _) (by simp[cc]) ⟨_,rfl,?_⟩;rw[hTT];by_cases c:16384<q.2
 . simp[c];try omega
 . simp[c];try omega
theorem G1{F:Nat->Int}{n:Nat}:CD F n=0↔∀k,k<n->F k=0:=
 ⟨λh=>JK h,λh=>by
  induction n with
  | zero=>rfl
  | succ n ih=>rw[CD,if_pos (ih λk hk=>h k (by omega))];exact h n (by omega)⟩
structure In(K:Ck)(el:Int)(h:AF):Prop where
 Q:CY el h.Q=0
 refs:∀j,j<h.Q.length->Ia K h.Q j=0
 I:Fc K h=false
 mv:It h=false
 dlen:h.Y.length<=16
 Y:∀j,j<h.Y.length->Jq K h.Y j=0
 llen:h.Z.length<=64
 Z:∀j,j<h.Z.length->Jr K el h.Z j=0
theorem D8{K:Ck}{el:Int}{h:AF}:EV K el h=0↔In K el h:=by
 unfold EV;constructor
 . intro g;by_cases a1:CY el h.Q=0
   case neg=>rw[if_pos a1]at g;exact absurd g a1
   rw[if_neg (by rw[a1];simp)]at g;by_cases a2:CD (Ia K h.Q) h.Q.length=0
   case neg=>rw[if_pos a2]at g;exact absurd g a2
   rw[if_neg (by rw[a2];simp)]at g;cases a3:Fc K h with
   | true=>rw[a3]at g;simp at g
   | false=>
   cases a4:It h with
   | true=>rw[a3,a4]at g;simp at g
   | false=>
   rw[a3,a4]at g;simp only[qn,if_false]at g;by_cases a5:16<h.Y.length
   case pos=>rw[if_pos a5]at g;cases g
   rw[if_neg a5]at g;by_cases a6:CD (Jq K h.Y) h.Y.length=0
   case neg=>rw[if_pos a6]at g;exact absurd g a6
   rw[if_neg (by rw[a6];simp)]at g;by_cases a7:64<h.Z.length
   case pos=>rw[if_pos a7]at g;cases g
   rw[if_neg a7]at g;exact⟨a1,G1.1 a2,a3,a4,by omega,G1.1 a6,by omega,G1.1 g⟩
 rintro⟨a1,a2,a3,a4,a5,a6,a7,a8⟩;rw[if_neg (by rw[a1];simp),if_neg (by rw[G1.2 a2];simp),a3,a4,if_neg (by simp),if_neg (by simp),if_neg (by omega),if_neg (by rw[G1.2 a6];simp),if_neg (by omega)];exact G1.2 a8
theorem G6{K:Ck}{l:List Bs}{j:Nat}(a:j<l.length):Jq K l j=0↔l[j].rev∈K.m2/\(0<j->l[j-1].rev<l[j].rev)/\0<=l[j].move/\l[j].move<=1073741824:=by
 rw[Jq,qe a];dsimp only;by_cases a1:l[j].rev∈K.m2<;>by_cases a2:0<j<;>by_cases a3:0<=l[j].move/\l[j].move<=1073741824
 all_goals first
  | (by_cases a4:l[j].rev<=l[j-1].rev<;>simp[a1,a2,a3,List.getD,show j-1<l.length by omega,a4]<;>omega)
  | (simp[a1,a2,a3])
theorem In.ok{K:Ck}{el:Int}{h:AF}(g:In K el h):Hd K.m2 h where
 I:=by
  have:=g.I;by_cases a:h.I=0;exact .inl a;right;simpa[Fc,a]using this
 dlen:=g.dlen
 Y x hx:=by obtain⟨j,b,rfl⟩:=Kw hx;exact((G6 b).1 (g.Y j b)).1
 llen:=g.llen
 Z x hx:=by
  obtain⟨j,b,rfl⟩:=Kw hx;have:=g.Z j b;rw[Jr,qe b]at this;dsimp only at this;by_cases a:h.Z[j].rev∈K.m2;exact a;simp[a]at this
 inc i hi h0:=((G6 hi).1 (g.Y i hi)).2.1 h0
 mv:=by
  have:=g.mv;simp only[It,Bool.or_eq_false_iff,Bool.not_eq_false',decide_eq_true_eq]at this;exact this.1.1
 dmv x hx:=by obtain⟨j,b,rfl⟩:=Kw hx;exact((G6 b).1 (g.Y j b)).2.2.1
theorem Kx{x:AB}(h:G7 x=0):Wb x:=by
 unfold G7 at h;cases a1:P6 x with
 | true=>rw[a1]at h;simp at h
 | false=>
 cases a2:Ni x with
 | true=>rw[a1,a2]at h;simp at h
 | false=>
 cases a3:A5 x.x with
 | false=>rw[a1,a2,a3]at h;simp at h
 | true=>
 simp only[Ni,Bool.or_eq_false_iff,Bool.and_eq_false_imp,decide_eq_true_eq,decide_eq_false_iff_not]at a2;exact⟨λk=>List.length_eq_zero_iff.1 (by have:=a2.1.2 k;omega),λk=>List.length_eq_zero_iff.1 (by have:=a2.2 k;omega),a3⟩
theorem nn{K:Ck}:∀(N:Nat)(e:BN)(l:List AB),gN K N e l->Xr K.m2 N l
 | 0,_,_,_=>trivial
 | N+1,e,l,h=>λx j=>by
  obtain⟨g,_,_,_,_,g6,g7,g8⟩:=h x j;have a:=Kx g;refine⟨a,(D8.1 g6).ok,?_,λk=>(g8 k).1,λr b=>?_⟩;by_cases k:x.k=6;exact nn N _ _ (g7 k);rw[a.1 k];exact Yh _ _;by_cases k:x.k=7;obtain⟨_,_,i⟩:=g8 k;obtain⟨b1,f,_,d⟩:=i r b;exact⟨⟨(D8.1 b1).ok,f⟩,λc hc=>⟨(D8.1 (d c hc).1).ok,nn N _ _ (d c hc).2⟩⟩;rw[a.2.1 k]at b;cases b
theorem DU.ok{N:Nat}{d:AG}(g:DU N d):Re N d where
 W:=nn N _ _ g.W
 ids i hi:=⟨(g.ids.1 i hi).1,(g.ids.1 i hi).2.1⟩
 nodup:=g.ids.2
 V:=g.V
 T0:=(D8.1 g.endH).ok
 endI:=g.endI
def Te(T:Prop)(N:Nat)(d:AG)(v:SV):Prop:=∃b,v=.bool b/\(b=true->T/\Og N d.W/\Tm N d.W<=150)
theorem jq(T:Prop)(d:AG){B N:Nat}(hB:B<=1048576)(hl:Dq AF.D B N d.W)(hc:TC 24 [d.e] (Zd T)):TC 12 [d.e] (Te T N d):=by
 intro h n;refine DO func12 rfl λho=>?_;have hHb:=ho.lt;have fin:∀(b:Bool)(c:Bb)(m:Nat),(b=true->T/\Og N d.W/\Tm N d.W<=150)->CO n (h_ h (n+1) (some c)) m (.bool b) (λv h' n'=>Te T N d v/\h'=h/\n'=n):=λb c m hb=>On ho (AL (λj z e=>by have:=hHb j z e;omega) AC) (by simp[cc]) ⟨b,rfl,hb⟩;refine By 1 [(1,.q ([AK d.W]++d.T0.g++[BE d.V]++d.S.g))] h (λm=>n+1=m) ?_ (λm hm=>?_);simp[go_sem,AG.e,AF.g,AI.g];exact⟨AZ (AS hHb (qa _)) (AD _ _ _),AL hHb AC⟩;subst hm;refine By 0 [(1,.q ([AK d.W]++d.T0.g++[BE d.V]++d.S.g)),(3,.ptr (n+1) 0)] (h_ h (n+1) (some (.cells [AA 150]))) (λm=>n+2=m) ?_ (λm hm=>?_);simp[go_sem,IO,AD,Ah];subst hm;have hGb:∀j y,h_ h (n+1) (some (.cells [AA 150])) j=some y->j<n+2:=λj y e=>by
  simp only[h_]at e;split at e;omega;have:=hHb j y e;omega
 refine By 1 [(1,.q ([AK d.W]++d.T0.g++[BE d.V]++d.S.g)),(3,.ptr (n+1) 0),(4,.q d.S.g)] (h_ h (n+1) (some (.cells [AA 150]))) (λm=>n+2<=m) ?_ (λm hm=>?_);simp[go_sem,IO,AF.g,AI.g,AD];exact⟨AZ (AS hGb (qa _)) (AD _ _ _),AL hGb (AL hGb AC)⟩;refine AJ ?_;have no:=λc m=>fin false c m (by simp);by_cases a1:(d.S.C.length:Int)<=30
 case neg=>simp[go_sem,AF.g,AI.g,a1];exact no _ _
 by_cases a2:(d.S.A.length:Int)<=30
 case neg=>simp[go_sem,AF.g,AI.g,a1,a2];exact no _ _
 by_cases a3:(d.S.L.length:Int)<=30
 case neg=>simp[go_sem,AF.g,AI.g,a1,a2,a3];exact no _ _
 by_cases a4:(d.S.vars.length:Int)<=30
 case neg=>simp[go_sem,AF.g,AI.g,a1,a2,a3,a4];exact no _ _
 by_cases a5:(d.V.length:Int)<=30
 case neg=>simp[go_sem,AF.g,AI.g,a1,a2,a3,a4,a5];exact no _ _
 simp[go_sem,AF.g,AI.g,a1,a2,a3,a4,a5];refine qP (Zw hB N d.W hl 12 (n+1) 150 (h_ h (n+1) (some (.cells [AA 150]))) m (AD _ _ _)) ?_;rintro v H' n' ⟨b,c,rfl,rfl,rfl,hfew⟩;rw[Ah];cases b with
 | false=>simp[go_sem];exact no _ _
 | true=>
 simp[go_sem];refine TC.use (by simpa[AG.e,AF.g,AI.g]using hc) ?_;rintro v ⟨e,rfl,hT⟩;simp[go_sem];obtain⟨f1,f2,f3⟩:=hfew rfl ⟨by omega,by omega⟩;exact fin _ _ _ λg=>⟨hT (by simpa using g),f3,by omega⟩
theorem ZY(d:AG){B N:Nat}(b:B<=1048576)(a:d.sizedT B N):TC 24 [d.e] (Ze (DU N d)):=
 jr d b a.W a.T0 a.S.A a.S.L a.V a.authors (jA _ a.S)
theorem dL(d:AG){B N:Nat}(a:B<=1048576)(b:d.sizedT B N):TC 12 [d.e] (Te (DU N d) N d):=
 jq _ d a b.W ((ZY d a b).mono λ_ ⟨e,h,g⟩=>⟨e,h,g.1⟩)
theorem iE(l:List Bi)(hl:l.length<=1048576)(t:SV)(g:FuncId)(a b:List SV)(c:Nat->Int)(hc:∀(i:Nat)(h:i<l.length),PC g (a++[Bi.e l[i],t]++b) (AA (c i))):
 PC 322 [.i 2 (l.map Bi.e) false,t,.fn (.func g) a b] (.tup [AA (Az c l.length).1,.bool (Az c l.length).2]):=by
 intro h n;refine gq func322 rfl λs=>?_;simp[go_sem];refine Av 1 (α:=Nat×Nat) (λq=>[(0,.i 2 (l.map Bi.e) false),(1,t),(2,.fn (.func g) a b),(8,AA l.length),(9,AA q.1),(10,AA q.2)]) (λ_=>h) (λq m=>q.1<=q.2/\q.2<=l.length/\n<=m/\EI c 0 l.length=EI c q.1 q.2) (λq=>q.2-q.1) (0,l.length) ?_ ?_ AC ?_;simp;simp[Ao];rintro⟨i,j⟩ m ⟨o,p,k,f⟩;dsimp only at o p f;by_cases d:i<j;have r:(i+j) / 2<l.length:=by omega
 have w1:IntKind.i64.wrap ((i:Int)+j)=((i+j:Nat):Int):=by rw[DA]<;>omega
 have w2:IntKind.u64.wrap ((i+j:Nat):Int)=((i+j:Nat):Int):=by rw[Un]<;>omega
 have w3:(((i+j:Nat):Int)).fdiv 2=(((i+j) / 2:Nat):Int):=by rw[Int.fdiv_eq_ediv_of_nonneg _ (by omega)];omega
 have u:IntKind.i64.wrap (((i+j) / 2:Nat):Int)=(((i+j) / 2:Nat):Int):=by rw[DA]<;>omega
 have v:IntKind.i64.wrap ((((i+j) / 2:Nat):Int)+1)=(((i+j) / 2+1:Nat):Int):=by rw[DA]<;>omega
 have H:=hc _ r;simp only[qj,qx,qE]at H;rw[EI.eq_def c i j]at f;simp[go_sem,d,w1,w2,w3,u,r,Bi.e,-Int.natCast_add,-Int.natCast_ediv];refine qz (by simpa[Bi.e]using H) ?_;by_cases hb:c ((i+j) / 2)<0;simp[d,hb]at f;simp[go_sem,hb,v,-Int.natCast_add,-Int.natCast_ediv];exact⟨(i+j) / 2+1,j,by omega,⟨by omega,p,k,f⟩,IO,IO⟩;simp[d,hb]at f;simp[go_sem,hb,-Int.natCast_add,-Int.natCast_ediv];exact⟨i,(i+j) / 2,by omega,⟨by omega,by omega,k,f⟩,IO,IO⟩;have e:EI c 0 l.length=i:=by rw[f,EI.eq_def];simp[d]
 by_cases hi:i<l.length;have H:=hc i hi;simp only[qj,qx,qE]at H;simp[go_sem,d,hi,Bi.e];refine qz (by simpa[Bi.e]using H) ?_;simp[go_sem];exact As s rfl (by simp[Az,e,hi];by_cases h0:c i=0<;>simp[h0]);simp[go_sem,d,hi];exact As s rfl (by simp[Az,e,hi])
def Yi(l:List Bi)(k:Int)(i:Nat):Int:=match l[i]? with|some r=>GD r.key k|none=>0
theorem iF(r:Bi)(k:Int):PC 323 [r.e,AA k] (AA (GD r.key k)):=by
 intro h n;refine gq func323 rfl λa=>?_;simp[go_sem,Bi.e,AD];refine(V4 r.key k).use ?_;simp[go_sem];exact A3 a (AR a (qa _) AC) rfl rfl
def QH(l:List Bi)(k:Int):Nat×Bool:=Az (Yi l k) l.length
theorem Zv(l:List Bi)(hl:l.length<=1048576)(k:Int):PC 308 [AU l,AA k] (.tup [AA (QH l k).1,.bool (QH l k).2]):=by
 intro h n;refine gq func308 rfl λa=>?_;simp[go_sem];refine(iE l hl (AA k) 323 [] [] (Yi l k) λi hi=>by simpa[Yi,hi]using iF l[i] k).use ?_;simp[go_sem];exact As a rfl rfl
theorem TR{l:List Bi}{k:Int}(h:(QH l k).2=true):(QH l k).1<l.length:=Fw _ _ h
def Ix(l:List Bi)(k:Int):Int×Bool:=if(QH l k).2=true then(match l[(QH l k).1]? with|some p=>p.value|none=>0,true)else(0,false)
theorem gZ(l:List Bi)(hl:l.length<=1048576)(k:Int):PC 277 [AU l,AA k] (.tup [AA (Ix l k).1,.bool (Ix l k).2]):=by
 intro h n;refine gq func277 rfl λb=>?_;simp[go_sem];refine(Zv l hl k).use ?_;unfold Ix;cases c:(QH l k).2 with
 | false=>
  simp[go_sem];exact As b rfl rfl
 | true=>
  have a:=TR c;simp[go_sem,a,Bi.e];exact As b rfl rfl
theorem bn(l:List Bi)(hl:l.length<=1048576):PC 229 [AU l] (AU l):=by
 intro h n;refine gq func229 rfl λa=>?_;simp[go_sem];refine(YC l hl).use ?_;simp[go_sem];exact As a (Bi.E.i _ _ _ _) rfl
theorem c9(l:List Bi)(hl:l.length<=1048576):LC 229 [AU l] 2 (l.map Bi.e):=by
 intro h n;refine gq func229 rfl λho=>?_;simp[go_sem];refine wq (cv l hl) ?_;intro v H' m W;simp[go_sem];exact .inl W
section
variable{E:CC}{evs:Operand->SV}{o:Oper}{h:Hp}{n:Nat}{K:SV->Hp->Nat->Prop}
theorem Oq{f x y:Operand}{ts:Array TypeId}{k j off len cap:Nat}{a b:SV}{full:Bool}{t:List SV}{ty ty':Option TypeId}(N:o.op=.call { callee:=.value f,args:=#[x,y],argTypes:=ts })(Y:evs f=.fn (.func 324) [] [])
 (Z:evs x=.sl k 0 2 1 full) (hy:evs y=.slc j off 2 len cap) (z:k≠j) (M:h k=some (.cells [a,b] ty)) (L:h j=some (.cells t ty')) (u:t≠[]) (X:K (.bool false) h n):DS E prog evs o h n K:=by
 refine⟨by rw[N];simp,λc ev _ _ R F G=>?_⟩;have g:=G f;have q:=G x;have r:=G y;rw[Y,V]at g;obtain⟨xs,ys,g,h1,h2⟩:=g;simp only[VL]at h1 h2;subst h1;subst h2;rw[Z,V]at q;rw[hy,V]at r;obtain⟨bk,J,l,hρk,D,_⟩:=q;obtain⟨s,I,hρj,C,_⟩:=r;obtain⟨b1,s1,m,U,vk,O,H,p3,p4,_⟩:=R.obj _ _ M;rw[hρk]at O;cases O;obtain⟨b2,s2,i,T,S,Q,q2,q3,q4,_⟩:=R.obj _ _ L;rw[hρj]at Q;cases Q;have hb:bk≠s:=by
  rintro rfl;exact z (R.inj k j _ _ bk J I M L hρk hρj)
 have v:i.size≠0:=by
  have hl:=q4.length;have:0<t.length:=qH.2 u;have h0:S[0]? = some S[0]:=qe (by omega);have:=(qp.1 (q3 _ _ h0)).1;omega
 obtain⟨i42,p,W⟩:=qN.1 (show(prog.info? 193).map (·.size)=some 2 by kernel_rfl);have B:∀w,(Go.sizeOf 193).run prog w=.ok 2 w:=λw=>by simp[sizeOf,typeInfo,p,W]
 have A:=Lib.run_overlaps_apart (P:=prog) c.w 23 4 193 Tryz.underlying23 2 B ⟨bk,J+0,none⟩ ⟨s,I+off,none⟩ 1 l len cap hb U T m.size i.size (by simp[World.shape?,H]) (by simp[World.shape?,q2]) v (by simp[World.frozen?,H]) (by simp[World.frozen?,H]);have d:=run_callFunc_extern (P:=prog) func324 (by kernel_rfl) (by kernel_rfl) (by kernel_rfl) (e:=Extern.SlicesOverlaps.overlaps #[23,23] #[4]) (by kernel_rfl) #[.slice (some ⟨bk,J+0,none⟩) 1 l,.slice (some ⟨s,I+off,none⟩) len cap] c.w;rw[A]at d;refine⟨.bool false,.bool false,h,n,c,?_,by rw[V],R,F,vm n c,X⟩;simp only[Result.andThen_ok]at d;simp[execOp,N,resolve,Deferred.ofValue,g,invoke,D,C];simpa using d
end
def Bm(l:List Bi):List SV:=(l.map Bi.e).flatMap SV.cells
theorem Ez(l:List Bi):(Bm l).length=l.length*2:=by
 have:=BO (z:=2) (Bi.E.size l);rw[qf]at this;exact this
theorem Jd(l:List Bi)(i:Nat)(hi:i<=l.length):(Bm l).take (i*2)=Bm (l.take i):=by
 have h1:Bm l=Bm (l.take i)++Bm (l.drop i):=by
  unfold Bm;rw[<-Jk,<-qc,qM]
 have h2:=Ez (l.take i);rw[h1,vb (by rw[h2];simp;omega),qv (by rw[h2];simp;omega)]
theorem Lp(l:List Bi)(i:Nat)(hi:i<=l.length):(Bm l).drop (i*2)=Bm (l.drop i):=by
 have h1:Bm l=Bm (l.take i)++Bm (l.drop i):=by
  unfold Bm;rw[<-Jk,<-qc,qM]
 have h2:=Ez (l.take i);rw[h1,List.drop_append_of_le_length (by rw[h2];simp;omega),UX (by rw[h2];simp;omega)];rfl
theorem N9(a b:List Bi):Bm (a++b)=Bm a++Bm b:=by unfold Bm;rw[qc,Jk]
def KQ(l:List Bi)(i:Nat)(r:Bi):List Bi:=l.take i++r::l.drop i
theorem RQ(l:List Bi)(i:Nat)(r:Bi)(hi:i<=l.length):(KQ l i r).length=l.length+1:=by unfold KQ;simp;omega
theorem cL(l:List Bi)(hl:l.length<=1048576)(i:Nat)(hi:i<l.length)(r:Bi){H:Hp}{n o k cap:Nat}(G:l.length<=cap)(F:H o=some (.cells (Bm l)))(N:H k=some (.cells [AA r.key,AA r.value]))(J:k≠o):
 BL prog 309 [.slc o 0 2 l.length cap,AA i,.sl k 0 2 1 true] H n (λv h' n'=>v=AU (KQ l i r)/\h'=h_ H o none/\n'=n):=by
 refine DO func309 rfl λI=>?_;have u:=I.lt;have ht:BA prog 23=some 193:=by simp[go_sem]
 have f:Br prog 193=2:=by simp[go_sem]
 have Y:(BK prog 193).B=true:=by simp[go_sem]
 have M:(BK prog 193).cells.length=2:=by simp[go_sem]
 have hb:Bw prog 193<=65536:=by simp[go_sem]
 have hti:L6 prog 3=some .i64:=by simp[go_sem]
 have B:(BA prog 23).isSome=true:=by rw[ht];rfl
 have hC:=Ez l;have K:=u o _ F;have hkn:=u k _ N;have w1:=wS i (by omega);have w2:IntKind.i64.wrap ((l.length:Int)+1)=((l.length+1:Nat):Int):=by rw[DA]<;>omega
 refine CG 0 [(0,.slc o 0 2 l.length cap),(1,AA i),(2,.sl k 0 2 1 true)] H n (AJ ?_) (λm a=>?_);simp[go_sem,IO];subst a;refine CG 0 [(0,.slc o 0 2 l.length cap),(1,AA i),(2,.sl k 0 2 1 true)] H n (AJ ?_) (λm a=>?_);simp[go_sem];refine Bl (j:=o) (off:=0) (z:=2) (len:=l.length) (cap:=cap) (l:=i) (m:=l.length) rfl ht f (by omega) (by simp[go_sem]) (.inr ⟨_,rfl,by simp[go_sem]⟩) (.inl ⟨rfl,rfl⟩) (by omega) G (by omega) ?_;simp[go_sem,IO];subst a;refine CG 0 [(0,.slc o 0 2 l.length cap),(1,AA i),(2,.sl k 0 2 1 true),(7,AA 1)] H n (AJ ?_) (λm a=>?_);simp[go_sem,IO];subst a;refine CG 0 [(0,.slc o 0 2 l.length cap),(1,AA i),(2,.sl k 0 2 1 true),(7,AA 1)] H n (AJ ?_) (λm a=>?_);simp[go_sem,IO];subst a;refine CG 0 [(0,.slc o 0 2 l.length cap),(1,AA i),(2,.sl k 0 2 1 true),(7,AA 1),(8,AA l.length)] H n (AJ ?_) (λm a=>?_);simp[go_sem];refine I9 (j:=o) (off:=0) (z:=2) (len:=l.length) (cap:=cap) rfl B (by simp[go_sem]) ?_;simp[go_sem,IO];subst a;refine CG 0 [(0,.slc o 0 2 l.length cap),(1,AA i),(2,.sl k 0 2 1 true),(7,AA 1),(8,AA l.length)] H n (AJ ?_) (λm a=>?_);have:((i:Int)==l.length)=false:=by simp;omega
 simp[go_sem,IO,this];subst a;have fin:∀(q:Nat)(full:Bool)(h':Hp)(n':Nat),n<=q\/q=o->h' q=some (.cells (Bm (KQ l i r)))->(∀j,j<n->j≠o->h' j=H j)->CO n h' n' (.sl q 0 2 (l.length+1) full) (λv h' n'=>v=AU (KQ l i r)/\h'=h_ H o none/\n'=n):=λq full h' n' L hc hh=>by
  have hcs:=Ez (KQ l i r);have K:h_ H o none q=none:=by
   rcases L with L|rfl;rw[AE _ _ (by omega)];exact I.none L;exact AD _ _ _
  refine .inr ⟨1,AU (KQ l i r),h_ H o none,?_,Bi.E.i _ _ _ _,λj y s=>?_,rfl,rfl,rfl⟩;have:=Cz (h':=h') (h:=h_ H o none) (k:=0) (z:=2) (es:=(KQ l i r).map Bi.e) (full:=full) (full':=false) (o:=q) K (by simp) hc (Bi.E.size _);rw[qf,RQ _ _ _ (by omega)]at this;exact this;by_cases C:j=o;subst C;rw[AD]at s;cases s;rw[AE _ _ C]at s;have:=u j y s;exact⟨by rw[hh j this C];exact s,I j y s⟩
 have w:Bm [r]=[AA r.key,AA r.value]:=by simp[Bm,Bi.e,SV.cells]
 have t:Bm (KQ l i r)=Bm (l.take i)++(Bm [r]++Bm (l.drop i)):=by
  rw[<-N9,<-N9];rfl
 have X:(Bm (l.take i)).length=i*2:=by rw[Ez];simp;omega
 have W:(Bm (l.drop i)).length=(l.length-i)*2:=by rw[Ez];simp
 have hrl:(Bm [r]).length=2:=by rw[w];rfl
 by_cases hc:cap<l.length+1;refine Gz ?_;refine CG 0 [(0,.slc o 0 2 l.length cap),(1,AA i),(2,.sl k 0 2 1 true),(7,AA 1),(8,AA l.length),(31,.bool true)] H n (AJ ?_) (λm a=>?_);simp[go_sem,w2];refine LJ (j:=o) (off:=0) (z:=2) (len:=l.length) (cap:=cap) rfl B (by simp[go_sem]) ?_;have:(cap:Int)<(l.length:Int)+1:=by omega
 simp[go_sem,IO,this];subst a;refine Au (b:=true) (by simp[go_sem]) ?_;simp only[if_true];obtain⟨Z,hZ⟩:∃Z,Z=(List.replicate (l.length+1-i) (BK prog 193).cells).flatten:=⟨_,rfl⟩
 have hZl:Z.length=(l.length+1-i)*2:=by rw[hZ,List.length_flatten];simp[M]
 refine Bg 1 [(0,.sl o 0 2 l.length false),(1,AA i),(2,.sl k 0 2 1 true),(7,AA 1),(9,.sl n 0 2 (l.length+1) false)] (h_ H n (some (.cells (Bm (l.take i)++Z)))) (λm=>n+1=m) (AJ ?_) (λm a=>?_);simp[go_sem];refine Bl (j:=o) (off:=0) (z:=2) (len:=l.length) (cap:=cap) (l:=0) (m:=i) rfl ht f (by omega) (by simp[go_sem]) (.inl ⟨rfl,rfl⟩) (.inr ⟨_,rfl,by simp[go_sem]⟩) (by omega) (by omega) (by omega) ?_;have w3:IntKind.i64.wrap (((l.length+1:Nat):Int)-i)=((l.length+1-i:Nat):Int):=by rw[DA]<;>omega
 simp[go_sem,w2,w3,-Int.natCast_add];refine MU (j:=o) (off:=0) (z:=2) (len:=i) (cap:=cap) (k:=l.length+1-i) (e:=193) rfl ht hti f (by omega) Y M hb (by simp[go_sem]) (by simp[go_sem]) (by omega) (by omega) (by omega) F (by omega) ?_;rw[<-hZ];have C:((Bm l).drop 0).take (i*2)=Bm (l.take i):=by rw[vt];exact Jd l i (by omega)
 have s:i+(l.length+1-i)=l.length+1:=by omega
 rw[C,s];simp[go_sem,Fz];subst a;have p:¬((i:Int)=l.length+1):=by omega
 have d:(i:Int)<=l.length+1:=by omega
 have g:∀(y:Option Bb),h_ H n y k=some (.cells [AA r.key,AA r.value]):=λy=>by rw[AE _ _ (by omega)];exact N
 have S:∀(y:Option Bb),h_ H n y o=some (.cells (Bm l)):=λy=>by rw[AE _ _ (by omega)];exact F
 refine Bg 0 [(0,.sl o 0 2 l.length false),(1,AA i),(7,AA 1),(9,.sl n 0 2 (l.length+1) false)] (h_ H n (some (.cells (Bm (l.take i)++(Bm [r]++Z.drop 2))))) (λm=>n+1=m) (AJ ?_) (λm a=>?_);have c:Nat.min 1 (l.length+1-i)=1:=Ut (by omega);have h0:¬(l.length+1-i=0):=by omega
 have D:i*2+2<=i*2+Z.length:=by omega
 have T:(Bm (l.take i)).drop (i*2+2)=[]:=UX (by omega);simp[go_sem,p,d,g,AD,c,X,D,IO,Ah,List.drop_append,w,T];subst a;refine AX 0 (α:=Unit) (λ_=>[(9,.sl n 0 2 (l.length+1) false)]) (λ_=>h_ H n (some (.cells (Bm (KQ l i r))))) (λ_ m=>n+1=m) (CK SO rfl (by kernel_rfl) (by kernel_rfl) ?_) (λ_ m a=>?_);have V:¬((i:Int)=l.length):=by omega
 have U:(i:Int)<=l.length:=by omega
 have O:(i:Int)+1<=l.length+1:=by omega
 have c:Nat.min (l.length-i) (l.length-i)=l.length-i:=Nat.min_self _;have h0:¬(l.length-i=0):=by omega
 have h1:((i:Int)+1).toNat=i+1:=by omega
 have h2:(0:Int)<=(i:Int)+1:=by omega
 have h3:((l.length:Int)+1-((i:Int)+1)).toNat=l.length-i:=by omega
 have h4:i*2+(l.length-i)*2<=(Bm l).length:=by omega
 have D:((Bm l).drop (i*2)).take ((l.length-i)*2)=Bm (l.drop i):=by rw[Lp l i (by omega)];exact qv (by omega)
 have P:(Bm (l.take i)++(Bm [r]++Z.drop 2)).take ((i+1)*2)=Bm (l.take i)++Bm [r]:=by
  rw[<-qj];exact List.take_left' (by rw[qq];omega)
 have R:(Bm (l.take i)++(Bm [r]++Z.drop 2)).drop ((i+1)*2+(l.length-i)*2)=[]:=UX (by simp only[qq,vf];omega);have h8:(i+1)*2+(l.length-i)*2<=(Bm (l.take i)++(Bm [r]++Z.drop 2)).length:=by simp only[qq,vf];omega
 have h9:(Bm (l.drop i)).take ((l.length-i)*2)=Bm (l.drop i):=qv (by omega);rw[t,<-qj];generalize(Bm (l.take i)++(Bm [r]++Z.drop 2))=A at *;simp[go_sem,SO,w1,V,U,O,h1,h2,h3,h4,D,P,R,h8,h9,S,AD,c,h0,W,IO,Ah];subst a;refine AJ ?_;simp[go_sem];exact fin n false _ _ (.inl (qa n)) (AD _ _ _) λj hj _=>AE _ _ (by omega);refine CG 0 [(0,.slc o 0 2 l.length cap),(1,AA i),(2,.sl k 0 2 1 true),(7,AA 1),(8,AA l.length)] H n ?_ (λm a=>?_);refine CG 0 [(0,.slc o 0 2 l.length cap),(1,AA i),(2,.sl k 0 2 1 true),(7,AA 1),(8,AA l.length),(31,.bool false)] H n (AJ ?_) (λm a=>?_);simp[go_sem,w2];refine LJ (j:=o) (off:=0) (z:=2) (len:=l.length) (cap:=cap) rfl B (by simp[go_sem]) ?_;have:¬((cap:Int)<(l.length:Int)+1):=by omega
 simp[go_sem,IO,this];subst a;refine AJ ?_;simp[go_sem,IO];subst a;refine CG 0 [(0,.slc o 0 2 (l.length+1) cap),(1,AA i),(2,.sl k 0 2 1 true),(7,AA 1),(8,AA l.length)] H n (AJ ?_) (λm a=>?_);simp[go_sem,w2,-Int.natCast_add];refine Bl (j:=o) (off:=0) (z:=2) (len:=l.length) (cap:=cap) (l:=0) (m:=l.length+1) rfl ht f (by omega) (by simp[go_sem]) (.inl ⟨rfl,rfl⟩) (.inr ⟨_,rfl,by simp[go_sem]⟩) (by omega) (by omega) (by omega) ?_;simp[go_sem,IO];subst a;refine Gz ?_;refine AX 0 (α:=Unit) (λ_=>[(0,.slc o 0 2 (l.length+1) cap),(1,AA i),(2,.sl k 0 2 1 true),(7,AA 1),(68,.bool true)]) (λ_=>H) (λ_ m=>n=m) (MC ?_) (λ_ m a=>?_);simp[go_sem,IY,aC,w1,-Int.natCast_add];refine Bl (j:=o) (off:=0) (z:=2) (len:=l.length+1) (cap:=cap) (l:=i+1) (m:=l.length+1) rfl ht f (by omega) (by simp[go_sem]) (.inr ⟨_,rfl,by simp[go_sem]⟩) (.inl ⟨rfl,rfl⟩) (by omega) (by omega) (by omega) ?_;simp[go_sem];refine Oq (k:=k) (j:=o) (off:=(i+1)*2) (len:=l.length-i) (cap:=cap-(i+1)) (full:=true) rfl (by simp[go_sem]) (by simp[go_sem]) (by simp[go_sem]) J N F (λe=>by rw[e]at hC;simp at hC;omega) ?_;simp[go_sem,IO];subst a;refine Au (b:=true) (by simp[go_sem]) ?_;simp only[if_true];have g1:(Bm l).take ((i+1)*2)=Bm (l.take (i+1)):=Jd l (i+1) (by omega);have g2:((Bm l).drop (i*2)).take ((l.length-i)*2)=Bm (l.drop i):=by rw[Lp l i (by omega)];exact qv (by omega)
 have A1:∀{evs:Operand->SV} {x y:Operand} {o':Oper} {Q:SV->Hp->Nat->Prop},o'.op=.call { callee:=.builtin .copy,args:=#[x,y],argTypes:=#[23,23] }->evs x=.slc o ((i+1)*2) 2 (l.length-i) (cap-(i+1))->evs y=.slc o (i*2) 2 (l.length+1-i) (cap-i)->Q (.int .i64 ↑(l.length-i)) (h_ H o (some (.cells (Bm (l.take (i+1))++Bm (l.drop i))))) n->DS (CC.plain.call false 0) prog evs o' H n Q:=λI hx hy L=>
  Pb (k:=l.length-i) I ht f (by omega) hx hy F (Nat.min_eq_right (by omega)) (by omega) (by omega) (by omega) (by rw[g1,g2];exact L)
 refine AX 1 (α:=Unit) (λ_=>[(0,.sl o 0 2 (l.length+1) false),(1,AA i),(2,.sl k 0 2 1 true)]) (λ_=>h_ H o (some (.cells (Bm (l.take (i+1))++Bm (l.drop i))))) (λ_ m=>n=m) (CK SO rfl (by kernel_rfl) (by kernel_rfl) ?_) (λ_ m a=>?_);simp[go_sem,SO,w1,-Int.natCast_add];have C:l.length+1-(i+1)=l.length-i:=by omega
 refine⟨?_,?_⟩;refine Bl (j:=o) (off:=0) (z:=2) (len:=l.length+1) (cap:=cap) (l:=i+1) (m:=l.length+1) rfl ht f (by omega) (by simp[go_sem]) (.inr ⟨_,rfl,by simp[go_sem]⟩) (.inl ⟨rfl,rfl⟩) (by omega) (by omega) (by omega) ?_;simp[go_sem];refine Bl (j:=o) (off:=0) (z:=2) (len:=l.length+1) (cap:=cap) (l:=i) (m:=l.length+1) rfl ht f (by omega) (by simp[go_sem]) (.inr ⟨_,rfl,by simp[go_sem]⟩) (.inl ⟨rfl,rfl⟩) (by omega) (by omega) (by omega) ?_;simp[go_sem];refine A1 rfl (by simp[go_sem]) (by simp[go_sem]) ?_;simp[go_sem,Fz];refine Bl (j:=o) (off:=0) (z:=2) (len:=l.length+1) (cap:=cap) (l:=i) (m:=l.length+1) rfl ht f (by omega) (by simp[go_sem]) (.inr ⟨_,rfl,by simp[go_sem]⟩) (.inl ⟨rfl,rfl⟩) (by omega) (by omega) (by omega) ?_;simp[go_sem,-Int.natCast_add];refine Bl (j:=o) (off:=0) (z:=2) (len:=l.length+1) (cap:=cap) (l:=i+1) (m:=l.length+1) rfl ht f (by omega) (by simp[go_sem]) (.inr ⟨_,rfl,by simp[go_sem]⟩) (.inl ⟨rfl,rfl⟩) (by omega) (by omega) (by omega) ?_;simp[go_sem];refine A1 rfl (by simp[go_sem]) (by simp[go_sem]) ?_;simp[go_sem,Fz];subst a;have g3:(Bm (l.take (i+1))).length=(i+1)*2:=by rw[Ez];simp;omega
 refine CG 0 [(0,.sl o 0 2 (l.length+1) false)] (h_ H o (some (.cells (Bm (KQ l i r))))) n (AJ ?_) (λm a=>?_);have p:¬((i:Int)=l.length+1):=by omega
 have d:(i:Int)<=l.length+1:=by omega
 have g:∀(y:Option Bb),h_ H o y k=some (.cells [AA r.key,AA r.value]):=λy=>by rw[AE _ _ J];exact N
 have c:Nat.min 1 (l.length+1-i)=1:=Ut (by omega);have h0:¬(l.length+1-i=0):=by omega
 have D:i*2+2<=(Bm (l.take (i+1))++Bm (l.drop i)).length:=by rw[qq];omega
 have O:(Bm (l.take (i+1))++Bm (l.drop i)).take (i*2)=Bm (l.take i):=by
  rw[vb (by omega),Jd _ _ (by simp;omega),List.take_take,Ut (by omega)]
 have R:(Bm (l.take (i+1))++Bm (l.drop i)).drop (i*2+2)=Bm (l.drop i):=List.drop_left' (by omega);rw[t,w];generalize Bm (l.take (i+1))++Bm (l.drop i)=A at *;simp[go_sem,p,d,g,AD,c,D,O,R,IO,Ah];subst a;refine AJ ?_;simp[go_sem];exact fin o false _ _ (.inr rfl) (AD _ _ _) λj hj e=>AE _ _ e
theorem ib(l:List Bi)(d:l≠[])(hl:l.length<=1048576)(r:Bi){H:Hp}{n o k:Nat}{full:Bool}(u:H o=some (.cells ((l.map Bi.e).flatMap SV.cells)))(A:H k=some (.cells [AA r.key,AA r.value]))(hok:o≠k):
 BL prog 309 [.sl o 0 2 l.length full,AA l.length,.sl k 0 2 1 true] H n (λv h' n'=>v=AU (l++[r])/\h'=h_ H o none/\n'=n):=by
 refine DO func309 rfl λp=>?_;have b:=p.lt;have m:flat H (.sl o 0 2 l.length full)=some ((l.map Bi.e).flatMap SV.cells):=by
  have:((l.map Bi.e).flatMap SV.cells).length=l.length*2:=by rw[BO (z:=2) (Bi.E.size l)];simp
  simp[flat,u,Bz,<-this,-List.length_flatMap]
 have c:flat H (.sl k 0 2 1 true)=some [AA r.key,AA r.value]:=by simp[flat,A,Bz]
 have ht:BA prog 23=some 193:=by simp[go_sem]
 have g:Al prog H n .append [23,23] [.sl o 0 2 l.length full,.sl k 0 2 1 true]=some { val:=.sl n 0 2 (l.length+1) false,upd:=if full then none else some (o,none),new:=some (.cells ((l.map Bi.e).flatMap SV.cells++[AA r.key,AA r.value])) }:=by
  have B:Br prog 193=2:=by simp[go_sem]
  have s:(BK prog 193).B=true:=by simp[go_sem]
  have t:(BK prog 193).cells.length=2:=by simp[go_sem]
  have hb:Bw prog 193<=65536:=by simp[go_sem]
  have q:EF (l.length+1) (Bw prog 193)=true:=by simp[EF,hb];omega
  simp[Al,ht,Ec,B,s,t,GW,m,c,LT,q,Hz,Ib]
 have fin:∀(h':Hp)(n':Nat),h'=h_ (match(if full then none else some (o,(none:Option Bb)))with|some (j,x)=>h_ H j x|none=>H) n (some (.cells ((l.map Bi.e).flatMap SV.cells++[AA r.key,AA r.value])))->CO n h' n' (.sl n 0 2 (l.length+1) false) (λv h' n'=>v=AU (l++[r])/\h'=h_ H o none/\n'=n):=λh' n' e=>by
  have hon:=b o _ u;have i:((l++[r]).map Bi.e).flatMap SV.cells=(l.map Bi.e).flatMap SV.cells++[AA r.key,AA r.value]:=by simp[Bi.e,SV.cells]
  refine .inr ⟨1,AU (l++[r]),h_ H o none,?_,Bi.E.i _ _ _ _,λj y a=>?_,rfl,rfl,rfl⟩;have:=Cz (h':=h') (h:=h_ H o none) (k:=0) (z:=2) (es:=(l++[r]).map Bi.e) (full:=false) (full':=false) (o:=n) (by rw[AE _ _ (by omega)];exact p.none (qa n)) (by simp) (by rw[e,AD,i]) (Bi.E.size _);rw[qf,qq]at this;exact this;by_cases f:j=o;subst f;rw[AD]at a;cases a;rw[AE _ _ f]at a;refine⟨?_,p j y a⟩;have:=b j y a;rw[e,AE _ _ (by omega)];cases full;simp only[qn,if_false];rw[AE _ _ f];exact a;exact a
 refine AJ ?_;have w:¬l.length=0:=by simpa using d
 simp[go_sem,d];rw[g];cases full<;>simp[go_sem]<;>exact fin _ _ (by simp)
theorem Wr(l:List Bi)(r:Bi):KQ l l.length r=l++[r]:=by unfold KQ;simp
theorem cN(l:List Bi)(b:l≠[])(hl:l.length<=1048576)(i:Nat)(hi:i<=l.length)(r:Bi){H:Hp}{n o k:Nat}{full:Bool}(c:H o=some (.cells ((l.map Bi.e).flatMap SV.cells)))(d:H k=some (.cells [AA r.key,AA r.value]))(a:o≠k):
 BL prog 309 [.sl o 0 2 l.length full,AA i,.sl k 0 2 1 true] H n (λv h' n'=>v=AU (KQ l i r)/\h'=h_ H o none/\n'=n):=by
 rcases YV i l.length with h|h;exact Ap.cap λcap hc=>cL l hl i h r hc c d a.symm;have:i=l.length:=by omega
 subst this;have:=ib l b hl r (full:=full) (n:=n) c d a;rw[Wr];exact this
theorem ix(h:Hp)(n:Nat):BL prog 185 [.i 2 [] false] h n (λv h' n'=>(∃z,v=.i z [] true)/\h'=h/\n'=n):=by
 refine gq func185 rfl λho=>?_;simp[go_sem];refine Cj rfl (by kernel_rfl) rfl (λe=>?_) ?_;simp[go_sem];exact .inl ⟨⟨_,rfl⟩,rfl,rfl⟩;simp[go_sem];refine DP (z:=2) rfl rfl (by kernel_rfl) ?_;simp[go_sem];exact .inl ⟨⟨_,rfl⟩,rfl,rfl⟩
theorem cM(z:Nat)(r:Bi){H:Hp}{n k:Nat}(i:H k=some (.cells [AA r.key,AA r.value])):
 BL prog 309 [.i z [] true,AA 0,.sl k 0 2 1 true] H n (λv h' n'=>v=AU [r]/\h'=H/\n'=n):=by
 refine DO func309 rfl λd=>?_;have b:=d.lt;have a:flat H (.sl k 0 2 1 true)=some [AA r.key,AA r.value]:=by simp[flat,i,Bz]
 have ht:BA prog 23=some 193:=by simp[go_sem]
 have c:∀z,Al prog H n .append [23,23] [.i z [] true,.sl k 0 2 1 true]=some { val:=.sl n 0 2 1 false,new:=some (.cells [AA r.key,AA r.value]) }:=λz=>by
  have l:Br prog 193=2:=by simp[go_sem]
  have g:(BK prog 193).B=true:=by simp[go_sem]
  have h:(BK prog 193).cells.length=2:=by simp[go_sem]
  have hb:Bw prog 193<=65536:=by simp[go_sem]
  have f:EF 1 (Bw prog 193)=true:=by simp[EF,hb]
  simp[Al,ht,Ec,l,g,h,GW,a,LT,f,Ib]
 have fin:∀n',CO n (h_ H n (some (.cells [AA r.key,AA r.value]))) n' (.sl n 0 2 1 false) (λv h' n'=>v=AU [r]/\h'=H/\n'=n):=λn'=>
  .inr ⟨1,AU [r],H,Cz (k:=0) (z:=2) (es:=[r].map Bi.e) (full:=false) (full':=false) (o:=n) (d.none (qa n)) (by simp) (by rw[AD];simp[Bi.e,SV.cells]) (Bi.E.size _),Bi.E.i _ _ _ _,λj y e=>⟨AL b AC j y e,d j y e⟩,rfl,rfl,rfl⟩
 refine AJ ?_;simp[go_sem];rw[c];simp[go_sem];exact fin _
structure Lx where
 o:Nat
 full:Bool
theorem Yj(k:Int):QH [] k=(0,false):=by unfold QH Az;rw[EI];simp
theorem XB(l:List Bi)(k:Int):(QH l k).1<=l.length:=(Mu (Yi l k) 0 l.length (qg _)).2
theorem i9(h:Hp)(n:Nat):BL prog 229 [AU []] h n (λv h' n'=>(∃z,v=.i z [] true)/\h'=h/\n'=n):=by
 refine gq func229 rfl λho=>?_;simp[go_sem];refine qP (ix h n) ?_;rintro v H' m ⟨⟨z,rfl⟩,rfl,rfl⟩;simp[go_sem];exact .inl ⟨⟨_,rfl⟩,rfl,rfl⟩
def PX(l:List Bi)(k v:Int):List Bi:=if(QH l k).2=true then l.set (QH l k).1 ⟨(l.getD (QH l k).1 ⟨0,0⟩).key,v⟩else KQ l (QH l k).1 ⟨k,v⟩
theorem gd(l:List Bi)(hl:l.length<=1048576)(k v:Int):PC 278 [AU l,AA k,AA v] (AU (PX l k v)):=by
 intro h n;refine DO func278 rfl λH=>?_;have a:=H.lt;obtain⟨i,b,d⟩:∃i b,QH l k=(i,b):=⟨_,_,rfl⟩
 have c:=Zv l hl k;have f:=XB l k;have M:b=true->i<l.length:=λe=>by have:=TR (l:=l) (k:=k);rw[d]at this;exact this e
 unfold PX;rw[d]at c f ⊢;dsimp only at c f ⊢;refine CW 0 [(0,AU l),(1,AA k),(2,AA v)] h n (AJ ?_) (λm r=>?_);simp[go_sem,IO];refine CW 0 [(0,AU l),(1,AA k),(2,AA v),(7,AA i),(8,.bool b)] h n (AJ ?_) (λm r=>?_);simp[go_sem];refine qz c ?_;simp[go_sem,IO,r];by_cases e:l=[];subst e;rw[Yj]at d;cases d;refine AX 0 (α:=Nat) (λz=>[(1,AA k),(2,AA v),(7,AA 0),(8,.bool false),(9,.i z [] true)]) (λ_=>h) (λ_ m=>n<=m) (AJ ?_) (λz m r=>?_);simp[go_sem];refine qP (i9 _ _) ?_;rintro w I m' ⟨⟨z,rfl⟩,rfl,rfl⟩;simp[go_sem,IO,r];exact⟨z,IO⟩;have A:∀j y,h j=some y->j<m:=λj y e=>by have:=a j y e;omega
 refine CW 0 [(1,AA k),(2,AA v),(7,AA 0),(9,.i z [] true)] h n (AJ ?_) (λm r=>?_);simp[go_sem,IO,r];have A:∀j y,h j=some y->j<m:=λj y e=>by have:=a j y e;omega
 refine AJ ?_;simp[go_sem];refine qP (cM z ⟨k,v⟩ (AD _ _ _)) ?_;rintro w I m' ⟨rfl,rfl,rfl⟩;simp[go_sem];exact A3 H (AL A AC) rfl (Bi.E.i _ _ _ _);refine AX 0 (α:=Lx) (λq=>[(1,AA k),(2,AA v),(7,AA i),(8,.bool b),(9,.sl q.o 0 2 l.length q.full)]) (λq=>h_ h q.o (some (.cells ((l.map Bi.e).flatMap SV.cells)))) (λq m'=>n<=q.o/\q.o<m') (AJ ?_) (λq m' N=>?_);simp[go_sem];refine wq (c9 l hl) ?_;rintro w I m' ⟨w1,w2,w3⟩;rcases w3 with⟨w3,_⟩|⟨o,full,h1,h2,rfl,P⟩
 exact absurd (by simpa using w3) e;simp[go_sem,IO];refine⟨⟨o,full⟩,⟨by show n<=o;omega,h2⟩,IO,λj y g=>?_⟩;simp only[h_]at g;split at g;rename_i c;rw[c,<-g];exact P;exact w2 j y g;obtain⟨o,full⟩:=q;dsimp only at N ⊢;obtain⟨C,s⟩:∃C:List Bi->List SV,∀x,C x=(x.map Bi.e).flatMap SV.cells:=⟨_,λ_=>rfl⟩
 rw[<-s];obtain⟨G,F⟩:∃G:List Bi->Hp,∀x,G x=h_ h o (some (.cells (C x))):=⟨_,λ_=>rfl⟩
 rw[<-F];have u:∀x,G x o=some (.cells (C x)):=λx=>by rw[F,AD]
 have t:∀x j y,h j=some y->G x j=some y:=λx j y g=>by have:=a j y g;rw[F,AE _ _ (by omega)];exact g
 cases b with
 | true =>
  have hi:=M rfl;obtain⟨p,hp⟩:∃p,l[i]=p:=⟨_,rfl⟩
  obtain⟨L,J⟩:∃L,L=l.set i ⟨p.key,v⟩:=⟨_,rfl⟩
  have B:(l.map Bi.e)[i]? = some p.e:=by simp[hi,hp]
  have Q:(C l).take (i*2+1)++AA v::(C l).drop (i*2+1+1)=C L:=by
   rw[s,s,NP (e':=(⟨p.key,v⟩:Bi).e) (Bi.E.size l) B (by omega) (by simp[Bi.e,SV.cells]),J,List.map_set]
  have hCl:(C l).length=l.length*2:=by rw[s];exact Ez l
  have K:l.getD i ⟨0,0⟩=p:=by simp[List.getD,hi,hp]
  have D:L.length=l.length:=by rw[J,List.length_set]
  rw[if_pos rfl,K,<-J];refine AJ ?_;have hb:i*2+1+1<=(C l).length:=by omega
  simp[go_sem,u,hi,Q,hb];have O:=Cz (h':=h_ (G l) o (some (.cells (C L)))) (h:=h) (k:=0) (z:=2) (es:=L.map Bi.e) (full:=full) (full':=false) (o:=o) (AS a N.1) (by simp) (by rw[AD,s]) (Bi.E.size L);rw[qf,D]at O;exact Dj 1 H (λj y g=>by have:=a j y g;rw[AE _ _ (by omega)];exact t l j y g) O (Bi.E.i _ _ _ _)
 | false =>
  refine Bg 0 [(1,AA k),(2,AA v),(7,AA i),(9,.sl o 0 2 l.length full)] (G l) (λm=>o<m) (AJ ?_) (λm r=>?_);simp[go_sem,IO,N];have hGm:∀j y,G l j=some y->j<m:=λj y g=>by
   rw[F]at g;simp only[h_]at g;split at g;omega;have:=a j y g;omega
  refine AJ ?_;simp[go_sem];refine qP (cN l e hl i f ⟨k,v⟩ (by rw[AE _ _ (by omega),u,s]) (AD _ _ _) (by omega)) ?_;rintro w I m' ⟨rfl,rfl,rfl⟩;simp[go_sem];refine A3 H (λj y g=>?_) rfl (Bi.E.i _ _ _ _);have:=a j y g;rw[AE _ _ (by omega),AE _ _ (by omega)];exact t l j y g
theorem gX(l:List Bs)(hl:l.length<=1048576)(g:FuncId)(a b:List SV)(p:Nat->Bool)(hp:∀(i:Nat)(h:i<l.length),PC g (a++[l[i].e]++b) (.bool (p i))):
 PC 275 [.i 2 (l.map Bs.e) false,.fn (.func g) a b] (AA (BI p l.length 0)):=by
 intro h n;refine gq func275 rfl λf=>?_;simp[go_sem];refine Av 1 (α:=Nat) (λk=>[(0,.i 2 (l.map Bs.e) false),(1,.fn (.func g) a b),(7,AA l.length),(8,AA k)]) (λ_=>h) (λk m=>k<=l.length/\n<=m/\BI p l.length 0=BI p l.length k) (λk=>l.length-k) 0 ?_ ?_ AC ?_;simp;simp[Ao];rintro k m ⟨hk,e,d⟩;rw[BI.eq_def _ _ k]at d;by_cases c:k<l.length;have w1:=wS k (by omega);have H:=hp k c;simp only[qj,qx,qE]at H;simp[go_sem,c,Bs.e];refine qz (by simpa[Bs.e]using H) ?_;by_cases h0:p k=true;simp[go_sem,h0];exact As f rfl (by rw[d];simp[c,h0]);simp[go_sem,h0,w1,-Int.natCast_add];exact⟨k+1,by omega,⟨by omega,e,by rw[d];simp[c,h0]⟩,IO⟩;simp[go_sem,c];exact As f rfl (by rw[d];simp[c])
theorem fo(l:List Bs)(hl:l.length<=1048576)(g:FuncId)(a b:List SV)(p:Nat->Bool)(hp:∀(i:Nat)(h:i<l.length),PC g (a++[l[i].e]++b) (.bool (p i))):
 PC 227 [.i 2 (l.map Bs.e) false,.fn (.func g) a b] (.bool (Jo p l.length)):=by
 intro h n;refine gq func227 rfl λc=>?_;simp[go_sem];refine(gX l hl g a b p hp).use ?_;simp[go_sem];exact As c rfl rfl
theorem gj(l:List Int)(hl:l.length<=1048576)(g:FuncId)(a b:List SV)(p:Nat->Bool)(hp:∀(i:Nat)(h:i<l.length),PC g (a++[AA l[i]]++b) (.bool (p i))):
 PC 298 [.i 1 (l.map AA) false,.fn (.func g) a b] (AA (BI p l.length 0)):=by
 intro h n;refine gq func298 rfl λf=>?_;simp[go_sem];refine Av 1 (α:=Nat) (λk=>[(0,.i 1 (l.map AA) false),(1,.fn (.func g) a b),(7,AA l.length),(8,AA k)]) (λ_=>h) (λk m=>k<=l.length/\n<=m/\BI p l.length 0=BI p l.length k) (λk=>l.length-k) 0 ?_ ?_ AC ?_;simp;simp[Ao];rintro k m ⟨hk,e,d⟩;rw[BI.eq_def _ _ k]at d;by_cases c:k<l.length;have w1:=wS k (by omega);have H:=hp k c;simp only[qj,qx,qE]at H;simp[go_sem,c];refine qz (by simpa using H) ?_;by_cases h0:p k=true;simp[go_sem,h0];exact As f rfl (by rw[d];simp[c,h0]);simp[go_sem,h0,w1,-Int.natCast_add];exact⟨k+1,by omega,⟨by omega,e,by rw[d];simp[c,h0]⟩,IO⟩;simp[go_sem,c];exact As f rfl (by rw[d];simp[c])
theorem gK(l:List Int)(hl:l.length<=1048576)(g:FuncId)(a b:List SV)(p:Nat->Bool)(hp:∀(i:Nat)(h:i<l.length),PC g (a++[AA l[i]]++b) (.bool (p i))):
 PC 262 [.i 1 (l.map AA) false,.fn (.func g) a b] (.bool (Jo p l.length)):=by
 intro h n;refine gq func262 rfl λc=>?_;simp[go_sem];refine(gj l hl g a b p hp).use ?_;simp[go_sem];exact As c rfl rfl
def Dw(l:List Int)(x:Int):Bool:=(Az (Js l x) l.length).2
theorem gM(l:List Int)(x:Int)(hl:l.length<=1048576):PC 264 [.i 1 (l.map AA) false,AA x] (.bool (Dw l x)):=by
 intro h n;refine gq func264 rfl λa=>?_;simp[go_sem];refine(c78 l x hl).use ?_;simp[go_sem];exact As a rfl rfl
def VC(g:FuncId)(a b:List SV)(acc rej:Int->Bool):Prop:=∀x:Int,PC g (a++[AA x]++b) (.tup [.bool (acc x),.bool (rej x)])
theorem js:VC 163 [] [] (λ_=>false) (λ_=>true):=λx=>by
 intro h n;refine gq func163 rfl λa=>?_;simp[go_sem];exact As a rfl rfl
theorem jt:VC 165 [] [] (λ_=>true) (λ_=>false):=λx=>by
 intro h n;refine gq func165 rfl λa=>?_;simp[go_sem];exact As a rfl rfl
def trV:Tr:=.pure 0<|.pure 1<|.pure 2<|.pure 4<|.pure 5<|.pure 6<|.one 3<|.one 7<|.one 8<|.one 9 .nil
theorem bi{g:FuncId}{a b:List SV}{acc rej:Int->Bool}(d:VC g a b acc rej)(x:Int):PC 225 [AA x,.q [.fn (.func g) a b]] (.bool (acc x)):=by
 intro h n;refine gq func225 rfl λc=>?_;have H:=d x;simp only[qj,qx,qE]at H;simp[go_sem];refine H.use ?_;simp[go_sem];exact As c rfl rfl
theorem fk{g:FuncId}{a b:List SV}{acc rej:Int->Bool}(d:VC g a b acc rej)(x:Int):PC 226 [AA x,.q [.fn (.func g) a b]] (.bool (rej x)):=by
 intro h n;refine gq func226 rfl λc=>?_;have H:=d x;simp only[qj,qx,qE]at H;simp[go_sem];refine H.use ?_;simp[go_sem];exact As c rfl rfl
theorem fp{g:FuncId}{a b:List SV}{acc rej:Int->Bool}(d:VC g a b acc rej)(x:Bs):PC 228 [x.e,.q [.fn (.func 225) [] [.q [.fn (.func g) a b]]]] (.bool (acc x.rev)):=by
 intro h n;refine gq func228 rfl λc=>?_;simp[go_sem,Bs.e,AD];refine(bi d x.rev).use ?_;simp[go_sem];exact On (T:=λv=>v=.bool (acc x.rev)) c (λj y e=>by have:=(c j y e).1;simp only[h_];grind) (by simp[cc]) rfl
theorem fu(y:AM):PC 231 [y.e] (.agg [AA y.before,.bool y.had]):=by
 intro h n;refine gq func231 rfl λa=>?_;simp[go_sem,AM.e,AD,AE];exact On (T:=λv=>v=.agg [AA y.before,.bool y.had]) a (λj y e=>by have:=(a j y e).1;simp only[h_];grind) (by simp[cc,ca]) rfl
theorem fx(y:AM)(v:Int)(s:Bool):PC 233 [y.e,.agg [AA v,.bool s]] (AM.e ⟨y.rev,y.key,v,s⟩):=by
 intro h n;refine DO func233 rfl λk=>?_;have c:=k.lt;obtain⟨G,a⟩:∃G:Int->Bool->Hp,∀b q,G b q=h_ (h_ (h_ h n (some (.cells [AA y.rev,AA y.key,AA b,.bool q]))) (n+1) (some (.cells [AA v,.bool s]))) (n+2) (some (.cells [AA 0,AA 0,AA 0,.bool false])):=⟨_,λ_ _=>rfl⟩
 have g:∀b q,G b q n=some (.cells [AA y.rev,AA y.key,AA b,.bool q]):=λb q=>by rw[a];simp[h_]
 have l:∀b q,G b q (n+1)=some (.cells [AA v,.bool s]):=λb q=>by rw[a];simp[h_]
 have o:∀b q,G b q (n+2)=some (.cells [AA 0,AA 0,AA 0,.bool false]):=λb q=>by rw[a];simp[h_]
 have r:∀b q d f,h_ (G b q) n (some (.cells [AA y.rev,AA y.key,AA d,.bool f]))=G d f:=λb q d f=>by
  rw[a,a];funext j;simp only[h_];grind
 have p:∀b q j z,h j=some z->G b q j=some z:=λb q j z e=>by
  have:=c j z e;rw[a];simp only[h_];grind
 refine By 0 [(2,.ptr n 0),(3,.ptr (n+1) 0),(4,.ptr (n+2) 0)] (G y.before y.had) (λm=>n+2<m) ?_ (λm i=>?_);rw[a];simp[go_sem,IO,AM.e,qu];refine By 0 [(2,.ptr n 0),(4,.ptr (n+2) 0)] (G v s) (λm=>n+2<m) ?_ (λm i=>?_)
 . simp[go_sem,IO,g,l,r,i]
   repeat first|refine nd (by simp[Bo,DZ,CU,Aq,Region.binds]<;>omega) ?_|refine sq ?_|refine aq ?_
   first|(simp[Bo,DZ,CU,Aq,Region.binds];done)|(simp[Bo,DZ,CU,Aq,Region.binds];omega)|exact(sd (by kernel_rfl) trivial).1
 refine AJ ?_;simp[go_sem,g,o,AD];refine On (T:=λw=>w=AM.e ⟨y.rev,y.key,v,s⟩) k (λj z e=>?_) (by simp[cc,ca]) rfl;have:=c j z e;rw[AE _ _ (by omega)];exact p _ _ _ _ e
theorem fw(l:List Bi)(hl:l.length<=1048576)(a b c d:SV)(k:Int):PC 232 [.agg [AU l,a,b,c,d],AA k] (.agg [AA (Ix l k).1,.bool (Ix l k).2]):=by
 intro h n;refine DO func232 rfl λg=>?_;have f:=g.lt;refine By 1 [(1,AA k),(2,.q [AU l,a,b,c,d]),(4,.ptr (n+1) 0)] (h_ h (n+1) (some (.cells [AA 0,.bool false]))) (λm=>n+1<m) ?_ (λm hm=>?_);simp[go_sem,IO];refine⟨AZ (by simp[h_];exact AS f (qa _)) (by simp[h_]),λj y=>?_⟩;have:=f j y;simp only[h_];grind;refine AJ ?_;simp[go_sem];refine(gZ l hl k).use ?_;simp[go_sem,AD];refine On (T:=λw=>w=.agg [AA (Ix l k).1,.bool (Ix l k).2]) g (λj z e=>?_) (by simp[cc,ca]) rfl;have:=f j z e;simp only[h_];grind
inductive IL:SV->List Int->Prop
 | some (l:List Int) (h:l.length<=1048576):IL (.i 1 (l.map AA) false) l
 | nil:IL (.i 0 [] true) []
theorem iL(x:Int):PC 78 [.i 0 [] true,AA x] (.tup [AA 0,.bool false]):=by
 intro h n;refine gq func78 rfl λa=>?_;simp[go_sem];refine Av 1 (α:=Unit) (λ_=>[(0,.i 0 [] true),(1,AA x),(6,AA 0),(7,AA 0),(8,AA 0)]) (λ_=>h) (λ_ m=>n<=m) (λ_=>0) () ?_ ?_ AC ?_;simp;simp[Ao];rintro _ m hm;simp[go_sem];exact As a rfl rfl
theorem V5{v:SV}{l:List Int}(hl:IL v l)(x:Int):PC 264 [v,AA x] (.bool (Dw l x)):=by
 cases hl with
 | some _ h=>exact gM l x h
 | nil=>
  intro h n;refine gq func264 rfl λa=>?_;simp[go_sem];refine(iL x).use ?_;simp[go_sem];exact As a rfl rfl
theorem bx(g:FuncId)(a b:List SV):PC 298 [.i 0 [] true,.fn (.func g) a b] (AA (-1)):=by
 intro h n;refine gq func298 rfl λc=>?_;simp[go_sem];refine Av 1 (α:=Unit) (λ_=>[(0,.i 0 [] true),(1,.fn (.func g) a b),(7,AA 0),(8,AA 0)]) (λ_=>h) (λ_ m=>n<=m) (λ_=>0) () ?_ ?_ AC ?_;simp;simp[Ao];rintro _ m hm;simp[go_sem];exact As c rfl rfl
def Vw(p:Int->Bool)(l:List Int):Bool:=Jo (λi=>match l[i]? with|some x=>p x|none=>false) l.length
theorem Si{p:Int->Bool}{l:List Int}(h:∀x∈l,p x=false):Vw p l=false:=by
 unfold Vw Jo;rcases Ei (λi=>match l[i]? with|some x=>p x|none=>false) l.length 0 with e|⟨i,_,h2,_,a⟩
 rw[e];rfl;rw[qe h2]at a;dsimp only at a;rw[h _ (qi h2)]at a;cases a
theorem bu{v:SV}{l:List Int}(hl:IL v l)(g:FuncId)(a b:List SV)(p:Int->Bool)(hp:∀x,PC g (a++[AA x]++b) (.bool (p x))):PC 262 [v,.fn (.func g) a b] (.bool (Vw p l)):=by
 cases hl with
 | some _ h=>exact gK l h g a b _ λi hi=>by rw[qe hi];exact hp _
 | nil=>
  intro h n;refine gq func262 rfl λc=>?_;simp[go_sem];refine(bx g a b).use ?_;simp[go_sem];exact As c rfl (by simp[Vw,Jo,BI])
theorem de{a b:SV}{A R:List Int}(d:IL a A)(e:IL b R):VC 265 [] [.q [a,b]] (Dw A) (Dw R):=λx=>by
 intro h n;refine DO func265 rfl λf=>?_;refine Aa 0 [(0,AA x),(1,.q [a,b])] h n ?_ (λm c=>?_);simp[go_sem,IO];refine AX 0 (α:=Unit) (λ_=>[(3,.bool (Dw A x)),(4,.bool (Dw R x))]) (λ_=>h) (λ_ m=>n<=m) (CK trV rfl (by kernel_rfl) (by kernel_rfl) ?_) (λ_ m c=>?_);simp[go_sem,trV];refine(V5 d x).use ?_;simp[go_sem];refine(V5 e x).use ?_;simp[go_sem,IO,c];refine AJ ?_;simp[go_sem];exact As f rfl rfl
theorem bv{d a:SV}{R:List Int}(b:IL a R)(x:Int):PC 263 [AA x,.q [d,a]] (.bool (Dw R x)):=by
 intro h n;refine gq func263 rfl λc=>?_;simp[go_sem];refine(V5 b x).use ?_;simp[go_sem];exact As c rfl rfl
end Go.Proofs.YtgakninlhfkkmaaGreat.Sh
