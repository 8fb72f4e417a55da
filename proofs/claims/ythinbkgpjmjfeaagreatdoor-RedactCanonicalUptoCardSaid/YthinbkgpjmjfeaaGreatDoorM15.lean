/- A part of the proof (part 15 of 18). -/
import Derived.Test.YthinbkgpjmjfeaaGreatDoorM14
namespace Go.Proofs.YthinbkgpjmjfeaaGreatDoor.Sh
open Go.Proofs.Tryz
open Proofs
set_option maxRecDepth 10000
set_option maxHeartbeats 4000000
theorem JI{E:BU}{c:Array Oper}{K:SA->Hp->Nat->Prop}{sa:SA}{h:Hp}{n:Nat}{b:Bool}{e:Int}{a:List Oper}{tr:List CC}{dst:Option Tmp}
 (hk:∀r:Int,r=(if b then e else 0)->MG E prog c K a tr sa { dst:=dst,val:=AA r } h n):Be E prog c K sa h n 83 [.bool b,AA e] a tr dst:=
 vw _ _ _ _ _ _ (Kc b e) (hk _ rfl)
theorem lm(l:List Gq)(hl:l.length<=1048576)(u:∀x∈l,x.name.size<=1048576/\x.value.size<=1048576)(i:Nat)(hi:i<l.length):EC 197 [AA i,.q [CW l]]:=by
 obtain⟨x,b⟩:∃x,l[i]=x:=⟨_,rfl⟩
 have hxs:=u x (by rw[<-b];exact qp hi);by_cases h0:i=0
 . subst h0;apply Exists.intro;intro h n;refine gq func197 rfl λm=>?_;simp[go_sem,hi,b,Gq.h]
   repeat first|refine nq ?_|refine sq ?_
   refine vw _ _ _ _ _ _ (c9 x.name) ?_;simp[go_sem]
   repeat first|refine nq ?_|refine sq ?_
   refine JI λo d=>?_;simp[go_sem]
   repeat first|refine nq ?_|refine sq ?_
   refine JI λp e=>?_;simp[go_sem]
   repeat first|refine nq ?_|refine sq ?_
   refine JI λr f=>?_;simp[go_sem,hi,b,Gq.h]
   repeat first|refine nq ?_|refine sq ?_
   refine vw _ _ _ _ _ _ (cy x.value nN) ?_;obtain⟨c,a⟩:∃c,c=IT x.value:=⟨_,rfl⟩
   rw[<-a];simp[go_sem]
   repeat first|refine nq ?_|refine sq ?_
   refine Be.lend _ _ _ _ _ _ 2 [n] (SY [o,p,r,c] nO) rfl nO (λh' hh=>?_) ?_;have:=hh n nO;simp[h_]at this;simp[AT,Fz,this,CP,SV.B,SV.cells];simp[go_sem]
   repeat first|refine nq ?_|refine sq ?_
   subst d e f a;exact Bq m (AY m (IO _) AE) rfl rfl
 . have j:0<i:=by omega
   have k:(if(1:Int)>i then(1:Int)else i)=i:=by split<;>omega
   have hmx2:(if(1:Int)<i then(i:Int)else 1)=i:=by split<;>omega
   have t:IntKind.i64.wrap ((i:Int)-1)=((i-1:Nat):Int):=by rw[D5]<;>omega
   have g:i-1<l.length:=by omega
   obtain⟨y,s⟩:∃y,l[i-1]=y:=⟨_,rfl⟩
   apply Exists.intro;intro h n;refine gq func197 rfl λm=>?_;simp[go_sem,hi,b,Gq.h]
   repeat first|refine nq ?_|refine sq ?_
   refine vw _ _ _ _ _ _ (c9 x.name) ?_;simp[go_sem]
   repeat first|refine nq ?_|refine sq ?_
   refine JI λo d=>?_;simp[go_sem,hi,b,Gq.h,j,t,g,s,k]
   repeat first|refine nq ?_|refine sq ?_
   refine JI λp e=>?_;simp[go_sem,hi,b,Gq.h,j,t,g,s,k]
   repeat first|refine nq ?_|refine sq ?_
   refine JI λr f=>?_;simp[go_sem,hi,b,Gq.h]
   repeat first|refine nq ?_|refine sq ?_
   refine vw _ _ _ _ _ _ (cy x.value nN) ?_;obtain⟨c,a⟩:∃c,c=IT x.value:=⟨_,rfl⟩
   rw[<-a];simp[go_sem]
   repeat first|refine nq ?_|refine sq ?_
   refine Be.lend _ _ _ _ _ _ 2 [n] (SY [o,p,r,c] nO) rfl nO (λh' hh=>?_) ?_;have:=hh n nO;simp[h_]at this;simp[AT,Fz,this,CP,SV.B,SV.cells];simp[go_sem]
   repeat first|refine nq ?_|refine sq ?_
   subst d e f a;exact Bq m (AY m (IO _) AE) rfl rfl
def KW(ps:List CH):List Int:=ps.map (·.level)
def VR(bs:List UInt8):List Int:=if bs=[]then[]else[0]
def Wx(s:ByteArray)(k:Int):Bool:=if k<s.size then(match s[k.toNat]? with|some x=>decide ((49:Int)<=x.toNat)&&decide ((x.toNat:Int)<=57)|none=>false)else false
theorem Wy{s:ByteArray}{k:Int}(h:Wx s k=true):k<s.size:=by
 unfold Wx at h;split at h
 assumption
 cases h
def RV(s:ByteArray)(k:Int):Int:=match s[k.toNat]? with|some x=>IntKind.i64.wrap (IntKind.u8.wrap ((x.toNat:Int)-48))|none=>0
def Gz(a b:ByteArray):Bool:=decide (b.size<=a.size)&&((a.extract 0 b.size).toList==b.toList)
theorem VW{a b:ByteArray}(h:Gz a b=true):b.size<=a.size:=by unfold Gz at h;simp at h;exact h.1
theorem lK(a b:ByteArray):PC 331 [.str a,.str b] (.bool (Gz a b)):=by
 intro h n;refine E8 func331 rfl λe=>?_;refine AJ ?_;by_cases c:(b.size:Int)<=a.size;have d:b.size<=a.size:=by omega
 simp[go_sem,c];exact An e rfl (by simp[Gz,d]);have d:¬b.size<=a.size:=by omega
 simp[go_sem,c];exact An e rfl (by simp[Gz,d])
theorem gM(a b:ByteArray):PC 325 [.str a,.str b] (.bool (Gz a b)):=by
 intro h n;refine E8 func325 rfl λc=>?_;refine AJ ?_;simp[go_sem];refine qO (lK a b) ?_;simp[go_sem];exact An c rfl rfl
def bw(s:ByteArray)(at_ pl e:Int)(bs:List UInt8)(lv:List Int):Int×List UInt8×List Int×Int×Int:=
 if Gz (s.extract at_.toNat s.size) ⟨#[37,37]⟩then(at_+2,bs++[37],lv,pl,e)
 else if Wx s (at_+1)then(at_+2,[],lv++(VR bs++[RV s (at_+1)]),IntKind.i64.wrap (pl+1),e)
 else if Gz (s.extract at_.toNat s.size) ⟨#[37,100]⟩&&Wx s (at_+2)then(at_+3,[],lv++(VR bs++[RV s (at_+2)]),IntKind.i64.wrap (pl+1),e)
 else(at_,bs,lv,pl,14)
def jw(s:ByteArray)(at_ pl e:Int)(bs:List UInt8)(ps:List CH):Int->List UInt8->List CH->Int->Int->Prop:=λat' bs' ps' pl' e'=>
 (at',bs',KW ps',pl',e')=bw s at_ pl e bs (KW ps)/\((at_<at'/\at'<=s.size/\e'=e)\/(at'=at_/\e'=14))/\bs'.length<=bs.length+1/\ps'.length<=ps.length+2
def jU(G:Hp)(B q n:Nat)(s:ByteArray)(at_ pl e:Int)(L:List Int)(N:Nat)(z:Hp×List CH)(m:Nat):Prop:=n<=m/\V3 z.1 q B s at_ [] z.2 pl e/\z.2.length<=N/\(∀o y,o<B->G o=some y->z.1 o=some y)/\KW z.2=L
theorem bX{G:Hp}{n q B:Nat}{s:ByteArray}{at_ l e:Int}{bs:List UInt8}{ps:List CH}(S:V3 G q B s at_ bs ps l e)(hb:bs.length<=1048576)(hps:ps.length<=1048576):
 BF prog 322 [.ptr q 0] G n (bK q B s G n λJ K D N V=>J=at_/\K=[]/\(KW D=KW ps++VR bs/\D.length<=ps.length+1)/\N=l/\V=e):=by
 refine E8 func322 rfl λC=>?_;obtain⟨p,ob,op,S⟩:=S;have hqn:q<n:=(C q _ S.cells).1;by_cases c:bs=[];refine Ai 0 [(0,.ptr q 0),(6,.bool false)] G n ?_ (λm hm=>?_);simp[go_sem];refine qI (gg S.cells S.b0) ?_;rintro v u n' ⟨rfl,rfl,rfl⟩;simp[go_sem,Or,c];subst hm;refine AJ ?_;simp[go_sem];exact .inl ⟨at_,[],ps,l,e,⟨rfl,rfl,⟨by rw[c];simp[VR],by omega⟩,rfl,rfl⟩,⟨p,ob,op,by rw[<-c];exact S⟩,λo y _ h=>h,IO _⟩
 . refine Ai 0 [(0,.ptr q 0),(6,.bool true)] G n ?_ (λm hm=>?_);simp[go_sem];refine qI (gg S.cells S.b0) ?_;rintro v u n' ⟨rfl,rfl,rfl⟩;have:0<bs.length:=by cases bs<;>simp at c ⊢
   simp[go_sem,Or,this];subst hm;refine Av (b:=true) nP ?_;simp only[if_true];cases ob with
   | none=>exact absurd (S.b0 rfl) c
   | some j=>
   obtain⟨j1,P,Y,Q⟩:=S.b1 j rfl;have hjn:j<n:=(C j _ Q).1;have d:=S.cells;have F:q≠j:=Ne.symm P;have I:q≠n:=by omega
   have w:q≠n+1:=by omega
   obtain⟨x,O⟩:∃x:CH,x=⟨⟨bs.toArray⟩,0,false⟩:=⟨_,rfl⟩
   obtain⟨E,L⟩:∃E,E=(ps++[x]).map CH.h:=⟨_,rfl⟩
   have hle:=S.le;refine AR 0 (α:=Hp×Nat) (λ_=>[(0,.ptr q 0)]) (λz=>z.1) (jS G B q n (λk=>[.str s,AA at_,p,FK (some j) bs,AQ 3 (some k) E,AA l,AA e]) E)
    (CJ fA rfl nQ nQ ?_) (λz m hm=>?_)
   have r:∀(X:Hp)(k p:Nat),X k=some (.cells [.str ⟨bs.toArray⟩,AA 0,.bool false])->(∀j,op=some j->X j=some (.cells ((ps.map CH.h).flatMap SV.cells)))->_:=λX k p g1 g=>fm (x:=x) (p:=p) S.o0 (by rw[O];exact g1) g nN;have t:∀(X:Hp),X q=some (.cells [.str s,AA at_,p,FK (some j) bs,.sl (n+1) 0 3 (ps.length+1) false,AA l,AA e] (some 378))->X (n+1)=some (.cells ((ps.map CH.h).flatMap SV.cells++x.h.cells))->(∀o y,o<B->G o=some y->X o=some y)->
    jS G B q n (λk=>[.str s,AA at_,p,FK (some j) bs,AQ 3 (some k) E,AA l,AA e]) E (X,n+1) (n+2):=λX g1 g g3=>⟨by omega,by show X q=_;rw[g1,L];simp[AQ],by show X (n+1)=_;rw[g,L];simp,by show n<=n+1;omega,by show n+1<n+2;omega,g3⟩
   have step:Ab (BU.plain.call false 0) prog 64 [.ptr q 2] G n (λv h' n'=>v=.str ⟨bs.toArray⟩/\h'=h_ G j none/\n=n'):=qI (lZ d Q P Y nN) λv h' n' ⟨a,b,c⟩=>⟨a,b,c.symm⟩
   cases op with
   | none =>
    have f:∃a,(∃x_1,jS G B q n (λk=>[.str s,AA at_,p,FK (some j) bs,AQ 3 (some k) E,AA l,AA e]) E (a,x_1) (n+1+1))/\∀(o:Nat)(y:A7),a o=some y->h_ (h_ (h_ (h_ G j none) n (some (A7.cells [.str ⟨bs.toArray⟩,AA 0,.bool false]))) (n+1) (some (.cells (List.flatMap SV.cells (List.map CH.h ps)++x.h.cells)))) q (some (.cells [.str s,AA at_,p,FK (some j) bs,.sl (n+1) 0 3 (ps.length+1) false,AA l,AA e] (some 378))) o=some y:=
     ⟨_,⟨_,t _ (AC _ _ _) ((AB _ _ (Ne.symm w)).trans (AC _ _ _)) λo y g1 g=>by have:=(C o y g).1;rw[AB _ _ nN,AB _ _ nN,AB _ _ nN,AB _ _ nN];exact g⟩,AE⟩
    simp[go_sem,fA,d];refine⟨?_,?_⟩;refine wn step ?_;rintro v u n' ⟨rfl,rfl,rfl⟩;simp[go_sem,r,AC,AB,d,F,I,w];exact f;refine wn step ?_;rintro v u n' ⟨rfl,rfl,rfl⟩;simp[go_sem,r,AC,AB,d,F,I,w];exact f
   | some i =>
    obtain⟨i1,W,i3,i4⟩:=S.o1 i rfl;have hin:i<n:=(C i _ i4).1;have A:i≠j:=by rintro rfl;exact i3 rfl
    have T:i≠n:=by omega
    have U:q≠i:=Ne.symm W;have f:∃a,(∃x_1,jS G B q n (λk=>[.str s,AA at_,p,FK (some j) bs,AQ 3 (some k) E,AA l,AA e]) E (a,x_1) (n+1+1))/\∀(o:Nat)(y:A7),a o=some y->h_ (h_ (h_ (h_ (h_ G j none) n (some (A7.cells [.str ⟨bs.toArray⟩,AA 0,.bool false]))) i none) (n+1) (some (.cells (List.flatMap SV.cells (List.map CH.h ps)++x.h.cells)))) q (some (.cells [.str s,AA at_,p,FK (some j) bs,.sl (n+1) 0 3 (ps.length+1) false,AA l,AA e] (some 378))) o=some y:=
     ⟨_,⟨_,t _ (AC _ _ _) ((AB _ _ (Ne.symm w)).trans (AC _ _ _)) λo y g1 g=>by have:=(C o y g).1;rw[AB _ _ nN,AB _ _ nN,AB _ _ nN,AB _ _ nN,AB _ _ nN];exact g⟩,AE⟩
    simp[go_sem,fA,d];refine⟨?_,?_⟩;refine wn step ?_;rintro v u n' ⟨rfl,rfl,rfl⟩;simp[go_sem,r,AC,AB,d,F,I,w,T,U,A,i4];exact f;refine wn step ?_;rintro v u n' ⟨rfl,rfl,rfl⟩;simp[go_sem,r,AC,AB,d,F,I,w,T,U,A,i4];exact f
   obtain⟨H,k⟩:=z;obtain⟨m1,m2,M,Z,m5,R⟩:=hm;dsimp only at m2 M Z R ⊢;rw[L]at m2 M;refine AJ ?_;simp[go_sem];refine qI (la m2) ?_;rintro v u n' ⟨rfl,rfl,rfl⟩;simp[go_sem];have:=S.le;refine .inl ⟨at_,[],ps++[x],l,e,⟨rfl,rfl,?_,rfl,rfl⟩,⟨.nilp,none,some k,⟨S.le,by rw[AC];simp[FK,AQ],.inl rfl,λ_=>rfl,by simp,by simp,?_⟩⟩,λo y g1 g=>?_,by omega⟩;exact⟨by rw[O];simp[KW,VR,c],by simp⟩;rintro i hi;cases hi;exact⟨by omega,by omega,by simp,by rw[AB _ _ nN];exact M⟩;rw[AB _ _ nN];exact R o y g1 g
theorem bY{G:Hp}{n q B:Nat}{s:ByteArray}{at_ f e:Int}{bs:List UInt8}{ps:List CH}(S:V3 G q B s at_ bs ps f e)(k:Int)(hk:0<=k):
 BF prog 326 [.ptr q 0,AA k] G n (λv h' n'=>v=.bool (Wx s k)/\h'=G/\n'=n):=by
 refine E8 func326 rfl λho=>?_;obtain⟨p,ob,op,S⟩:=S;have a:=S.cells;refine AJ ?_;by_cases c:k<s.size;have hkl:k.toNat<s.size:=by omega
 obtain⟨x,b⟩:∃x,s[k.toNat]'hkl=x:=⟨_,rfl⟩
 have hb:s[k.toNat]? = some x:=by rw[WT hkl,b]
 have d:Wx s k=(decide ((49:Int)<=x.toNat)&&decide ((x.toNat:Int)<=57)):=by unfold Wx;rw[nS c,hb]
 by_cases c1:(49:Int)<=x.toNat;simp[go_sem,a,c,hk,b,c1];exact .inl ⟨by rw[d];simp[c1],rfl,rfl⟩;simp[go_sem,a,c,hk,b,c1];exact .inl ⟨by rw[d];simp[c1],rfl,rfl⟩;simp[go_sem,a,c];exact .inl ⟨by unfold Wx;rw[nR c],rfl,rfl⟩
theorem bZ{G:Hp}{n q B:Nat}{s:ByteArray}{at_ u e d:Int}{b:Bool}{bs:List UInt8}{ps:List CH}(S:V3 G q B s at_ bs ps u e)(hb:bs.length<=1048576)(T:ps.length<=1048576):
 BF prog 327 [.ptr q 0,.int .u8 d,.bool b] G n (bK q B s G n λN O K V e'=>N=at_/\O=[]/\(KW K=KW ps++(VR bs++[IntKind.i64.wrap (IntKind.u8.wrap (d-48))])/\K.length<=ps.length+2)/\V=IntKind.i64.wrap (u+1)/\e'=e):=by
 refine E8 func327 rfl λZ=>?_;refine EF 0 (α:=Hp×List CH) (λ_=>[(0,.ptr q 0),(1,.int .u8 d),(2,.bool b)]) (λz=>z.1) (jU G B q n s at_ u e (KW ps++VR bs) (ps.length+1)) ?_ (λz m hm=>?_);simp[go_sem];refine qI (bX S hb T) ?_;rintro v H' n' ⟨a1,a2,a3,a4,a5,⟨rfl,rfl,⟨rl,r3⟩,rfl,rfl⟩,r6,r7,r8⟩;simp[go_sem,Or];exact⟨H',⟨a3,r8,r6,r3,r7,rl⟩,AE⟩;obtain⟨X,c⟩:=z;obtain⟨hm,w,Q,A,C⟩:=hm;dsimp only at w Q A C ⊢;refine Pb λhX=>?_;have H:∀o y,X o=some y->o<m:=λo y e=>(hX o y e).1;refine EF 0 (α:=Hp×List CH) (λ_=>[(0,.ptr q 0)]) (λz=>z.1) (jU G B q n s at_ u e (KW ps++(VR bs++[IntKind.i64.wrap (IntKind.u8.wrap (d-48))])) (ps.length+2)) ?_ (λz m hm=>?_)
 . have hle0:=w.choose_spec.choose_spec.choose_spec.le;obtain⟨p,ob,op,w⟩:=w;cases ob with
   | some j=>exact absurd rfl (w.b1 j rfl).2.2.1
   | none=>
   have f:=w.cells;obtain⟨x,U⟩:∃x:CH,x=⟨.empty,IntKind.i64.wrap (IntKind.u8.wrap (d-48)),b⟩:=⟨_,rfl⟩
   have D:∀(X:Hp)(k p:Nat),X k=some (.cells [.str .empty,AA (IntKind.i64.wrap (IntKind.u8.wrap (d-48))),.bool b])->(∀j,op=some j->X j=some (.cells ((c.map CH.h).flatMap SV.cells)))->_:=λX k p g1 r=>fm (x:=x) (p:=p) w.o0 (by rw[U];exact g1) r nN;have hqm:q<m:=H q _ f;have x2:q≠m:=by omega
   have M:q≠m+1:=by omega
   have I:∀(Y:Hp),Y q=some (.cells [.str s,AA at_,p,FK none [],.sl (m+1) 0 3 (c.length+1) false,AA u,AA e] (some 378))->Y (m+1)=some (.cells ((c.map CH.h).flatMap SV.cells++x.h.cells))->V3 Y q B s at_ [] (c++[x]) u e:=λY g1 r=>
    ⟨p,none,some (m+1),w.le,by rw[g1];simp[AQ],w.p,λ_=>rfl,by simp,by simp,by rintro i hi;cases hi;exact⟨by omega,by omega,by simp,by rw[r];simp⟩⟩
   cases op with
   | none =>
    have t:∃a,(∃x_1,jU G B q n s at_ u e (KW ps++(VR bs++[IntKind.i64.wrap (IntKind.u8.wrap (d-48))])) (ps.length+2) (a,x_1) (m+1+1))/\∀(o:Nat)(y:A7),a o=some y->h_ (h_ (h_ X m (some (A7.cells [.str .empty,AA (IntKind.i64.wrap (IntKind.u8.wrap (d-48))),.bool b]))) (m+1) (some (.cells (List.flatMap SV.cells (List.map CH.h c)++x.h.cells)))) q (some (.cells [.str s,AA at_,p,FK none [],.sl (m+1) 0 3 (c.length+1) false,AA u,AA e] (some 378))) o=some y:=
     ⟨_,⟨c++[x],by omega,I _ (AC _ _ _) ((AB _ _ (Ne.symm M)).trans (AC _ _ _)),by simp;omega,λo y g1 r=>by have:=(Z o y r).1;dsimp only;rw[AB _ _ nN,AB _ _ nN,AB _ _ nN];exact A o y g1 r,by rw[<-List.append_assoc,<-C,U];simp[KW]⟩,AE⟩
    simp[go_sem,f,AC,AB,x2,M,D];exact t
   | some i =>
    obtain⟨i1,L,i3,i4⟩:=w.o1 i rfl;have hin:i<m:=H i _ i4;have y1:i≠m:=by omega
    have y2:q≠i:=Ne.symm L;have t:∃a,(∃x_1,jU G B q n s at_ u e (KW ps++(VR bs++[IntKind.i64.wrap (IntKind.u8.wrap (d-48))])) (ps.length+2) (a,x_1) (m+1+1))/\∀(o:Nat)(y:A7),a o=some y->h_ (h_ (h_ (h_ X m (some (A7.cells [.str .empty,AA (IntKind.i64.wrap (IntKind.u8.wrap (d-48))),.bool b]))) i none) (m+1) (some (.cells (List.flatMap SV.cells (List.map CH.h c)++x.h.cells)))) q (some (.cells [.str s,AA at_,p,FK none [],.sl (m+1) 0 3 (c.length+1) false,AA u,AA e] (some 378))) o=some y:=
     ⟨_,⟨c++[x],by omega,I _ (AC _ _ _) ((AB _ _ (Ne.symm M)).trans (AC _ _ _)),by simp;omega,λo y g1 r=>by have:=(Z o y r).1;dsimp only;rw[AB _ _ nN,AB _ _ nN,AB _ _ nN,AB _ _ nN];exact A o y g1 r,by rw[<-List.append_assoc,<-C,U];simp[KW]⟩,AE⟩
    simp[go_sem,f,AC,AB,x2,M,D,y1,y2,i4];exact t
 obtain⟨X2,W⟩:=z;obtain⟨R,l,F,E,J⟩:=hm;dsimp only at l F E J ⊢;refine AJ ?_;obtain⟨p,ob,op,l⟩:=l;have P:=l.cells;simp[go_sem,P];have hle:=l.le;refine .inl ⟨at_,[],W,IntKind.i64.wrap (u+1),e,⟨rfl,rfl,⟨J,F⟩,rfl,rfl⟩,⟨p,ob,op,l.le,AC _ _ _,l.p,l.b0,λj g=>absurd rfl (l.b1 j g).2.2.1,l.o0,λj g=>?_⟩,λo y g1 r=>?_,R⟩;obtain⟨i1,L,i3,i4⟩:=l.o1 j g;exact⟨i1,L,i3,by rw[AB _ _ L];exact i4⟩;rw[AB _ _ nN];exact E o y g1 r
theorem ge{G:Hp}{n q B:Nat}{s:ByteArray}{at_ H e:Int}{bs:List UInt8}{ps:List CH}(S:V3 G q B s at_ bs ps H e)(h0:0<=at_)(h1:at_<s.size)(hs:s.size<=1048576)(hb:bs.length<=1048576)(K:ps.length<=1048576):
 BF prog 320 [.ptr q 0] G n (bK q B s G n (jw s at_ H e bs ps)):=by
 refine E8 func320 rfl λho=>?_;obtain⟨p0,ob0,op0,V⟩:=id S;have E:=V.cells;have Y:IntKind.i64.wrap (at_+1)=at_+1:=by rw[D5]<;>omega
 have N:IntKind.i64.wrap (at_+2)=at_+2:=by rw[D5]<;>omega
 have w3:IntKind.i64.wrap (at_+3)=at_+3:=by rw[D5]<;>omega
 obtain⟨O,j⟩:∃b,b=Gz (s.extract at_.toNat s.size) ⟨#[37,37]⟩:=⟨_,rfl⟩
 obtain⟨P,l⟩:∃b,b=Wx s (at_+1):=⟨_,rfl⟩
 obtain⟨I,r⟩:∃b,b=(Gz (s.extract at_.toNat s.size) ⟨#[37,100]⟩&&Wx s (at_+2)):=⟨_,rfl⟩
 have fin:∀(z:Hp)(m:Nat)(a1 W c M f k:Int)(d:List UInt8)(a:List CH)(p:SV)(ob op:Option Nat),jV z q B s a1 d a M W p ob op->(∀o y,o<B->G o=some y->z o=some y)->n<=m->jw s at_ H e bs ps c d a f k->
  Cb n (h_ z q (some (.cells [.str s,AA c,p,FK ob d,AQ 3 op (a.map CH.h),AA f,AA k] (some 378)))) m (.tup []) (bK q B s G n (jw s at_ H e bs ps)):=λz m a1 W c M f k d a p ob op T hk hm hR=>
  .inl ⟨c,d,a,f,k,hR,T.upd c f k,λo y g1 g2=>by have:=T.le;rw[AB _ _ nN];exact hk o y g1 g2,hm⟩
 refine AP ?_;refine AR 0 (α:=Unit) (λ_=>[(0,.ptr q 0),(5,.bool O)]) (λ_=>G) (λ_ m=>n<=m) (CJ iv rfl nQ nQ ?_) (λ_ m hm=>?_);have w:=gM (s.extract at_.toNat s.size) ⟨#[37,37]⟩;rw[<-j]at w;simp[go_sem,iv,E,h0];have:=Int.le_of_lt h1;simp[this];refine⟨?_,?_⟩ <;>
 . refine qO w ?_;simp[go_sem,Or]
 have i:O=true->at_+2<=s.size:=λg=>by
  rw[j]at g;have:=VW g;simp at this;have h9:(⟨#[37,37]⟩:ByteArray).size=2:=rfl;omega
 cases O with
 | true=>
  have D:=i rfl;refine Av (b:=true) nP ?_;simp only[if_true];refine Pb λU=>?_;refine EF 0 (α:=Hp) (λ_=>[(0,.ptr q 0)]) (λz=>z) (ZI G q B n s λc d a f k=>c=at_/\d=bs++[37]/\a=ps/\f=H/\k=e) ?_ (λz m hm=>?_);simp[go_sem];refine qI (show BF prog 321 [.ptr q 2,.int .u8 37] G _ _ from bW S U hb 37) ?_;rintro v A n' F;simp[go_sem,Or];exact⟨A,F.st hm,AE⟩;obtain⟨hm,a1,a2,a3,a4,a5,⟨rfl,rfl,rfl,rfl,rfl⟩,⟨p,ob,op,T⟩,hk⟩:=hm;refine AJ ?_;have J:=T.cells;simp[go_sem,J,N];exact fin _ _ _ _ _ _ _ _ _ _ _ _ _ T hk hm ⟨by unfold bw;rw[<-j];rfl,.inl ⟨by omega,D,rfl⟩,by simp,by omega⟩
 | false =>
  refine Av (b:=false) nP ?_;simp only[qq,if_false];refine Ao 0 [(0,.ptr q 0),(27,.bool P)] G n ?_ (λm hm=>?_);simp[go_sem,E,Y];refine qI (bY S (at_+1) nN) ?_;rintro v A n' ⟨rfl,rfl,rfl⟩;rw[<-l];simp[go_sem,Or,hm];have i:P=true->at_+1<s.size:=λg=>by rw[l]at g;exact Wy g
  cases P with
  | true=>
   have D:=i rfl;refine Av (b:=true) nP ?_;simp only[if_true];refine AR 0 (α:=Hp) (λ_=>[(0,.ptr q 0)]) (λz=>z) (ZI G q B n s λc d a f k=>c=at_/\d=[]/\(KW a=KW ps++(VR bs++[RV s (at_+1)])/\a.length<=ps.length+2)/\f=IntKind.i64.wrap (H+1)/\k=e) (CJ bC rfl nQ nQ ?_) (λz m hm=>?_);have hkl:(at_+1).toNat<s.size:=by omega
   obtain⟨x,L⟩:∃x,s[(at_+1).toNat]'hkl=x:=⟨_,rfl⟩
   have t:s[(at_+1).toNat]? = some x:=by rw[WT hkl,L]
   have C:0<=at_+1:=by omega
   have u:IntKind.i64.wrap (IntKind.u8.wrap ((x.toNat:Int)-48))=RV s (at_+1):=by unfold RV;rw[t]
   simp[go_sem,bC,E,Y,C,t];refine⟨?_,?_⟩ <;>
   . refine qI (bZ S hb K) ?_;rintro v A n' F;rw[u]at F;simp[go_sem,Or];exact⟨A,F.st hm,AE⟩
   obtain⟨hm,a1,a2,a3,a4,a5,⟨rfl,rfl,⟨hv,R⟩,rfl,rfl⟩,⟨p,ob,op,T⟩,hk⟩:=hm;refine AJ ?_;have J:=T.cells;simp[go_sem,J,N];exact fin _ _ _ _ _ _ _ _ _ _ _ _ _ T hk hm ⟨by unfold bw;rw[<-j,<-l,hv];rfl,.inl ⟨by omega,by omega,rfl⟩,by simp,R⟩
  | false =>
   refine Av (b:=false) nP ?_;simp only[qq,if_false];refine AR 0 (α:=Unit) (λ_=>[(0,.ptr q 0),(54,.bool I)]) (λ_=>G) (λ_ m=>n<=m) (CJ iw rfl nQ nQ ?_) (λ_ m hm=>?_);have Q:=Int.le_of_lt h1;simp[go_sem,iw,E,h0,Q];refine⟨?_,?_⟩ <;>
   . refine qO (gM _ _) ?_;cases X:Gz (s.extract at_.toNat s.size) ⟨#[37,100]⟩with
     | false=>
      have:I=false:=by rw[r,X];rfl
      simp[go_sem,Or,hm,this]
     | true=>
      have Z:I=Wx s (at_+2):=by rw[r,X];rfl
      simp[go_sem,E,N];refine qI (bY S (at_+2) nN) ?_;rintro v A n' ⟨rfl,rfl,rfl⟩;rw[<-Z];simp[go_sem,Or,hm]
   have i:I=true->at_+2<s.size:=λg=>by
    rw[r,qh]at g;exact Wy g.2
   cases I with
   | true=>
    have D:=i rfl;refine Av (b:=true) nP ?_;simp only[if_true];refine AR 0 (α:=Hp) (λ_=>[(0,.ptr q 0)]) (λz=>z) (ZI G q B n s λc d a f k=>c=at_/\d=[]/\(KW a=KW ps++(VR bs++[RV s (at_+2)])/\a.length<=ps.length+2)/\f=IntKind.i64.wrap (H+1)/\k=e) (CJ bC rfl nQ nQ ?_) (λz m hm=>?_);have hkl:(at_+2).toNat<s.size:=by omega
    obtain⟨x,L⟩:∃x,s[(at_+2).toNat]'hkl=x:=⟨_,rfl⟩
    have t:s[(at_+2).toNat]? = some x:=by rw[WT hkl,L]
    have C:0<=at_+2:=by omega
    have u:IntKind.i64.wrap (IntKind.u8.wrap ((x.toNat:Int)-48))=RV s (at_+2):=by unfold RV;rw[t]
    simp[go_sem,bC,E,N,C,t];refine⟨?_,?_⟩ <;>
    . refine qI (bZ S hb K) ?_;rintro v A n' F;rw[u]at F;simp[go_sem,Or];exact⟨A,F.st hm,AE⟩
    obtain⟨hm,a1,a2,a3,a4,a5,⟨rfl,rfl,⟨hv,R⟩,rfl,rfl⟩,⟨p,ob,op,T⟩,hk⟩:=hm;refine AJ ?_;have J:=T.cells;simp[go_sem,J,w3];exact fin _ _ _ _ _ _ _ _ _ _ _ _ _ T hk hm ⟨by unfold bw;rw[<-j,<-l,<-r,hv];rfl,.inl ⟨by omega,by omega,rfl⟩,by simp,R⟩
   | false=>
    refine Av (b:=false) nP ?_;simp only[qq,if_false];refine AJ ?_;simp[go_sem,E];exact fin _ _ _ _ _ _ _ _ _ _ _ _ _ V (λ_ _ _ h=>h) hm ⟨by unfold bw;rw[<-j,<-l,<-r];rfl,.inr ⟨rfl,rfl⟩,by omega,by omega⟩
abbrev bL:=Int×List UInt8×List Int×Int×Int
def QQ(s:ByteArray)(z:bL):bL:=match s[z.1.toNat]? with
 | some x=>if((x.toNat:Int)==37)then bw s z.1 z.2.2.2.1 z.2.2.2.2 z.2.1 z.2.2.1 else(z.1+1,z.2.1++[x],z.2.2.1,z.2.2.2.1,z.2.2.2.2)
 | none=>(z.1+1,z.2)
def fR(s:ByteArray)(z:bL):Nat:=2*(s.size-z.1).toNat+(if z.2.2.2.2=0 then 1 else 0)
theorem eY{s:ByteArray}{z:bL}(h:z.1<s.size/\z.2.2.2.2=0):fR s (QQ s z)<fR s z:=by
 have one:∀y:bL,(z.1<y.1/\y.2.2.2.2=z.2.2.2.2)\/(y.1=z.1/\y.2.2.2.2≠0)->fR s y<fR s z:=λy g=>by
  unfold fR;rcases g with⟨g1,a⟩|⟨g1,a⟩
  rw[a];omega;rw[g1,nR a,nS h.2];omega
 refine one _ ?_;unfold QQ bw;split;split;split;exact .inl ⟨by dsimp only;omega,rfl⟩;split;exact .inl ⟨by dsimp only;omega,rfl⟩;split;exact .inl ⟨by dsimp only;omega,rfl⟩;exact .inr ⟨rfl,by dsimp only;omega⟩;exact .inl ⟨by dsimp only;omega,rfl⟩;exact .inl ⟨by dsimp only;omega,rfl⟩
def fS(s:ByteArray)(z:bL):bL:=if _h:z.1<s.size/\z.2.2.2.2=0 then fS s (QQ s z)else z
termination_by fR s z
decreasing_by exact eY _h
def Yg(s:ByteArray):bL:=fS s (0,[],[],0,0)
def cC(s:ByteArray):List Int:=(Yg s).2.2.1++VR (Yg s).2.1
def cB(s:ByteArray):Int:=if(Yg s).2.2.2.2=0/\9<(Yg s).2.2.2.1 then 9 else(Yg s).2.2.2.2
def SnX(G:Hp)(q B n:Nat)(s:ByteArray)(z:Hp×Int×Int)(m:Nat):Prop:=ZI G q B n s (λat_ bs ps pl e=>SnR s z.2 at_ bs ps pl e/\fS s (at_,bs,KW ps,pl,e)=Yg s) z.1 m
def SnY(G:Hp)(q B n:Nat)(s:ByteArray)(z:Hp×Int×Int)(m:Nat):Prop:=ZI G q B n s (λat_ bs ps pl e=>SnR s z.2 at_ bs ps pl e/\(at_,bs,KW ps,pl,e)=Yg s) z.1 m
theorem gZ{G:Hp}{n q B:Nat}{s:ByteArray}(S:V3 G q B s 0 [] [] 0 0)(hs:s.size<=1024):
 BF prog 309 [.ptr q 0] G n (bK q B s G n λ_ _ d _ L=>d.length<=1048576/\KW d=cC s/\L=cB s):=by
 refine E8 func309 rfl λho=>?_;refine AR 0 (α:=Hp×Int×Int) (λ_=>[(0,.ptr q 0)]) (λz=>z.1) (SnY G q B n s) ?_ (λz m hm=>?_);refine AP (As 0 (α:=Hp×Int×Int) (λ_=>[(0,.ptr q 0)]) (λz=>z.1) (SnX G q B n s) (jW s) (G,0,0) ⟨IO _,0,[],[],0,0,⟨⟨rfl,rfl,by omega,by simp,by simp,by simp,by simp⟩,rfl⟩,S,λ_ _ _ h=>h⟩ ?_ AE ?_);simp[go_sem,look,Or];rintro⟨z,a0,e0⟩ m ⟨hm,at_,bs,ps,a,e,⟨⟨h1,h2,M,h4,R,h6,h7⟩,hw⟩,T,hk⟩;dsimp only at h1 h2 T hk ⊢;subst h1;subst h2;obtain⟨p,ob,op,T0⟩:=id T;have l:=T0.cells;by_cases c:at_<s.size/\e=0;obtain⟨c1,rfl⟩:=c;have hl:=R rfl;have hbl:bs.length<=1024/\ps.length<=2048:=by omega
 refine LO 0 [(0,.ptr q 0)] z m ?_ (λm3 hm3=>?_);refine AR 0 (α:=Unit) (λ_=>[(0,.ptr q 0),(18,.bool true)]) (λ_=>z) (λ_ m2=>m<=m2) (CJ Y4 rfl nQ nQ ?_) (λ_ m2 i=>?_);simp[go_sem,Y4,l,c1,Or];refine AJ ?_;simp[go_sem,Or,i];refine AP ?_;have hkl:at_.toNat<s.size:=by omega
 obtain⟨x,hx⟩:∃x,s[at_.toNat]'hkl=x:=⟨_,rfl⟩
 have C:s[at_.toNat]? = some x:=by rw[WT hkl,hx]
 obtain⟨b,hb⟩:∃b:Bool,b=((x.toNat:Int)==37):=⟨_,rfl⟩
 have O:fS s (if b then bw s at_ a 0 bs (KW ps)else(at_+1,bs++[x],KW ps,a,0))=Yg s:=by
  rw[<-hw,fS.eq_def s (at_,bs,KW ps,a,0),dif_pos ⟨c1,rfl⟩];unfold QQ;dsimp only;rw[C,hb]
 refine Bz 0 [(0,.ptr q 0)] z (λm2=>m<=m2/\b=false) ?_ (λm4 r=>?_);refine AR 0 (α:=Unit) (λ_=>[(0,.ptr q 0),(28,.bool b)]) (λ_=>z) (λ_ m4=>m3<=m4) (CJ iz rfl nQ nQ ?_) (λ_ m4 r=>?_);simp[go_sem,iz,l,M,C,Or];exact by rw[hb];exact Or
 refine AJ ?_;cases b with
 | false=>simp[go_sem,Or];omega
 | true=>
  simp[go_sem];refine qI (ge T M c1 nN nN nN) ?_;rintro v I n' ⟨a1,a2,a3,a4,a5,⟨hpc,Z,r2,r3⟩,r6,r7,r8⟩;simp[go_sem,Or];have X:∀o y,o<B->G o=some y->I o=some y:=λo y g1 j=>r7 o y g1 (hk o y g1 j);refine⟨I,a1,a5,?_,⟨by omega,a1,a2,a3,a4,a5,⟨⟨rfl,rfl,by omega,by omega,λg=>by omega,by omega,by omega⟩,by rw[hpc];exact O⟩,r6,X⟩,AE⟩;rcases Z with⟨g1,j,rfl⟩|⟨rfl,rfl⟩
  simp[jW];omega;simp[jW]
 obtain⟨r,rfl⟩:=r;refine Pb λY=>?_;refine AR 0 (α:=Hp) (λ_=>[(0,.ptr q 0)]) (λy=>y) (ZI z q B m s λP Q d H L=>P=at_/\Q=bs++[x]/\d=ps/\H=a/\L=0) (CJ i6 rfl nQ nQ ?_) (λy m5 N=>?_);simp[go_sem,i6,l,M,C];refine⟨?_,?_⟩ <;>
 . refine qI (bW T Y nN x) ?_;rintro v I n' hq;simp[go_sem,Or];exact⟨I,hq.st r,AE⟩
 obtain⟨N,a1,a2,a3,a4,a5,⟨rfl,rfl,rfl,rfl,rfl⟩,⟨p1,E,F,k⟩,f⟩:=N;have hT:=k.cells;have w1:IntKind.i64.wrap (a1+1)=a1+1:=by rw[D5]<;>omega
 refine AJ ?_;simp[go_sem,hT,w1,Or];refine⟨_,a1+1,0,by simp[jW];omega,⟨by omega,a1+1,bs++[x],a3,a4,0,⟨⟨rfl,rfl,by omega,by omega,λ_=>by simp;omega,by simp;omega,by omega⟩,O⟩,k.upd (a1+1) a4 0,λo w g1 j=>?_⟩,AE⟩;have:=k.le;exact(AB _ _ (show o≠q by omega)).trans (f o w g1 (hk o w g1 j));refine Bz 0 [] z (λ_=>False) ?_ (λ_ U=>U.elim);refine AR 0 (α:=Unit) (λ_=>[(0,.ptr q 0),(18,.bool false)]) (λ_=>z) (λ_ m2=>m<=m2) (CJ Y4 rfl nQ nQ ?_) (λ_ m2 i=>?_);by_cases c1:at_<s.size;have A:¬e=0:=λg=>c ⟨c1,g⟩;have c3:(e==0)=false:=by simpa using A
 simp[go_sem,Y4,l,c1,c3,Or];simp[go_sem,Y4,l,c1,Or];refine AJ ?_;simp[go_sem,Or];have U:(at_,bs,KW ps,a,e)=Yg s:=by rw[<-hw,fS.eq_def,dif_neg c]
 exact⟨z,⟨at_,e,by omega,at_,bs,ps,a,e,⟨⟨rfl,rfl,M,h4,R,h6,h7⟩,U⟩,T,hk⟩,AE⟩;obtain⟨z,a0,e0⟩:=z;obtain⟨hm,at_,bs,ps,a,e,⟨⟨h1,h2,M,h4,R,h6,h7⟩,hw⟩,T,hk⟩:=hm;dsimp only at h1 h2 T hk ⊢;refine EF 0 (α:=Hp) (λ_=>[(0,.ptr q 0)]) (λy=>y) (ZI z q B m s λ_ _ d H L=>d.length<=1048576/\KW d=cC s/\H=(Yg s).2.2.2.1/\L=(Yg s).2.2.2.2) ?_ (λy m2 i=>?_);simp[go_sem];refine qI (bX T nN nN) ?_;rintro v I n' ⟨b1,J,K,t,u,⟨r1,r2,⟨rl,r3⟩,r4,r5⟩,r6,r7,r8⟩;simp[go_sem,Or];exact⟨I,⟨r8,b1,J,K,t,u,⟨by omega,by rw[rl,cC,<-hw],by rw[r4,<-hw],by rw[r5,<-hw]⟩,r6,r7⟩,AE⟩;obtain⟨i,b1,J,K,t,u,⟨D,V,hP,hE⟩,⟨p1,E,F,k⟩,f⟩:=i;have W:cB s=if u=0/\9<t then 9 else u:=by rw[cB,<-hP,<-hE]
 have l:=k.cells;refine AJ ?_;by_cases c1:u=0;by_cases A:9<t;simp[go_sem,l,c1,A];refine .inl ⟨b1,J,K,t,9,⟨D,V,by rw[W,nS ⟨c1,A⟩]⟩,k.upd b1 t 9,λo y g1 j=>?_,by omega⟩;have:=k.le;rw[AB _ _ nN];exact f o y g1 (hk o y g1 j);simp[go_sem,l,c1,A];exact .inl ⟨b1,J,K,t,u,⟨D,V,by rw[W,nR λg=>A g.2]⟩,⟨p1,E,F,k⟩,λo y g1 j=>f o y g1 (hk o y g1 j),by omega⟩;simp[go_sem,l,c1];exact .inl ⟨b1,J,K,t,u,⟨D,V,by rw[W,nR λg=>c1 g.1]⟩,⟨p1,E,F,k⟩,λo y g1 j=>f o y g1 (hk o y g1 j),by omega⟩
def gP(s:ByteArray):Bool:=MT (λi=>match(s.data.toList.map λx=>(x.toNat:Int))[i]? with|some b=>decide (b<32)||decide (b=127)|none=>false) (s.data.toList.map λx=>(x.toNat:Int)).length
def V6(s:ByteArray):Int:=if(64:Int)<s.size then 10 else if Cj s=false then 12 else if gP s=true then 5 else cB s
def PaX(s:ByteArray)(v:SV):Prop:=∃ps:List CH,v=.tup [.x 3 (ps.map CH.h) false,AA (V6 s)]/\ps.length<=1048576/\(V6 s=0->KW ps=cC s)
theorem io(s:ByteArray)(O:s.size<=1048576):TC 282 [.str s] (PaX s):=by
 intro h n;refine E8 func282 rfl λI=>?_;have out:∀(H:Hp)(m:Nat)(e:Int),e=V6 s->e≠0->(∀j y,h j=some y->H j=some y)->Cb n H m (.tup [.x 0 [] true,AA e]) (λv h' n'=>PaX s v/\h'=h/\n'=n):=λH m e M G hh=>
  b9 2 I hh (v:=.tup [.x 3 [] false,AA e]) (.inr ⟨Iv nO,Or,trivial⟩) (by simp[C_,c_]) ⟨[],by rw[M];rfl,by simp,λg=>absurd (M.trans g) G⟩
 refine Ao 0 [(0,.str s)] h n ?_ (λm hm=>?_);simp[go_sem,Or];refine AR 0 (α:=Unit) (λ_=>[(0,.str s)]) (λ_=>h) (λ_ m=>n<=m/\s.size<=64/\V6 s=cB s) (AP ?_) (λ_ m hm=>?_)
 . by_cases a1:(64:Int)<s.size;refine AJ ?_;simp[go_sem,a1];exact out _ _ 10 (by unfold V6;rw[nS a1]) (by decide) AE;have N:s.size<=64:=by omega
   refine AJ ?_;simp[go_sem,a1];refine(WX s nN).use ?_;cases hv:Cj s with
   | false=>
    simp[go_sem];exact out _ _ 12 (by unfold V6;rw[nR a1,nS hv]) (by decide) AE
   | true=>
   simp[go_sem];have D:∀b:List UInt8,b.map EJ=(b.map λx=>(x.toNat:Int)).map Je:=λb=>by rw[wo];rfl
   refine Vm (s:=s) (e:=5) rfl nP nP nP rfl ?_;rw[D];have t:s.data.toList.length=s.size:=by rw[wa];rfl
   have d:=lG (s.data.toList.map λx=>(x.toNat:Int)) (by simp[t];omega) 308 [] [] (λi=>match(s.data.toList.map λx=>(x.toNat:Int))[i]? with|some b=>decide (b<32)||decide (b=127)|none=>false) (λi hi=>by rw[qm hi];exact lH _);obtain⟨b,hb⟩:∃b,b=gP s:=⟨_,rfl⟩
   have Ig:MT (λi=>match(s.data.toList.map λx=>(x.toNat:Int))[i]? with|some b=>decide (b<32)||decide (b=127)|none=>false) (s.data.toList.map λx=>(x.toNat:Int)).length=b:=by rw[hb];rfl
   rw[Ig]at d;generalize(s.data.toList.map λx=>(x.toNat:Int)).map Je=L at d ⊢;simp[go_sem];refine qO d ?_;cases b with
   | true=>
    simp[go_sem];exact out _ _ 5 (by unfold V6;rw[nR a1,nR (by rw[hv];decide),nS hb.symm]) (by decide) AE
   | false=>
    simp[go_sem,Or,hm,N];unfold V6;rw[nR a1,nR (by rw[hv];decide),nR (by rw[<-hb];decide)]
 obtain⟨hm,N,A⟩:=hm;refine Pb λq=>?_;refine EF 0 (α:=Hp) (λ_=>[(4,.ptr m 0)]) (λz=>z) (λz m2=>m<m2/\V3 z m m s 0 [] [] 0 0/\∀o y,h o=some y->z o=some y) ?_ (λz m2 u=>?_);simp[go_sem,Or];exact⟨_,⟨⟨.nilp,none,none,IO _,AC _ _ _,.inl rfl,λ_=>rfl,by simp,λ_=>rfl,by simp⟩,AV (λj y e=>(q j y e).1) AE⟩,AE⟩;obtain⟨u,S,hk⟩:=u;refine AR 0 (α:=Hp) (λ_=>[(4,.ptr m 0)]) (λy=>y) (ZI z m m m2 s λ_ _ l _ C=>(l.length<=1048576/\KW l=cC s/\C=cB s)/\C=0) ?_ (λy P k=>?_);refine EF 0 (α:=Hp) (λ_=>[(4,.ptr m 0)]) (λy=>y) (ZI z m m m2 s λ_ _ l _ C=>l.length<=1048576/\KW l=cC s/\C=cB s) ?_ (λy P k=>?_);simp[go_sem];refine qI (gZ S nN) ?_;rintro v R n' X;simp[go_sem,Or];exact⟨R,X.st (IO _),AE⟩;obtain⟨k,b1,J,ps,K,e,a,⟨Q,B,c,T⟩,p⟩:=k;have r:=T.cells;have f:∀o w,h o=some w->y o=some w:=λo w g=>p o w (q o w g).1 (hk o w g);by_cases c1:e=0;refine AJ ?_;simp[go_sem,r,c1,Or];exact⟨y,⟨by omega,b1,J,ps,K,e,⟨a,c1⟩,⟨Q,B,c,T⟩,p⟩,AE⟩;have U:(e !=0)=true:=by simpa using c1
 refine A6 0 [(4,.ptr m 0),(26,.bool true)] y (λ_=>True) ?_ (λm4 _=>?_);simp[go_sem,r,U,Or];refine Av (b:=true) nP ?_;simp only[if_true];refine AR 0 (α:=Unit) (λ_=>[(2,.x 0 [] true),(3,AA e)]) (λ_=>y) (λ_ _=>True) (CJ iy rfl nQ nQ ?_) (λ_ m5 _=>?_);simp[go_sem,iy,r,Or];refine AJ ?_;simp[go_sem];exact out _ _ e (by rw[A];exact a.2.2) c1 f;obtain⟨k,b1,J,ps,K,e,⟨a,V⟩,⟨Q,B,c,T⟩,p⟩:=k;have E:(0:Int)=cB s:=by rw[<-a.2.2,V]
 have r:=T.cells;have f:∀o w,h o=some w->y o=some w:=λo w g=>p o w (q o w g).1 (hk o w g);refine AJ ?_;simp[go_sem,r];have W:BG n (P+(c.getD 0)+1) 3 c (ps.map CH.h):=⟨λe=>by rw[T.o0 e];rfl,λj e=>⟨by have:=(T.o1 j e).1;omega,by rw[e];simp;omega⟩,CH.size ps⟩
 have hh:∀j w,AS c (ps.map CH.h) h j=some w->y j=some w:=λj w g=>by
  cases c with
  | none=>exact f j w g
  | some i=>
   simp only[AS,h_]at g;split at g;rename_i F;subst F;rw[(T.o1 j rfl).2.2.2];exact g;exact f j w g
 exact b9 2 I f (v:=.tup [.x 3 (ps.map CH.h) false,AA 0]) (.inr ⟨AQ.fz I W hh,Or,trivial⟩) (by simp[C_,c_];exact EK.2 λs O=>by obtain⟨x,_,rfl⟩:=qb.1 O;rfl) ⟨ps,by rw[A,<-E],a.1,λ_=>a.2.1⟩
def cn(L:List Int)(k:Int):Bool:=MT (λi=>match L[i]? with|some x=>decide (k<x)|none=>false) L.length
def bi(s:ByteArray)(k:Int):Int:=if k<1\/9<k then 2 else if V6 s=0 then(if cn (cC s) k then 6 else 0)else V6 s
theorem kv(s:ByteArray)(t:s.size<=1048576)(k:Int):PC 249 [.str s,AA k] (AA (bi s k)):=by
 intro h n;refine E8 func249 rfl λl=>?_;have d:=l.lt;have out:∀(e:Int)(m:Nat),e=bi s k->Cb n h m (AA e) (Is (AA (bi s k)) h n):=λe m r=>An l rfl (by rw[r]);refine Ao 1 [(0,.str s),(3,.q [AA k])] h n ?_ (λm hm=>?_);simp[go_sem,Or];exact⟨Ak (Ac d (IO _)) (AC _ _ _),AV d AE⟩;refine Bz 0 [(0,.str s),(3,.q [AA k])] h (λm=>n<=m/\¬(k<1\/9<k)) (AJ ?_) (λm hm=>?_);by_cases a1:k<1;simp[go_sem,a1];exact out 2 _ (by unfold bi;rw[nS (.inl a1)]);by_cases a2:9<k;simp[go_sem,a1,a2];exact out 2 _ (by unfold bi;rw[nS (.inr a2)]);simp[go_sem,a1,a2,Or,hm];obtain⟨hm,hk⟩:=hm;refine AJ ?_;simp[go_sem];refine TC.use (io s t) ?_;rintro v ⟨ps,rfl,g,f⟩;by_cases c:V6 s=0;have a:=lB ps g 284 [] [.q [AA k]] (λi=>match ps[i]? with|some p=>decide (k<p.level)|none=>false) (λi hi=>by rw[qm hi];exact lC _ k);obtain⟨b,hb⟩:∃b,b=cn (cC s) k:=⟨_,rfl⟩
 have Ig:MT (λi=>match ps[i]? with|some p=>decide (k<p.level)|none=>false) ps.length=b:=by
  rw[hb,<-f c];unfold cn KW;rw[qj];congr 1;funext i;rw[vj];cases ps[i]? <;> rfl
 rw[Ig]at a;have j:bi s k=if b then 6 else 0:=by unfold bi;rw[nR hk,nS c,hb]
 simp[go_sem,c];refine qO a ?_;cases b;simp[go_sem];exact out 0 _ (by rw[j];rfl);simp[go_sem];exact out 6 _ (by rw[j];rfl);have o:(V6 s==0)=false:=by simpa using c
 simp[go_sem,o];exact out _ _ (by unfold bi;rw[nR hk,nR c])
def MP(l:List Al)(x:Al):Bool:=(decide (x.base≠0) && !SI l x.l x.base)||(decide (x.next≠0)&&(decide (x.l=2) || !SI l 1 x.next))
def ZQ{α:Type}(p:α->Bool)(l:List α)(i:Nat):Prop:=(l.take i).any p=false
theorem Rb{α:Type}(p:α->Bool)(l:List α):ZQ p l 0:=rfl
theorem Ra{α:Type}{p:α->Bool}{l:List α}{i:Nat}(hi:i<l.length)(h:ZQ p l i)(g:p l[i]=false):ZQ p l (i+1):=by
 unfold ZQ at h ⊢;rw[qa hi,List.any_append,h];simp[g]
theorem Ud{α:Type}{p:α->Bool}{l:List α}(h:ZQ p l l.length):¬l.any p=true:=by
 unfold ZQ at h;rw[qn]at h;rw[h];simp
theorem T3{α:Type}{p:α->Bool}{l:List α}{i:Nat}(hi:i<l.length)(h:p l[i]=true):l.any p=true:=List.any_eq_true.2 ⟨_,qp hi,h⟩
theorem ld(l:List Al)(hl:l.length<=1048576)(hs:∀x∈l,x.Q.length<=1048576):EC 139 [AW l]:=by
 obtain⟨F,hF⟩:=EC.fam (A:=λi=>[AW l,AA i]) (N:=l.length) (λi hi=>lh l hl hs i hi);obtain⟨V,hV⟩:∃V:Int,V=if(128:Int)<l.length then 9 else if CK F l.length≠0 then CK F l.length else if l.any (MP l)then 25 else if l.any (λx=>Qh l l.length x.id)then 16 else 0:=⟨_,rfl⟩
 refine⟨V,?_⟩;intro h n;refine lx func139 rfl nQ nQ nP λho B=>?_;have hHb:=ho.lt;obtain⟨G,hG⟩:∃G:Int->Hp,∀e,G e=h_ h (n+1) (some (.cells [AA e])):=⟨_,λ_=>rfl⟩
 have hGa:∀e,G e (n+1)=some (.cells [AA e]):=λe=>by rw[hG,AC]
 have hGs:∀e e',h_ (G e) (n+1) (some (.cells [AA e']))=G e':=λe e'=>by rw[hG,hG,AZ]
 have hGk:∀e j y,h j=some y->G e j=some y:=λe j y g=>by rw[hG,AB _ _ (by have:=hHb j y g;omega)];exact g
 have hGb:∀e j y,G e j=some y->j<n+2:=λe j y g=>by
  rw[hG]at g;simp only[h_]at g;split at g;omega;have:=hHb j y g;omega
 have out:∀(e:Int)(m:Nat),V=e->Cb n (G e) m (AA e) (Is (AA V) h n):=λe m he=>Rp (T:=λv=>v=AA V) ho (hGk e) (by simp[C_]) (by rw[he]);refine A6 1 [(1,.q [AW l]),(2,.ptr (n+1) 0)] (G 0) (λm=>n+1<m) ?_ (λm hm=>?_);rw[hG];simp[go_sem,Or];refine⟨Ak (by simp[h_];exact Ac hHb (IO _)) (by simp[h_]),λj y=>?_⟩;have:=hHb j y;simp only[h_];grind;refine Bz 0 [(1,.q [AW l]),(2,.ptr (n+1) 0)] (G 0) (λm=>n+1<m/\¬(128:Int)<l.length) (AJ ?_) (λm hm=>?_);by_cases a1:(128:Int)<l.length;simp[go_sem,a1,hGa,hGs];exact out _ _ (by rw[hV,nS a1]);simp[go_sem,a1,Or,hm];obtain⟨hm,a1⟩:=hm;rw[nR a1]at hV;refine Bz 0 [(1,.q [AW l]),(2,.ptr (n+1) 0)] (G 0) (λm=>n+1<m/\CK F l.length=0) ?_ (λm hm=>?_);refine A6 0 [(1,.q [AW l]),(2,.ptr (n+1) 0),(14,AA l.length),(15,AA 0)] (G 0) (λm=>n+1<m) ?_ (λm hm=>?_);simp[go_sem,Or,hm];refine AP (As 0 (α:=Nat) (λi=>[(1,.q [AW l]),(2,.ptr (n+1) 0),(14,AA l.length),(15,AA i)]) (λ_=>G 0) (λi m=>i<=l.length/\n+1<m/\CK F i=0) (λi=>l.length-i) 0 ⟨qi _,hm,rfl⟩ ?_ AE ?_);simp[go_sem,look,Or];rintro i m ⟨hi,hm,hI⟩;by_cases hlt:i<l.length;have w1:=wS i nN;refine AJ ?_;simp[go_sem,hlt];refine qO (hF i hlt) ?_;obtain⟨e,he⟩:∃e,F i=e:=⟨_,rfl⟩
 rw[he];by_cases e0:e=0;simp[go_sem,e0,w1,Or,-Int.natCast_add];exact⟨i+1,by omega,⟨by omega,hm,by rw[CK,nS hI,he,e0]⟩,rfl⟩;have e1:(e !=0)=true:=by simpa using e0
 have hne:F i≠0:=by rw[he];exact e0
 have ha:CK F l.length=e:=by rw[E4 F hlt hI hne,he]
 simp[go_sem,e1,hGa,hGs];exact out _ _ (by rw[hV,nS (by rw[ha];exact e0),ha]);refine AJ ?_;have e:i=l.length:=by omega
 subst e;simp[go_sem,Or,hm,hI];obtain⟨hm,a2⟩:=hm;rw[nR (by rw[a2];simp)]at hV;refine Bz 0 [(1,.q [AW l]),(2,.ptr (n+1) 0)] (G 0) (λm=>n+1<m/\ZQ (MP l) l l.length) ?_ (λm hm=>?_)
 . refine A6 0 [(1,.q [AW l]),(2,.ptr (n+1) 0),(25,AW l),(26,AA l.length),(27,AA 0)] (G 0) (λm=>n+1<m) ?_ (λm hm=>?_);simp[go_sem,Or,hm];refine AP (As 0 (α:=Nat) (λi=>[(1,.q [AW l]),(2,.ptr (n+1) 0),(25,AW l),(26,AA l.length),(27,AA i)]) (λ_=>G 0) (λi m=>i<=l.length/\n+1<m/\ZQ (MP l) l i) (λi=>l.length-i) 0 ⟨qi _,hm,Rb _ _⟩ ?_ AE ?_);simp[go_sem,look,Or];rintro i m ⟨hi,hm,hI⟩;by_cases hlt:i<l.length
   . have w1:=wS i nN;obtain⟨x,hx⟩:∃x,l[i]=x:=⟨_,rfl⟩
     obtain⟨X,hX⟩:∃X:SV,X=.q [AA x.id,AA x.l,.str x.name,AA x.base,AA x.next,AU x.Q]:=⟨_,rfl⟩
     refine A6 0 [(1,.q [AW l]),(2,.ptr (n+1) 0),(25,AW l),(26,AA l.length),(27,AA i),(28,.bool true)] (G 0) (λm=>n+1<m) ?_ (λm hm=>?_);simp[go_sem,Or,hm,hlt];refine A6 0 [(1,.q [AW l]),(2,.ptr (n+1) 0),(25,AW l),(26,AA l.length),(27,AA i)] (G 0) (λm=>n+1<m) ?_ (λm hm=>?_);simp[go_sem,Or,hm];refine AR 0 (α:=Unit) (λ_=>[(1,.q [AW l]),(2,.ptr (n+1) 0),(25,AW l),(26,AA l.length),(27,AA i)]) (λ_=>G 0) (λ_ m=>n+1<m/\MP l x=false) (AP ?_) (λ_ m hm=>?_)
     . refine A6 1 [(1,.q [AW l]),(2,.ptr (n+1) 0),(25,AW l),(26,AA l.length),(27,AA i),(6,X)] (G 0) (λm=>n+1<m) ?_ (λm hm=>?_);have hHm:∀j y,G 0 j=some y->j<m:=λj y e=>by have:=hGb 0 j y e;omega
       rw[hX];simp[go_sem,Or,hlt,hx,Al.h,AC];exact⟨by omega,Ak (Ac hHm (IO _)) (AC _ _ _),AV hHm (AV hHm AE)⟩;refine A6 0 [(1,.q [AW l]),(2,.ptr (n+1) 0),(25,AW l),(26,AA l.length),(27,AA i),(59,.bool (MP l x))] (G 0) (λm=>n+1<m) ?_ (λm hm=>?_)
       . rw[hX];obtain⟨q1,hq1⟩:∃q,SI l x.l x.base=q:=⟨_,rfl⟩
         obtain⟨q2,hq2⟩:∃q,SI l 1 x.next=q:=⟨_,rfl⟩
         have hbad:MP l x=((decide (x.base≠0) && !q1)||(decide (x.next≠0)&&(decide (x.l=2) || !q2))):=by rw[MP,hq1,hq2]
         have e208:∀(kd id:Int)(q:Bool),SI l kd id=q->∀{m:Nat} {K:SV->Hp->Nat->Prop},K (.bool q) (G 0) m->Ab (BU.plain.call true B) prog 187 [AW l,AA kd,AA id] (G 0) m K:=λkd id q e m K hK=>qO (kZ l kd id hl) (by rw[e];exact hK);have second:x.next=0\/(x.next≠0/\x.l=2)\/(x.next≠0/\x.l≠2):=by
          by_cases c1:x.next=0;exact .inl c1;by_cases c2:x.l=2;exact .inr (.inl ⟨c1,c2⟩);exact .inr (.inr ⟨c1,c2⟩)
         by_cases b0:x.base=0
         . rcases second with c1|⟨c1,c2⟩|⟨c1,c2⟩
           simp[go_sem,b0,c1,hbad,Or,hm]
           . have c1':(x.next !=0)=true:=by simpa using c1
             simp[go_sem,b0,c1,c1',c2,hbad,Or,hm]
           . have c1':(x.next !=0)=true:=by simpa using c1
             have c2':(x.l==2)=false:=by simpa using c2
             simp[go_sem,b0,c1',c2'];refine e208 _ _ _ hq2 ?_;cases q2<;>simp[go_sem,b0,c1,c2,hbad,Or,hm]
         . have b0':(x.base !=0)=true:=by simpa using b0
           simp[go_sem,b0'];refine e208 _ _ _ hq1 ?_;cases q1 with
           | false=>simp[go_sem,b0,hbad,Or,hm]
           | true=>
            rcases second with c1|⟨c1,c2⟩|⟨c1,c2⟩
            simp[go_sem,b0,c1,hbad,Or,hm]
            . have c1':(x.next !=0)=true:=by simpa using c1
              simp[go_sem,b0,c1,c1',c2,hbad,Or,hm]
            . have c1':(x.next !=0)=true:=by simpa using c1
              have c2':(x.l==2)=false:=by simpa using c2
              simp[go_sem,c1',c2'];refine e208 _ _ _ hq2 ?_;cases q2<;>simp[go_sem,b0,c1,c2,hbad,Or,hm]
       obtain⟨b,hb⟩:∃b,MP l x=b:=⟨_,rfl⟩
       rw[hb];refine AJ ?_;cases b with
       | true=>simp[go_sem,hGa,hGs];exact out _ _ (by rw[hV,nS (T3 hlt (by rw[hx];exact hb))])
       | false=>simp[go_sem,Or,hm]
     refine AJ ?_;simp[go_sem,w1,Or,-Int.natCast_add];exact⟨i+1,by omega,⟨by omega,hm.1,Ra hlt hI (by rw[hx];exact hm.2)⟩,rfl⟩
   refine AJ ?_;have e:i=l.length:=by omega
   subst e;simp[go_sem,Or,hm,hI]
 obtain⟨hm,a3⟩:=hm;rw[nR (Ud a3)]at hV;refine Bz 0 [(2,.ptr (n+1) 0)] (G 0) (λm=>n+1<m/\ZQ (λx=>Qh l l.length x.id) l l.length) ?_ (λm hm=>?_)
 . refine A6 0 [(1,.q [AW l]),(2,.ptr (n+1) 0),(61,AW l),(62,AA l.length),(63,AA 0)] (G 0) (λm=>n+1<m) ?_ (λm hm=>?_);simp[go_sem,Or,hm];refine AP (As 0 (α:=Nat) (λi=>[(1,.q [AW l]),(2,.ptr (n+1) 0),(61,AW l),(62,AA l.length),(63,AA i)]) (λ_=>G 0) (λi m=>i<=l.length/\n+1<m/\ZQ (λx=>Qh l l.length x.id) l i) (λi=>l.length-i) 0 ⟨qi _,hm,Rb _ _⟩ ?_ AE ?_);simp[go_sem,look,Or];rintro i m ⟨hi,hm,hI⟩;by_cases hlt:i<l.length
   . have w1:=wS i nN;obtain⟨x,hx⟩:∃x,l[i]=x:=⟨_,rfl⟩
     refine A6 0 [(1,.q [AW l]),(2,.ptr (n+1) 0),(61,AW l),(62,AA l.length),(63,AA i),(64,.bool true)] (G 0) (λm=>n+1<m) ?_ (λm hm=>?_);simp[go_sem,Or,hm,hlt];refine A6 0 [(1,.q [AW l]),(2,.ptr (n+1) 0),(61,AW l),(62,AA l.length),(63,AA i)] (G 0) (λm=>n+1<m) ?_ (λm hm=>?_);simp[go_sem,Or,hm];refine AR 0 (α:=Unit) (λ_=>[(1,.q [AW l]),(2,.ptr (n+1) 0),(61,AW l),(62,AA l.length),(63,AA i)]) (λ_=>G 0) (λ_ m=>n+1<m/\Qh l l.length x.id=false) (AP ?_) (λ_ m hm=>?_)
     . refine A6 1 [(1,.q [AW l]),(2,.ptr (n+1) 0),(61,AW l),(62,AA l.length),(63,AA i),(8,.q [AA x.id,AA x.l,.str x.name,AA x.base,AA x.next,AU x.Q])] (G 0) (λm=>n+1<m) ?_ (λm hm=>?_);have hHm:∀j y,G 0 j=some y->j<m:=λj y e=>by have:=hGb 0 j y e;omega
       simp[go_sem,Or,hlt,hx,Al.h,AC];exact⟨by omega,Ak (Ac hHm (IO _)) (AC _ _ _),AV hHm (AV hHm AE)⟩;refine A6 0 [(1,.q [AW l]),(2,.ptr (n+1) 0),(61,AW l),(62,AA l.length),(63,AA i),(8,.q [AA x.id,AA x.l,.str x.name,AA x.base,AA x.next,AU x.Q]),(9,.ptr m 0)] (h_ (G 0) m (some (.cells [AA 0]))) (λm2=>m<m2) ?_ (λm2 hm2=>?_);simp[go_sem,Or,AC,AZ];refine EF 0 (α:=Hp×Nat) (λz=>[(1,.q [AW l]),(2,.ptr (n+1) 0),(61,AW l),(62,AA l.length),(63,AA i),(9,.ptr m 0),(70,.fn (.func 248) [] [.q [AW l],.ptr z.2 0])]) (λz=>z.1) (λz m3=>m2<=z.2/\z.2<m3/\z.1 z.2=some (.cells [AA x.id])/\∀o y,h_ (G 0) m (some (.cells [AA 0])) o=some y->z.1 o=some y) ?_ (λz m3 hm3=>?_);simp[go_sem];refine qI (lU l x.id) ?_;rintro v H' n' ⟨k,rfl,g1,g2,g3,g4⟩;simp[go_sem,Or];exact⟨H',k,⟨g1,g2,g3,g4⟩,rfl,AE⟩;obtain⟨z,k⟩:=z;obtain⟨k1,k2,k3,k4⟩:=hm3;dsimp only at k1 k2 k3 k4 ⊢;refine AP ?_;refine He rfl rfl rfl λE1 yl R hY=>?_;have za:z (n+1)=some (.cells [AA 0]):=k4 _ _ (by rw[AB _ _ nN];exact hGa 0);have zm:z m=some (.cells [AA 0]):=k4 _ _ (AC _ _ _);let D:Nat->Prop:=λo=>o=n+1\/o=m\/o=m3;let J:Nat->Hp->Nat->Prop:=λc hh mm=>m3<mm/\c<=l.length/\hh (n+1)=some (.cells [AA 0])/\hh m=some (.cells [AA c])/\hh m3=some (.loop (R .ready none));let Jx:Hp->Nat->Prop:=λhh mm=>m3<mm/\hh (n+1)=some (.cells [AA 16])/\hh m3=some (.loop (R .done (some .ret)));have Y:YX E1 yl l.length J Jx D:=by
        refine⟨λc y hh mm hJ=>?_,?_,?_⟩;obtain⟨g0,gc,g1,g2,g3⟩:=hJ;have q1:n+1≠mm:=by omega
        have q2:m≠mm:=by omega
        have q3:m3≠mm:=by omega
        have q3':=q3.symm;have q4:m≠m3:=by omega
        have q5:n+1≠m3:=by omega
        have q6:n+1≠m:=by omega
        have w2:=wS c nN;refine hY _ _ _ _ g3 rfl (Lp ?_);by_cases hc:c+1<=l.length;have hc':¬(((l.length:Nat):Int)<((c+1:Nat):Int)):=by omega
        simp[go_sem,Ic,Al.h,AC,AB,g2,g3,q4,w2,hc',Ln,-Int.natCast_add];refine⟨by rw[AB _ _ q4.symm,AC],λo g1 g2=>?_,hc,?_⟩;have e1:o≠m:=λe=>g1 (.inr (.inl e));have e2:o≠m3:=λe=>g1 (.inr (.inr e));have e3:o≠mm:=by omega
        simp[h_,e1,e2];exact⟨by omega,hc,by simp[h_,q5,q6,g1],by simp[h_,q4],by simp[h_]⟩;have hc':(((l.length:Nat):Int)<((c+1:Nat):Int)):=by omega
        simp[go_sem,Ic,Al.h,AC,AB,g1,g2,g3,q4,q5,q6,w2,hc',Ln,-Int.natCast_add];refine⟨by rw[AB _ _ q5.symm,AB _ _ q4.symm,AC],λo g1 g2=>?_,?_⟩;have e0:o≠n+1:=λe=>g1 (.inl e);have e1:o≠m:=λe=>g1 (.inr (.inl e));have e2:o≠m3:=λe=>g1 (.inr (.inr e));have e3:o≠mm:=by omega
        simp[h_,e0,e1,e2];exact⟨by omega,by omega,by simp[h_,q5],by simp[h_]⟩;rintro c hh mm h' m' ⟨g0,gc,g1,g2,g3⟩ hmm hD;exact⟨by omega,gc,by rw[hD _ (.inl rfl)];exact g1,by rw[hD _ (.inr (.inl rfl))];exact g2,by rw[hD _ (.inr (.inr rfl))];exact g3⟩;rintro c hh mm ⟨g0,gc,g1,g2,g3⟩ o (rfl|rfl|rfl)<;>omega
       have hkm3:k≠m3:=by omega
       refine wn (gY Y l hl (id:=x.id) (k:=k) (by rw[AB _ _ hkm3];exact k3) (by rintro(g|g|g)<;>omega) ⟨by omega,qi _,by rw[AB _ _ nN];exact za,by rw[AB _ _ nN];exact zm,AC _ _ _⟩) ?_;rintro v h' m' ⟨hm',hfr,⟨hch,c,g0,gc,g1,g2,g3⟩|⟨hch,g0,g1,g3⟩⟩;refine⟨_,_,g3,by simp,?_⟩;simp[go_sem];refine⟨⟨by omega,hch⟩,λo y e=>?_⟩;have o1:o<n+2:=hGb 0 o y e;by_cases o2:o=n+1;subst o2;rw[AB _ _ nN,g1,<-e,hGa];rw[AB _ _ nN,hfr o (by rintro(g|g|g)<;>omega) nN nN,AB _ _ nN];exact k4 _ _ ((AB _ _ nN).trans e);refine⟨_,_,g3,by simp,?_⟩;simp[go_sem];rw[AB _ _ (by omega:n+1≠m3),g1];refine⟨_,rfl,Rp (T:=λv=>v=AA V) ho (λo y e=>?_) (by simp[C_]) (by rw[hV,nS (T3 hlt (by rw[hx];exact hch))])⟩;have o1:o<n:=hHb o y e;rw[AB _ _ nN,hfr o (by rintro(g|g|g)<;>omega) nN nN,AB _ _ nN];exact k4 _ _ ((AB _ _ nN).trans (hGk 0 _ _ e))
     refine AJ ?_;simp[go_sem,w1,Or,-Int.natCast_add];exact⟨i+1,by omega,⟨by omega,hm.1,Ra hlt hI (by rw[hx];exact hm.2)⟩,rfl⟩
   refine AJ ?_;have e:i=l.length:=by omega
   subst e;simp[go_sem,Or,hm,hI]
 obtain⟨hm,a4⟩:=hm;rw[nR (Ud a4)]at hV;refine AJ ?_;simp[go_sem,hGa,hGs];exact out _ _ hV
theorem lL(s:AO)(a:s.sizedT):PC 79 [s.h] (AA (bE s)):=
 WA (ld _ a.A a.Q)
  (lf _ a.L λi hi=>lj _ a.L i hi (ll _ (a.levels _ (qp hi)) λx b k=>⟨_,kv x.template (a.tpl _ (qp hi) x b) k⟩))
  a.C a.com
  (lg _ a.vars λi hi=>lm _ a.vars a.var i hi)
section
variable{K K':Ck}(h0:K.m0=K'.m0)(h1:K.m1=K'.m1)(h2:K.m2=K'.m2)
include h0 h1
theorem Ro:Hw K=Hw K':=by funext a b;unfold Hw;rw[h0,h1]
include h2
theorem Lb:D9 K=D9 K':=by
 have d:MZ K=MZ K':=by funext a b;unfold MZ;rw[Ro h0 h1]
 have e:GO K=GO K':=by funext a;unfold GO;rw[h2]
 have f:Jb K=Jb K':=by funext a b;unfold Jb;rw[h2]
 have g:MY K=MY K':=by funext a b c;unfold MY;rw[h2,Ro h0 h1]
 funext a b;unfold D9;rw[d,e,f,g]
theorem Sy:∀(N:Nat)(a:C8)(l:List AD),gN K N a l↔gN K' N a l
 | 0,_,_=>Iff.rfl
 | N+1,a,l=>by
  have e:=Lb h0 h1 h2;have g:=Sy N;simp only[gN,e,g]
end
def Kd(d:AH):Ck:=⟨0,0,0,0,0,0,MH d.S.A d.S.A.length,BD [] (d.S.L.map (·.id)),BD [] (d.V.map (·.id))⟩
structure D8(N:Nat)(d:AH):Prop where
 S:bE d.S=0
 V:FX d.V=0
 endH:D9 (Kd d) 3 d.T0 = 0
 endI:d.T0.I=0
 endM:d.T0.move=0
 endD:d.T0.Y=[]
 W:gN (Kd d) N ⟨true,false,0⟩ d.W
 ids:Ci [] (Kq N d.W)
 units:IntKind.i64.wrap (ZS N d.W)<=16384
def cQ(T:Prop)(v:SV):Prop:=∃e:Int,v=AA e/\(e=0↔T)
theorem FD{a b:Int}:BH [a,b]=0↔a=0/\b=0:=by
 simp only[BH];by_cases c:a=0<;>by_cases hb:b=0<;>simp[c,hb]
theorem nB(d:AH){B N:Nat}(hB:B<=1048576)(hl:lim AF.D B N d.W)(he:d.T0.D)(h1:d.S.A.length<=1048576)(h2:d.S.L.length<=1048576)(h3:d.V.length<=1048576)(h4:∀r∈d.V,r.O.size<=1048576)
 (h83:PC 79 [d.S.h] (AA (bE d.S))):TC 26 [d.h] (cQ (D8 N d)):=by
 intro h n;refine E8 func26 rfl λho=>?_;have hHb:=ho.lt;obtain⟨X,hX⟩:∃X:SV,X=.q ([AI d.W]++d.T0.j++[Cq d.V]++d.S.j):=⟨_,rfl⟩
 obtain⟨T,hT⟩:∃T:Prop,T=D8 N d:=⟨_,rfl⟩
 rw[<-hT];have no:∀(e:Int)(H2:Hp)(m:Nat),e≠0->¬T->(∀j y,h j=some y->H2 j=some y)->Cb n H2 m (AA e) (λv h' n'=>cQ T v/\h'=h/\n'=n):=λe H2 m he hb hh=>Rp ho hh (by simp[C_]) ⟨e,rfl,λg=>absurd g he,λg=>absurd g hb⟩;refine Ao 1 [(1,X)] h n ?_ (λm hm=>?_);rw[hX];simp[go_sem,AH.h,AF.j,AO.j];exact⟨Ak (Ac hHb (IO _)) (AC _ _ _),AV hHb AE⟩;refine Bz 0 [(1,X)] h (λm=>n<=m/\bE d.S=0/\FX d.V=0) ?_ (λm hm=>?_)
 . refine AR 0 (α:=Int) (λe=>[(1,X),(3,AA e)]) (λ_=>h) (λe m=>n<=m/\e=BH [bE d.S,FX d.V]) (CJ ip rfl nQ nQ ?_) (λe m hm=>?_);have hHm:∀j y,h j=some y->j<m:=λj y e=>by have:=hHb j y e;omega
   rw[hX];simp[go_sem,ip,AF.j,AO.j];refine qO (by simpa[AO.h,AO.j]using h83) ?_;generalize bE d.S=e;simp[go_sem];refine(c84 d.V h3 h4).use ?_;generalize FX d.V=e2;simp[go_sem];refine wT (bs:=[.x 1 ([e,e2].map AA) false]) (h2:=h) 1 (AV hHm AE) ⟨?_,trivial⟩ ?_;exact Ez (es:=[AA e,AA e2]) (Ac hHm (IO _)) nO (by rw[AC];simp[SV.cells]) (by simp[SV.B,SV.cells]);refine(SY _ nO).use ?_;generalize BH [e,e2]=ef;simp[go_sem,Or]
   first|exact⟨ef,⟨by omega,rfl⟩,Or⟩|exact⟨by omega,Or⟩|(trace_state;omega)
   obtain⟨hm,hef⟩:=hm;by_cases e0:e=0
   case neg=>exact AJ (by simp[go_sem,e0];exact no e _ _ e0 (λg=>e0 (by rw[hT]at g;rw[hef];exact FD.2 ⟨g.S,g.V⟩)) AE)
   have hrv:=FD.1 (hef▸e0);rw[e0];exact AJ (by simp[go_sem,Or,hm,hrv])
 obtain⟨hm,h8,hrv⟩:=hm;refine EF 0 (α:=Ck) (λq=>[(1,X),(4,.ptr q.p 0)]) (λq=>Aq q.st ([],0) h) (λq m=>n<=m/\q.ok m/\q.m2=(Kd d).m2/\q.m0=(Kd d).m0/\q.m1=(Kd d).m1/\∀o y,q.st ([],0) o=some y->n<=o) ?_ (λK n1 hq=>?_);rw[hX];simp[go_sem,AF.j,AO.j];refine qI (by simpa[AH.h,AF.j,AO.j]using lb d h1 h2 h3 (h:=h) (n:=m)) ?_;rintro v H' n' ⟨K,a1,a2,rfl,a4,a5,b0,b1,a6,a7⟩;simp[go_sem,Or];refine⟨K,⟨by omega,a1,a5,b0,b1,λo y e=>by have:=a7 o y e;omega⟩,Or,λo y e=>?_⟩;simp only[Aq]at e;cases c:K.st ([],0) o with
 | some z=>rw[c]at e;cases e;exact a4 o y c
 | none=>rw[c]at e;exact a6 o y e
 obtain⟨hn1,hK,hm2,hm0,hm1,hlo⟩:=hq;have D:=hK.clo;have hlos:∀s' o y,K.st s' o=some y->n<=o:=λs' o y e=>by
  cases c:K.st ([],0) o with
  | some z=>exact hlo o z c
  | none=>rw[D.dom ([],0) s' o c]at e;cases e
 have Ar:∀s',∀j y,h j=some y->Aq K.st s' h j=some y:=λs' j y e=>by
  simp only[Aq];cases c:K.st s' j with
  | some z=>have:=hlos s' j z c;have:=hHb j y e;omega
  | none=>exact e
 have hUb:∀s' j y,Aq K.st s' h j=some y->j<n1:=λs' j y e=>(D.old s' (IO _) (λj y e=>⟨by have:=hHb j y e;omega,Kg hn1 (ho j y e).2⟩) j y e).1;have hps:∀s',Aq K.st s' h K.p=some (.cells [.map K.s0,.map K.s1,.map K.s2,.map K.s3,.map K.s4,AA s'.2]):=λs'=>(hK.has (s:=s') CZ).p;refine Ao 1 [(1,X),(4,.ptr K.p 0),(5,.q [AA d.T0.I,AA d.T0.move,Aa d.T0.Y,AN d.T0.Z])] (Aq K.st ([],0) h) n1 ?_ (λm hm=>?_);rw[hX];simp[go_sem,Or,AF.j,AO.j,AC];exact⟨Ak (Ac (hUb _) (IO _)) (AC _ _ _),AV (hUb _) (AV (hUb _) AE)⟩;refine Bz 0 [(1,X),(4,.ptr K.p 0)] (Aq K.st ([],0) h) (λm=>n1<=m/\D9 K 3 d.T0 = 0/\d.T0.I=0/\d.T0.move=0/\d.T0.Y=[]) ?_ (λm hm=>?_)
 . have hd:=Zv hK ([],0) 3 d.T0 he (H:=Aq K.st ([],0) h) (n:=m) hm CZ;obtain⟨eh,heh⟩:∃eh,D9 K 3 d.T0 = eh:=⟨_,rfl⟩
   rw[heh]at hd ⊢;refine AR 0 (α:=Int) (λe=>[(1,X),(4,.ptr K.p 0),(6,AA e)]) (λ_=>Aq K.st ([],0) h) (λe m=>n1<=m/\(e=0↔eh=0/\d.T0.I=0/\d.T0.move=0/\d.T0.Y=[])) (CJ bB rfl nQ nQ ?_) (λe8 m hm=>?_);rw[hX];have fin:∀(e ea:Int)(m1:Nat)(KK:SV->Hp->Nat->Prop),n1<=m1->KK (AA (BH [e,ea])) (Aq K.st ([],0) h) (m1+1)->Ab (BU.plain.call false 0) prog 78 [.sl m1 0 1 2 true] (h_ (Aq K.st ([],0) h) m1 (some (.cells [AA e,AA ea]))) (m1+1) KK:=λe ea m1 KK hm1 hk=>by
    refine wT (bs:=[.x 1 ([e,ea].map AA) false]) (h2:=Aq K.st ([],0) h) 1 (AV (λj z e=>by have:=hUb ([],0) j z e;omega) AE) ⟨?_,trivial⟩ ?_;exact Ez (es:=[AA e,AA ea]) (Ac (hUb ([],0)) hm1) nO (by rw[AC];simp[SV.cells]) (by simp[SV.B,SV.cells]);exact(SY _ nO).use hk
   have hd':∀KK:SV->Hp->Nat->Prop,KK (AA eh) (Aq K.st ([],0) h) m->Ab (BU.plain.call false 0) prog 82 [.ptr K.p 0,AA 3,.agg [AU d.T0.Q,AA d.T0.I,AA d.T0.move,Aa d.T0.Y,AN d.T0.Z]] (Aq K.st ([],0) h) m KK:=λKK hk=>by
    refine qI (by simpa[AF.h,AF.j]using hd) ?_;rintro v H' n' ⟨rfl,rfl,rfl⟩;exact hk
   clear hd heh;generalize hin:d.T0.I=ins at hd' ⊢;generalize hmv:d.T0.move=mv at hd' ⊢;by_cases i0:ins=0;subst i0;by_cases m0:mv=0;subst m0;simp[go_sem,bB,AF.j,hin,hmv];refine hd' _ ?_;simp[go_sem];refine(Kc _ _).use ?_;simp[go_sem];refine fin _ _ _ _ hm ?_;generalize hf:BH [eh,_]=ef;simp[go_sem,Or];refine⟨ef,⟨by omega,?_⟩,Or⟩;rw[<-hf,FD];by_cases dl:d.T0.Y=[]<;>simp[dl];simp[go_sem,bB,AF.j,hin,hmv,m0];refine hd' _ ?_;simp[go_sem,m0];refine(Kc _ _).use ?_;simp[go_sem];refine fin _ _ _ _ hm ?_;generalize hf:BH [eh,_]=ef;simp[go_sem,Or];have hne:¬ef=0:=by rw[<-hf,FD];simp
   exact⟨ef,⟨by omega,hne⟩,Or⟩;simp[go_sem,bB,AF.j,hin,hmv,i0];refine hd' _ ?_;simp[go_sem,i0];refine(Kc _ _).use ?_;simp[go_sem];refine fin _ _ _ _ hm ?_;generalize hf:BH [eh,_]=ef;simp[go_sem,Or];have hne:¬ef=0:=by rw[<-hf,FD];simp
   exact⟨ef,⟨by omega,hne⟩,Or⟩;obtain⟨hm,hz⟩:=hm;have hE:=Lb hm0 hm1 hm2;by_cases e80:e8=0
   case neg=>exact AJ (by simp[go_sem,e80];exact no e8 _ _ e80 (λg=>e80 (by rw[hT]at g;exact hz.2 ⟨by rw[<-heh,hE];exact g.endH,g.endI,g.endM,g.endD⟩)) (Ar _))
   have hhd:=hz.1 e80;rw[e80];exact AJ (by simp[go_sem,Or,hm,hhd])
 obtain⟨hm,hhd⟩:=hm;refine AR 0 (α:=GU) (λ_=>[(4,.ptr K.p 0)]) (λq=>Aq K.st q h) (λq m=>n1<=m/\DY ([],0) (Kq N d.W) (ZS N d.W) q/\Ci [] (Kq N d.W)/\gN K N ⟨true,false,0⟩ d.W) (AJ ?_) (λq m hm=>?_);rw[hX];simp[go_sem,AF.j,AO.j];refine qI (by simpa[C8.h]using Pm hK hB N d.W hl ([],0) ⟨true,false,0⟩ (Aq K.st ([],0) h) m hm CZ) ?_;rintro v H' n' ⟨e,s2,rfl,hT2,rfl,rfl⟩;rw[D.up2];by_cases e0:e=0;obtain⟨b1,b2,b3⟩:=hT2.1 e0;simp[go_sem,e0,Or];exact⟨s2.1,s2.2,⟨hm,b3,b2,b1⟩,AE⟩;simp[go_sem,e0];exact no e _ _ e0 (λg=>by rw[hT]at g;exact hT2.2 e0 ⟨(Sy hm0 hm1 hm2 ..).2 g.W,g.ids⟩) (Ar _);obtain⟨_,hnx,hfr,hgn⟩:=hm;have hun:IntKind.i64.wrap (ZS N d.W)=q.2:=by
  have h1:=hnx.rg (by simp only[IntKind.wrap_i64];rfl);have h2:=hnx.un;rw[h1]at h2;rw[h2];simp
 have hE:=Lb hm0 hm1 hm2;have hTT:T↔q.2<=16384:=by
  rw[hT];exact⟨λg=>by rw[<-hun];exact g.units,λg=>⟨h8,hrv,by rw[<-hE];exact hhd.1,hhd.2.1,hhd.2.2.1,hhd.2.2.2,(Sy hm0 hm1 hm2 ..).1 hgn,hfr,by rw[hun];exact g⟩⟩
 refine AJ ?_;simp[go_sem,hps];refine(Kc _ _).use ?_;simp[go_sem];refine Rp ho (Ar _) (by simp[C_]) ⟨_,rfl,?_⟩;rw[hTT];by_cases c:16384<q.2
 . simp[c];try omega
 . simp[c];try omega
theorem Hj{F:Nat->Int}{n:Nat}:CK F n=0↔∀k,k<n->F k=0:=
 ⟨λh=>Hk h,λh=>by
  induction n with
  | zero=>rfl
  | succ n ih=>rw[CK,nS (ih λk hk=>h k nN)];exact h n nN⟩
structure XU(K:Ck)(el:Int)(h:AF):Prop where
 Q:C9 el h.Q=0
 refs:∀j,j<h.Q.length->MZ K h.Q j=0
 I:GO K h=false
 mv:I2 h=false
 dlen:h.Y.length<=16
 Y:∀j,j<h.Y.length->Jb K h.Y j=0
 llen:h.Z.length<=64
 Z:∀j,j<h.Z.length->MY K el h.Z j=0
theorem Hr{K:Ck}{el:Int}{h:AF}:D9 K el h=0↔XU K el h:=by
 unfold D9;constructor
 . intro g;by_cases a1:C9 el h.Q=0
   case neg=>rw[nS a1]at g;exact absurd g a1
   rw[nR (by rw[a1];simp)]at g;by_cases a2:CK (MZ K h.Q) h.Q.length=0
   case neg=>rw[nS a2]at g;exact absurd g a2
   rw[nR (by rw[a2];simp)]at g;cases a3:GO K h with
   | true=>rw[a3]at g;simp at g
   | false=>
   cases a4:I2 h with
   | true=>rw[a3,a4]at g;simp at g
   | false=>
   rw[a3,a4]at g;simp only[qq,if_false]at g;by_cases a5:16<h.Y.length
   case pos=>rw[nS a5]at g;cases g
   rw[nR a5]at g;by_cases a6:CK (Jb K h.Y) h.Y.length=0
   case neg=>rw[nS a6]at g;exact absurd g a6
   rw[nR (by rw[a6];simp)]at g;by_cases a7:64<h.Z.length
   case pos=>rw[nS a7]at g;cases g
   rw[nR a7]at g;exact⟨a1,Hj.1 a2,a3,a4,by omega,Hj.1 a6,by omega,Hj.1 g⟩
 rintro⟨a1,a2,a3,a4,a5,a6,a7,a8⟩;rw[nR (by rw[a1];simp),nR (by rw[Hj.2 a2];simp),a3,a4,nR nO,nR nO,nR nN,nR (by rw[Hj.2 a6];simp),nR nN];exact Hj.2 a8
theorem Nh{K:Ck}{l:List Dx}{j:Nat}(a:j<l.length):Jb K l j=0↔l[j].rev∈K.m2/\(0<j->l[j-1].rev<l[j].rev)/\0<=l[j].move/\l[j].move<=1073741824:=by
 rw[Jb,qm a];dsimp only;by_cases a1:l[j].rev∈K.m2<;>by_cases a2:0<j<;>by_cases a3:0<=l[j].move/\l[j].move<=1073741824
 all_goals first
  | (by_cases a4:l[j].rev<=l[j-1].rev<;>simp[a1,a2,a3,List.getD,show j-1<l.length by omega,a4]<;>omega)
  | (simp[a1,a2,a3])
theorem XU.ok{K:Ck}{el:Int}{h:AF}(g:XU K el h):Nq K.m2 h where
 I:=by
  have:=g.I;by_cases a:h.I=0;exact .inl a;right;simpa[GO,a]using this
 dlen:=g.dlen
 Y x hx:=by obtain⟨j,b,rfl⟩:=vZ hx;exact((Nh b).1 (g.Y j b)).1
 llen:=g.llen
 Z x hx:=by
  obtain⟨j,b,rfl⟩:=vZ hx;have:=g.Z j b;rw[MY,qm b]at this;dsimp only at this;by_cases a:h.Z[j].rev∈K.m2;exact a;simp[a]at this
 inc i hi h0:=((Nh hi).1 (g.Y i hi)).2.1 h0
 mv:=by
  have:=g.mv;simp only[I2,Bool.or_eq_false_iff,Bool.not_eq_false',decide_eq_true_eq]at this;exact this.1.1
 dmv x hx:=by obtain⟨j,b,rfl⟩:=vZ hx;exact((Nh b).1 (g.Y j b)).2.2.1
theorem RE{x:AD}(h:Ir x=0):XG x:=by
 unfold Ir at h;cases a1:VT x with
 | true=>rw[a1]at h;simp at h
 | false=>
 cases a2:XF x with
 | true=>rw[a1,a2]at h;simp at h
 | false=>
 cases a3:Cj x.J with
 | false=>rw[a1,a2,a3]at h;simp at h
 | true=>
 simp only[XF,Bool.or_eq_false_iff,Bool.and_eq_false_imp,decide_eq_true_eq,decide_eq_false_iff_not]at a2;exact⟨λk=>vg.1 (by have:=a2.1.2 k;omega),λk=>vg.1 (by have:=a2.2 k;omega),a3⟩
theorem XI{K:Ck}:∀(N:Nat)(e:C8)(l:List AD),gN K N e l->dg K.m2 N l
 | 0,_,_,_=>trivial
 | N+1,e,l,h=>λx g=>by
  obtain⟨g1,_,_,_,_,g6,g7,g8⟩:=h x g;have a:=RE g1;refine⟨a,(Hr.1 g6).ok,?_,λk=>(g8 k).1,λr hr=>?_⟩;by_cases k:x.l=6;exact XI N _ _ (g7 k);rw[a.1 k];exact aZ _ _;by_cases k:x.l=7;obtain⟨_,_,g9⟩:=g8 k;obtain⟨b1,f,_,b⟩:=g9 r hr;exact⟨⟨(Hr.1 b1).ok,f⟩,λc d=>⟨(Hr.1 (b c d).1).ok,XI N _ _ (b c d).2⟩⟩;rw[a.2.1 k]at hr;cases hr
theorem D8.ok{N:Nat}{d:AH}(g:D8 N d):bv N d where
 W:=XI N _ _ g.W
 ids i hi:=⟨(g.ids.1 i hi).1,(g.ids.1 i hi).2.1⟩
 nodup:=g.ids.2
 V:=g.V
 T0:=(Hr.1 g.endH).ok
 endI:=g.endI
def KP(T:Prop)(N:Nat)(d:AH)(v:SV):Prop:=∃b,v=.bool b/\(b=true->T/\MW N d.W/\M2 N d.W<=150)
theorem nA(T:Prop)(d:AH){B N:Nat}(hB:B<=1048576)(hl:lim AF.D B N d.W)(hc:TC 26 [d.h] (Err T)):TC 34 [d.h] (KP T N d):=by
 intro h n;refine E8 func34 rfl λho=>?_;have hHb:=ho.lt;have fin:∀(b:Bool)(c:A7)(m:Nat),(b=true->T/\MW N d.W/\M2 N d.W<=150)->Cb n (h_ h (n+1) (some c)) m (.bool b) (λv h' n'=>KP T N d v/\h'=h/\n'=n):=λb c m hb=>Rp ho (AV (λj z e=>by have:=hHb j z e;omega) AE) (by simp[C_]) ⟨b,rfl,hb⟩;refine A6 1 [(1,.q ([AI d.W]++d.T0.j++[Cq d.V]++d.S.j))] h (λm=>n+1=m) ?_ (λm hm=>?_);simp[go_sem,AH.h,AF.j,AO.j];exact⟨Ak (Ac hHb (IO _)) (AC _ _ _),AV hHb AE⟩;subst hm;refine A6 0 [(1,.q ([AI d.W]++d.T0.j++[Cq d.V]++d.S.j)),(3,.ptr (n+1) 0)] (h_ h (n+1) (some (.cells [AA 150]))) (λm=>n+2=m) ?_ (λm hm=>?_);simp[go_sem,Or,AC,AZ];subst hm;have hGb:∀j y,h_ h (n+1) (some (.cells [AA 150])) j=some y->j<n+2:=λj y e=>by
  simp only[h_]at e;split at e;omega;have:=hHb j y e;omega
 refine A6 1 [(1,.q ([AI d.W]++d.T0.j++[Cq d.V]++d.S.j)),(3,.ptr (n+1) 0),(4,.q d.S.j)] (h_ h (n+1) (some (.cells [AA 150]))) (λm=>n+2<=m) ?_ (λm hm=>?_);simp[go_sem,Or,AF.j,AO.j,AC];exact⟨Ak (Ac hGb (IO _)) (AC _ _ _),AV hGb (AV hGb AE)⟩;refine AJ ?_;have no:=λc m=>fin false c m nO;by_cases a1:(d.S.C.length:Int)<=30
 case neg=>simp[go_sem,AF.j,AO.j,a1];exact no _ _
 by_cases a2:(d.S.A.length:Int)<=30
 case neg=>simp[go_sem,AF.j,AO.j,a1,a2];exact no _ _
 by_cases a3:(d.S.L.length:Int)<=30
 case neg=>simp[go_sem,AF.j,AO.j,a1,a2,a3];exact no _ _
 by_cases a4:(d.S.vars.length:Int)<=30
 case neg=>simp[go_sem,AF.j,AO.j,a1,a2,a3,a4];exact no _ _
 by_cases a5:(d.V.length:Int)<=30
 case neg=>simp[go_sem,AF.j,AO.j,a1,a2,a3,a4,a5];exact no _ _
 simp[go_sem,AF.j,AO.j,a1,a2,a3,a4,a5];refine qI (dB hB N d.W hl 12 (n+1) 150 (h_ h (n+1) (some (.cells [AA 150]))) m (AC _ _ _)) ?_;rintro v H' n' ⟨b,c,rfl,rfl,rfl,hfew⟩;rw[AZ];cases b with
 | false=>simp[go_sem];exact no _ _
 | true=>
 simp[go_sem];refine TC.use (by simpa[AH.h,AF.j,AO.j]using hc) ?_;rintro v ⟨e,rfl,hT⟩;simp[go_sem];obtain⟨f1,f2,f3⟩:=hfew rfl ⟨by omega,by omega⟩;exact fin _ _ _ λg=>⟨hT (by simpa using g),f3,by omega⟩
theorem im(d:AH){B N:Nat}(a:B<=1048576)(hd:d.sizedT B N):TC 26 [d.h] (cQ (D8 N d)):=
 nB d a hd.W hd.T0 hd.S.A hd.S.L hd.V hd.authors (lL _ hd.S)
theorem il(d:AH){B N:Nat}(a:B<=1048576)(hd:d.sizedT B N):TC 34 [d.h] (KP (D8 N d) N d):=
 nA _ d a hd.W ((im d a hd).mono λ_ ⟨e,h,g⟩=>⟨e,h,g.1⟩)
theorem Sx{x:AD}(h:Ir x=0)(k:x.l=8):1<=x.code/\x.code<=4:=by
 unfold Ir at h;by_cases c:VT x=true;rw[nS c]at h;exact absurd h (by decide);unfold VT ZL at c;rw[k]at c;simp at c;exact c
theorem Kp{K:Ck}{el:Int}{h:AF}{R:List Int}(a:∀y,y∈K.m2↔y∈R)(g:D9 K el h=0):HR R h:=by
 have G:=Hr.1 g;have H:=G.ok;refine⟨λh0=>?_,λh0=>?_,λd hd=>(a _).1 (H.Y d hd),λd hd=>(a _).1 (H.Z d hd)⟩;rcases H.I with e|e;exact absurd e h0;exact(a _).1 e;have:=G.mv;unfold I2 at this;rw[h0]at this;simp at this;exact this.2
theorem LJ{K:Ck}{R:List Int}(hR:∀y,y∈K.m2↔y∈R){hp:AF->Prop}{B:Nat}:∀{N:Nat} {pl:C8} {l:List AD},lim hp B N l->gN K N pl l->wf (HR R) (λ_=>True) N l/\∀a∈AD.anL l,ZR a
 | 0,_,_,h,_=>h.elim
 | N + 1, pl, l, hl, hg => by
  obtain⟨_,_,h3⟩:=CX.1 hl;have nil:∀{M:Nat} {l:List AD},lim hp B M l->l=[]->wf (HR R) (λ_=>True) M l:=fun {M l} h e=>by
   cases M with
   | zero=>exact h.elim
   | succ M=>rw[e];exact fH M
  have key:∀x∈l,fY (HR R) (λ_=>True) N x/\∀a∈x.an,ZR a:=λx hx=>by
   obtain⟨a1,a2,a3,a4⟩:=h3 x hx;obtain⟨b1,b2,b3,b4,b5,b6,b7,b8⟩:=hg x hx;obtain⟨f1,f2,_⟩:=RE b1;have hfl:wf (HR R) (λ_=>True) N x.W/\∀a∈AD.anL x.W,ZR a:=by
    by_cases k:x.l=6;exact LJ hR a2 (b7 k);refine⟨nil a2 (f1 k),λa ha=>?_⟩;rw[f1 k,AD.anL]at ha;cases ha
   have hrw:∀r∈x.R,(HR R r.H/\r.cells≠[]/\∀c∈r.cells,True/\HR R c.H/\wf (HR R) (λ_=>True) N c.W)/\∀c∈r.cells,∀a∈AD.anL c.W,ZR a:=λr hr=>by
    by_cases k:x.l=7;obtain⟨c1,c2,c3⟩:=b8 k;obtain⟨d1,d2,d3,d4⟩:=c3 r hr;obtain⟨e1,e2,e3⟩:=a4 r hr;exact⟨⟨Kp hR d1,d2,λc hc=>⟨trivial,Kp hR (d4 c hc).1,(LJ hR (e3 c hc).2 (d4 c hc).2).1⟩⟩,λc hc=>(LJ hR (e3 c hc).2 (d4 c hc).2).2⟩;rw[f2 k]at hr;cases hr
   refine⟨⟨Kp hR b6,f1,f2,λk=>(b8 k).1,λ_=>trivial,hfl.1,λr hr=>(hrw r hr).1⟩,λa ha=>?_⟩;rw[AD.an_eq]at ha;rcases qf.1 ha with g|g
   . split at g
     . next k=>
       rw[qA]at g;subst g;have:=Sx b1 k;have:=b5 k;exact⟨by dsimp only;omega,by dsimp only;omega,by dsimp only;omega⟩
     cases g
   rcases qf.1 g with g|g;exact hfl.2 a g;rw[AM.anL_eq,qJ]at g;obtain⟨r,hr,g⟩:=g;rw[AM.an_eq,AG.anL_eq,qJ]at g;obtain⟨c,hc,g⟩:=g;rw[AG.an_eq]at g;exact(hrw r hr).2 c hc a g
  refine⟨DP.2 λx hx=>(key x hx).1,λa ha=>?_⟩;rw[AD.anL_eq,qJ]at ha;obtain⟨x,hx,g⟩:=ha;exact(key x hx).2 a g
section
variable{hp:AF->Prop}{T:Int->Prop}
theorem LS:∀{N:Nat} {l:List AD},wf hp T N l->∀a∈AD.anL (Ae l),a∈AD.anL l
 | 0,_,h=>h.elim
 | N + 1, l, H => by
  have key:∀y∈Ae l,∀a∈y.an,a∈AD.anL l:=by
   unfold Ae Eg;rw[wL];refine JL (p:=λy=>∀a∈y.an,a∈AD.anL l) (λx t h a b=>h a (by rw[AD.an_eq]at b ⊢;exact b)) _ _ (λy d=>by cases d) λy d a b=>?_;obtain⟨x,e,rfl⟩:=qb.1 d;obtain⟨_,_,_,_,_,f,w⟩:=DP.1 H x e;have hr:=F7 λr hr=>(w r hr).2.1;rw[AD.zj,hr,AD.an_eq]at b;rw[AD.anL_eq,qJ];refine⟨x,e,?_⟩;rw[AD.an_eq];rcases qf.1 b with g|g;exact qx _ g;refine qt _ ?_;rcases qf.1 g with g|g;exact qx _ (LS f a g);refine qt _ ?_;have g:a∈AM.anL (x.R.map AM.N):=g;rw[AM.anL_eq,qJ]at g ⊢;obtain⟨r,hr,g⟩:=g;obtain⟨r0,h0,rfl⟩:=qb.1 hr;refine⟨r0,h0,?_⟩;rw[AM.zj,AM.an_eq]at g;rw[AM.an_eq];have g:a∈AG.anL (r0.cells.map AG.N):=g;rw[AG.anL_eq,qJ]at g ⊢;obtain⟨c,i,g⟩:=g;obtain⟨c0,h1,rfl⟩:=qb.1 i;refine⟨c0,h1,?_⟩;rw[AG.zj,AG.an_eq]at g;rw[AG.an_eq];exact LS ((w r0 h0).2.2 c0 h1).2.2 a g
  intro a b;rw[AD.anL_eq,qJ]at b;obtain⟨y,d,g⟩:=b;exact key y d a g
theorem XT:∀{N:Nat} {l:List AD},wf hp T N l->∀h∈AD.hdL l,∀y∈h.all,y∈AD.U l
 | 0,_,h=>h.elim
 | N+1,l,H=>λh hh y i=>by
  rw[wV,qJ]at hh;obtain⟨x,m,g⟩:=hh;obtain⟨a,b,c,d,e,f,w⟩:=DP.1 H x m;rw[Y8,qJ];refine⟨x,m,?_⟩;have us:x.us=x.H.all++(if x.l=6 then AD.U x.W else if x.l=7 then AM.U x.R else[]):=by cases x;rw[AD.us];rfl
  rw[us];rw[wZ]at g;rcases qd.1 g with g|g;rw[g]at i;exact qx _ i;refine qt _ ?_;rcases qf.1 g with g|g;have:=XT f h g y i;by_cases k:x.l=6;rw[nS k];exact this;rw[b k,UJ]at g;cases g;by_cases k:x.l=7;rw[nR nN,nS k];rw[AM.hdL_eq,qJ]at g;obtain⟨r,hr,g⟩:=g;rw[U8,qJ];refine⟨r,hr,?_⟩;have o:r.us=r.H.all++AG.U r.cells:=by cases r;rw[AM.us];rfl
  rw[o];rw[wX]at g;rcases qd.1 g with g|g;rw[g]at i;exact qx _ i;refine qt _ ?_;rw[AG.hdL_eq,qJ]at g;obtain⟨q,j,g⟩:=g;rw[U7,qJ];refine⟨q,j,?_⟩;have n:q.us=q.H.all++AD.U q.W:=by cases q;rw[AG.us];rfl
  rw[n];rw[wY]at g;rcases qd.1 g with g|g;rw[g]at i;exact qx _ i;exact qt _ (XT ((w r hr).2.2 q j).2.2 h g y i);rw[c k,Px]at g;cases g
theorem ZD{a:AF->Prop}{N:Nat}{l:List AD}(H:wf hp T N l)(h:∀x∈AD.hdL l,a x):wf a T N l:=OQ (λ_ g=>g.2) (λ_ g=>g) (Qb H h)
end
structure IC(N:Nat)(d:AH):Prop where
 wf:∃T,wf (HR (A5 d)) T N d.W
 endi:d.T0.I=0
 endm:d.T0.move=0
 endd:d.T0.Y=[]
 endl:∀x∈d.T0.Z,x.rev∈A5 d
 revn:(A5 d).Nodup
 rev0:(0:Int)∉A5 d
 coms:GS [] d.S.C
 anch:∀a∈AD.anL d.W,ZR a
theorem IC.two{N:Nat}{d:AH}(H:IC N d):Fk N d.normal.renum:=by
 obtain⟨T,hw⟩:=H.wf;have m:=L7 hw;have o:=ZE (T:=T) 0 m;have f:∀r∈d.V,r.id≠0:=λr hr g=>H.rev0 (by rw[<-g];exact qb.2 ⟨r,hr,rfl⟩);have e:∀y∈A5 d,y∈AD.U (Ae d.W)++d.T0.all->y∈A5 d.normal.renum:=λy p k=>by
  obtain⟨r,hr,rfl⟩:=qb.1 p;exact qb.2 ⟨r,(KB (f r hr)).2 ⟨hr,k⟩,rfl⟩
 have b:d.normal.renum.W=(Cz 0 (Ae d.W)).1:=rfl;have c:d.normal.renum.V.Sublist d.V:=List.filter_sublist;refine { wf:=⟨λ_=>True,?_⟩,endi:=H.endi,endm:=H.endm,endd:=H.endd,endl:=λx i=>?_,revn:=?_,rev0:=λg=>?_,coms:=H.coms,anch:=λa s=>?_,nf:=?_,rn:=?_,used:=λr hr=>?_ };rw[b];refine ZD o λh hh=>?_;have j:h∈AD.hdL (Ae d.W):=by rw[N8]at hh;exact hh
 have l:=Jm m h j;have k:∀y∈h.all,y∈AD.U (Ae d.W)++d.T0.all:=λy p=>qx _ (XT m h j y p);have q:=@UW h;exact⟨λh0=>e _ (l.I h0) (k _ (q.2 (.inl rfl))),l.move,λx i=>e _ (l.Y x i) (k _ (q.2 (.inr (.inl ⟨x,i,rfl⟩)))),λx i=>e _ (l.lays x i) (k _ (q.2 (.inr (.inr ⟨x,i,rfl⟩))))⟩;exact e _ (H.endl x i) (qt _ (UW.2 (.inr (.inr ⟨x,i,rfl⟩))));exact(c.map _).nodup H.revn;exact H.rev0 ((c.map _).subset g);rw[b,QI]at s;exact H.anch a (LS hw a s);rw[b];exact TN 0 (KC hw);rw[b,QJ];have n:r∈d.normal.V:=hr;have:=((KB (f r (c.subset hr))).1 n).2;rw[b,QL];exact this
theorem IC.good{N B:Nat}{hp:AF->Prop}{d:AH}{l:C8}(k:lim hp B N d.W)(hg:gN (Kd d) N l d.W)(j:D9 (Kd d) 3 d.T0 = 0)(h1:d.T0.I=0)(h2:d.T0.move=0)(f:d.T0.Y=[])(ht:nC d.V)(i:GS [] d.S.C):IC N d:=by
 have c:∀y,y∈(Kd d).m2↔y∈A5 d:=λy=>by rw[show(y∈(Kd d).m2)↔_ from dZ rfl,A5,qb]
 obtain⟨m,n⟩:=LJ c k hg;have E:=Kp c j;refine⟨⟨_,m⟩,h1,h2,f,E.lays,?_,λg=>?_,i,n⟩;unfold A5 List.Nodup;rw[List.pairwise_map];exact ht.2.2.imp fun {a b} h=>by omega
 obtain⟨r,hr,e⟩:=qb.1 g;have:=ht.2.1 r hr;unfold MM at this;rw[nS nN]at this;exact absurd this (by decide)
section
variable{n:Int}{N:Nat}{d:AH}
end
abbrev Bl(l:List Int):SV:=.x 1 (l.map AA) false
theorem Oz{l:List Int}{n:Int}{i:Nat}(hi:i<l.length)(h:∀j (a:j<i),l[j]'nN≠n)(e:l[i]=n):Am l n=i+1:=by
 have b:l=l.take i++l[i]::l.drop (i+1):=by rw[<-qG hi,vy]
 have c:n∉l.take i:=λg=>by
  obtain⟨j,a,q⟩:=List.mem_iff_getElem.1 g;rw[va]at a;rw[List.getElem_take]at q;exact h j nN q
 rw[b,Eu,nR c,nS (by rw[e];simp),va,Am,nS e];rw[vQ nN]
theorem XW{l:List Int}{n:Int}(h:∀j (a:j<l.length),l[j]≠n):Am l n=0:=
 CU.2 λg=>by
  obtain⟨j,a,q⟩:=List.mem_iff_getElem.1 g;exact h j a q
theorem fW(l:List Int)(z:Nat)(f:Bool)(p:l=[]\/z=1)(hl:l.length<=1048576)(x:Int):PC 87 [.x z (l.map AA) f,AA x] (AA (Am l x)):=by
 intro h n;refine gq func87 rfl λk=>?_;simp[go_sem];refine A9 0 (α:=Nat) (λi=>[(0,.x z (l.map AA) f),(1,AA x),(5,AA i)]) (λ_=>h) (λi _=>i<=l.length/\∀j (c:j<i) (d:j<l.length),l[j]≠x) (λi=>l.length-i) 0 ?_ ?_ AE ?_;simp;simp[go_sem,look,Or];rintro i m ⟨hi,b⟩;by_cases a:i<l.length
 . have o:=wS i nN;have g:z=1:=p.elim (λe=>by rw[e]at a;cases a) id;subst g;by_cases e:l[i]=x;have:Am l x=((i+1:Nat):Int):=by rw[Oz a (λj c=>b j c nN) e];push_cast;rfl
   rw[this];simp[go_sem,a,e,o,-Int.natCast_add];exact An k rfl rfl
   . simp[go_sem,a,e,o,-Int.natCast_add];refine⟨i+1,by omega,⟨by omega,λj c d=>?_⟩,?_⟩
     rotate_left
     exact Or;by_cases q:j=i;subst q;exact e;exact b j nN d
 have hie:i=l.length:=by omega
 have:Am l x=0:=XW λj c=>b j nN c;rw[this];simp[go_sem,a];exact An k rfl rfl
theorem US(n:Int):∀(l:List Int)(k:Nat),k<=l.length->(∀j (h:j<l.length),j<k->l[j]<n)->(∀h:k<l.length,n<=l[k])->GA l n=if ∃h:k<l.length,l[k]=n then l else l.take k++n::l.drop k
 | [],k,hk,_,_=>by
  have:k=0:=by simpa using hk
  subst this;simp[GA]
 | a::l,0,_,_,h2=>by
  have b:n<=a:=h2 nO;rw[GA,nR nN];by_cases e:a=n;rw[nS e,nS ⟨by simp,e⟩];rw[nR e,nR (λ⟨_,g⟩=>e g)];rfl
 | a::l,k+1,hk,h1,h2=>by
  have b:a<n:=h1 0 nO nN;have d:=US n l k (by simpa using hk) (λj c hjk=>h1 (j+1) (by simpa using c) nN) (λh=>h2 (by simpa using h));rw[GA,nS b,d];by_cases e:∃h:k<l.length,l[k]=n;rw[nS e,nS (by obtain⟨h,g⟩:=e;exact⟨by simpa using h,g⟩)];rw[nR e,nR (λ⟨h,g⟩=>e ⟨by simpa using h,g⟩)];rfl
theorem Oh{h h2:Hp}{k:Nat}:∀l:List SV,AT (Fz h h2 k) l l
 | []=>trivial
 | _x::l=>⟨Or,Oh l⟩
theorem FC(n:Nat)(l:List Int):c_ n (l.map AA)=true:=by
 induction l with
 | nil=>rfl
 | cons a l ih=>rw[qg,c_,ih];rfl
theorem FF(l:List Int):(l.map AA).flatMap SV.cells=l.map AA:=by
 induction l with
 | nil=>rfl
 | cons a l ih=>rw[qg,qV,ih];rfl
theorem WR{H:Hp}{p k z:Nat}{x:Int}{es:List Int}{f:Bool}(hk:H k=some (.cells [AA x]))(i:es=[]\/z=1)(hl:es.length<=1048576):
 Af prog H p .append [91,91] [.sl k 0 1 1 true,.x z (es.map AA) f]=some (if es=[]then { val:=.sl k 0 1 1 true } else { val:=.sl p 0 1 (1+es.length) false,new:=some (.cells (AA x::es.map AA)) }):=by
 have h1:Ax prog 91=some 3:=by simp[go_sem]
 have h2:Bd prog 3=1:=by simp[go_sem]
 have c:(BO prog 3).B=true:=by simp[go_sem]
 have d:(BO prog 3).cells.length=1:=by simp[go_sem]
 have e:Ce prog 3<=65536:=by simp[go_sem]
 have h:HE 3=none:=by rfl
 by_cases a:es=[];subst a;simp[Af,FP,h1,h2,c,d,Ie,flat,OR,DB];have b:z=1:=i.resolve_left a;subst b;have hne:es.length≠0:=λg=>a (vg.1 g);have j:1+es.length<=1073741824:=by omega
 simp[Af,FP,h1,h2,c,d,e,h,Ie,flat,OR,hk,a,FF,Ex,CP,H9,j]
theorem WQ{H:Hp}{p k z m:Nat}{es ys:List Int}{f:Bool}(hk:H k=some (.cells (ys.map AA)))(hm:m=ys.length)(h0:m≠0)(a:es=[]\/z=1)(h:es.length+m<=1073741824):
 Af prog H p .append [91,91] [.x z (es.map AA) true,.sl k 0 1 m f]=some { val:=.sl p 0 1 (es.length+m) false,new:=some (.cells (es.map AA++ys.map AA)) }:=by
 have h1:Ax prog 91=some 3:=by simp[go_sem]
 have h2:Bd prog 3=1:=by simp[go_sem]
 have b:(BO prog 3).B=true:=by simp[go_sem]
 have c:(BO prog 3).cells.length=1:=by simp[go_sem]
 have d:Ce prog 3<=65536:=by simp[go_sem]
 have e:HE 3=none:=by rfl
 subst hm;have hzz:(es.map AA).isEmpty=true\/z=1:=a.imp_left λg=>by rw[g];rfl
 have t:CP (ys.map AA) 0 ys.length=some (ys.map AA):=by
  rw[CP,nS nO];simp[qD]
 simp[Af,FP,h1,h2,b,c,d,e,Ie,flat,OR,hk,FF,Ex,t,h,h0];exact λg=>a.resolve_left g
def bA:Og:=(.pure 0 (.pure 1 (.pure 2 (.pure 4 (.pure 6 (.pure 7 (.three 3 5 8 (.two 5 8 (.one 8 (.one 9 (.one 10 (.pure 11 .nil)))) (.one 5 (.one 9 (.one 10 (.pure 11 .nil))))) (.two 3 8 (.one 8 (.one 9 (.one 10 (.pure 11 .nil)))) (.two 3 9 (.one 9 (.one 10 (.pure 11 .nil))) (.one 3 (.one 10 (.pure 11 .nil))))) (.two 3 5 (.one 5 (.one 9 (.one 10 (.pure 11 .nil)))) (.two 3 9 (.one 9 (.one 10 (.pure 11 .nil))) (.one 3 (.one 10 (.pure 11 .nil))))))))))))
theorem w88(l:List Int)(z:Nat)(f:Bool)(hz:l=[]\/z=1)(hl:l.length<=1048576)(x:Int):PC 88 [.x z (l.map AA) f,AA x] (Bl (GA l x)):=by
 intro h n;refine E8 func88 rfl λho=>?_;have hHb:=ho.lt;refine Ai 0 [(0,.x z (l.map AA) f),(1,AA x)] h n ?_ (λm hm=>?_);simp[go_sem,Or];subst hm;refine Ai 0 [(0,.x z (l.map AA) f),(1,AA x),(5,AA 0)] h n ?_ (λm hm=>?_);simp[go_sem,Or];subst hm;refine AR 0 (α:=Nat) (λk=>[(0,.x z (l.map AA) f),(1,AA x),(5,AA k)]) (λ_=>h) (λk m=>n=m/\k<=l.length/\(∀j (h:j<l.length),j<k->l[j]<x)/\∀h:k<l.length,x<=l[k]) ?_ (λk m hm=>?_);refine AP (As 0 (α:=Nat) (λi=>[(0,.x z (l.map AA) f),(1,AA x),(5,AA i)]) (λ_=>h) (λi m=>n=m/\i<=l.length/\∀j (h:j<l.length),j<i->l[j]<x) (λi=>l.length-i) 0 ⟨rfl,qi _,λj _ q=>absurd q nN⟩ (by simp[look,Or]) AE ?_);rintro i m ⟨rfl,hi,hlo⟩;by_cases hlt:i<l.length;have w1:=wS i nN;have hz1:z=1:=hz.elim (λe=>by rw[e]at hlt;cases hlt) id;subst hz1;by_cases e:l[i]<x;refine AJ ?_;simp[go_sem,hlt,e,w1,-Int.natCast_add];exact⟨i+1,by omega,⟨by omega,λj hj q=>by
  by_cases q2:j=i;subst q2;exact e;exact hlo j hj nN⟩,Or⟩
 refine AJ ?_;simp[go_sem,hlt,e];exact⟨i,⟨by omega,hlo,λ_=>by omega⟩,Or⟩;refine AJ ?_;simp[go_sem,hlt];exact⟨i,⟨hi,hlo,λq=>absurd q hlt⟩,Or⟩;obtain⟨rfl,hk,hlo,hhi⟩:=hm;have fin:∀(L:List Int)(o m:Nat),n<=o->L.length=l.length+1->SP (BU.plain.call false 0) Tryz.f88.ntmps Code.ret (N7 prog Tryz.f88 n (Is (Bl L) h n)) [(4,.sl o 0 1 (l.length+1) false)] (h_ h o (some (.cells (L.map AA)))) m:=λL o m ho1 hL=>by
  refine AJ ?_;simp[go_sem];refine .inr ⟨1,Bl L,h,?_,FC n L,λj y q=>⟨by rw[AB _ _ (by have:=hHb j y q;omega)];exact q,ho j y q⟩,rfl,rfl,rfl⟩;have:=Ez (h':=h_ h o (some (.cells (L.map AA)))) (h:=h) (k:=0) (z:=1) (o:=o) (es:=L.map AA) (full:=false) (full':=false) (Ac hHb ho1) nO (by rw[AC,FF]) (by simp[SV.B,SV.cells]);rw[qj,hL]at this;exact this
 have hins:=US x l k hk hlo hhi;by_cases hlt:k<l.length
 · have hz1 : z = 1 := by rcases hz with e | e; · rw [e] at hlt; cases hlt
                          exact e
   subst hz1;by_cases e:l[k]=x;rw[nS ⟨hlt,e⟩]at hins;rw[hins];refine AJ ?_;simp[go_sem,hlt,e];exact .inr ⟨1,Bl l,h,.inr ⟨by simp,.inr rfl,Oh _,by simp[SV.B]⟩,by simp[C_,FC],λj y q=>⟨q,ho j y q⟩,rfl,rfl,rfl⟩;rw[nR (λ⟨_,g⟩=>e g)]at hins;rw[hins];refine Ai 0 [(0,.x 1 (l.map AA) f),(1,AA x),(5,AA k)] h n ?_ (λm hm=>?_);simp[go_sem,hlt,e,Or];subst hm;have hk1:¬l.length<=k:=by omega
   refine AR 0 (α:=Nat) (λo=>[(4,.sl o 0 1 (l.length+1) false)]) (λo=>h_ h o (some (.cells ((l.take k++x::l.drop k).map AA)))) (λo m=>n<=o/\o<m) (Il bA rfl nQ nQ ?_) (λo m hm=>?_);have a1:List.take l.length (List.map AA l)=List.map AA l:=qD nO;have hd0:l.drop k≠[]:=by rw[ne_eq,List.drop_eq_nil_iff];omega
   have b1:=WR (H:=h_ h n (some (.cells [AA x]))) (p:=n+1) (k:=n) (x:=x) (es:=l.drop k) (f:=f) (AC _ _ _) (.inr rfl) (by rw[List.length_drop];omega);rw[nR hd0,List.map_drop]at b1;have b2:=WQ (H:=h_ (h_ h n (some (.cells [AA x]))) (n+1) (some (.cells (AA x::List.drop k (List.map AA l))))) (p:=n+1+1) (k:=n+1) (z:=1) (m:=1+(l.drop k).length) (es:=l.take k) (ys:=x::l.drop k) (f:=false) (by rw[AC,qg,List.map_drop]) (by simp;omega) nN (.inr rfl) (by rw[va,List.length_drop];omega);have hll:(l.take k).length+(1+(l.drop k).length)=l.length+1:=by rw[va,List.length_drop];omega
   rw[hll,vT,qg,List.map_drop,List.length_drop]at b2;simp[go_sem,bA,hk,a1];simp only[b1];simp[go_sem,b2];exact⟨n+1+1,by omega,Or,λo y q=>by have:=hHb o y;simp only[h_]at q ⊢;grind⟩;exact fin (l.take k++x::l.drop k) o m hm.1 (by simp;omega)
 have hkl:k=l.length:=by omega
 rw[nR (λ⟨g,_⟩=>hlt g)]at hins;have e1:l.take k=l:=by rw[hkl,qn]
 have e2:l.drop k=[]:=by rw[hkl,wA]
 rw[hins,e1,e2];refine Ai 0 [(0,.x z (l.map AA) f),(1,AA x),(5,AA l.length)] h n ?_ (λm hm=>?_);simp[go_sem,hkl,Or];subst hm;refine AR 0 (α:=Nat) (λo=>[(4,.sl o 0 1 (l.length+1) false)]) (λo=>h_ h o (some (.cells ((l++[x]).map AA)))) (λo m=>n<=o/\o<m) (Il bA rfl nQ nQ ?_) (λo m hm=>?_);have a1:List.take l.length (List.map AA l)=List.map AA l:=qD nO;have a2:List.drop l.length (List.map AA l)=[]:=List.drop_of_length_le nO;have b1:∀f',Af prog (h_ h n (some (.cells [AA x]))) (n+1) .append [91,91] [.sl n 0 1 1 true,.x z [] f']=some { val:=.sl n 0 1 1 true }:=λf'=>by
  have:=WR (H:=h_ h n (some (.cells [AA x]))) (p:=n+1) (k:=n) (z:=z) (x:=x) (es:=[]) (f:=f') (AC _ _ _) (.inl rfl) nO;simpa using this
 have b2:=WQ (H:=h_ h n (some (.cells [AA x]))) (p:=n+1) (k:=n) (z:=z) (m:=1) (es:=l) (ys:=[x]) (f:=true) (AC _ _ _) rfl nN hz nN;have hzc:(¬l=[]/\¬1=z)=False:=eq_false λg=>hz.elim g.1 λq=>g.2 q.symm;simp[go_sem,bA,a1,a2,hzc];simp only[b1];simp[go_sem,b2];exact⟨n+1,by omega,Or,λo y q=>by have:=hHb o y;simp only[h_]at q ⊢;grind⟩;exact fin (l++[x]) o m hm.1 nO
def EY(l:List Int):SV:=if l=[]then .x 0 [] true else Bl l
theorem Uu(l:List Int):∃z f,EY l=.x z (l.map AA) f/\(l=[]\/z=1):=by
 unfold EY;by_cases h:l=[];rw[nS h,h];exact⟨0,true,rfl,.inl rfl⟩;rw[nR h];exact⟨1,false,rfl,.inr rfl⟩
theorem aB(l:List Int)(x:Int):GA l x≠[]:=λg=>by
 have:x∈GA l x:=Hs.2 (.inl rfl);rw[g]at this;cases this
theorem Yd(l:List Int)(x:Int):EY (GA l x)=Bl (GA l x):=by rw[EY,nR (aB l x)]
theorem QM(l:List Int):(EY l).B=true/\(EY l).cells=[EY l]:=by
 unfold EY;split<;>exact⟨rfl,rfl⟩
def If(p5 jm:Nat)(R:List Int)(s:List (List Int))(o:Nat):Option A7:=
 if R=[]then none else if o=p5 then some (.cells [.sl jm 0 1 R.length true])else if o=jm then some (.cells (s.map EY))else none
theorem QV{p5 jm:Nat}{R:List Int}{s0:List (List Int)}{H:Hp}(e:MX (If p5 jm R) s0 H)(s:List (List Int))(d:jm≠p5):
 Aq (If p5 jm R) s H=if R=[]then H else h_ H jm (some (.cells (s.map EY))):=by
 funext j;have h:=e j;by_cases a:R=[];rw[nS a];simp only[Aq,If,a,if_true];rw[nR a];simp only[Aq,If,h_,a,if_false]at h ⊢;by_cases b:j=p5;subst b;simp only[if_true,nR (Ne.symm d)]at h ⊢;exact(h _ rfl).symm;by_cases c:j=jm;subst c;simp[b];simp[b,c]
def ML(s:List (List Int)):Nat:=(s.map List.length).sum
theorem RR(n:Int):∀l:List Int,l.length<=(GA l n).length/\(GA l n).length<=l.length+1
 | []=>by simp[GA]
 | a::l=>by
  have:=RR n l;rw[GA];split;simp only[qo];omega;split<;>simp
theorem KI(x:Int):∀(s:List (List Int))(k:Nat),ML s<=ML (s.modify k λl=>GA l x)/\ML (s.modify k λl=>GA l x)<=ML s+1
 | [],k=>by simp[ML]
 | a::s,0=>by
  have:=RR x a;simp only[ML,List.modify_zero_cons,qg,wp];omega
 | a::s,k+1=>by
  have:=KI x s k;simp only[ML,List.modify_succ_cons,qg,wp]at this ⊢;omega
theorem YF(R:List Int)(s:List (List Int))(p:Int×Int):ML s<=ML (BA R s p):=by
 unfold BA;split;exact(KI _ _ _).1;exact IO _
theorem K9(R:List Int):∀(l:List (Int×Int))(s:List (List Int)),ML s<=ML (l.foldl (BA R) s)
 | [],_=>IO _
 | p::l,s=>qy (YF R s p) (K9 R l _)
theorem QE:∀{s:List (List Int)} {l:List Int},l∈s->l.length<=ML s
 | a::s,l,h=>by
  simp only[ML,qg,wp];rcases qd.1 h with e|e;rw[e];omega;have:=QE e;unfold ML at this;omega
abbrev RK:List SV:=[.x 0 [] true,AA 0,AA 0,.x 0 [] true,.x 0 [] true]
theorem w86(x:AF)(hs:x.D)(R:List Int)(hR:R.length<=1048576)(s:List (List Int))(hsl:s.length=R.length)(hrk:ML (x.mvs.foldl (BA R) s)<=1048576){p5 jm:Nat}(V:jm≠p5){H:Hp}{n:Nat}(hp5:p5<n)(hjn:jm<n)(hH:MX (If p5 jm R) s H):
 BF prog 86 [x.h,.q [Bl R],.ptr p5 0] H n (λv h' n'=>v=x.h/\h'=Aq (If p5 jm R) (x.mvs.foldl (BA R) s) H/\n'=n):=by
 refine E8 func86 rfl λho=>?_;have hHb:=ho.lt;have hsd:=hs.Y;rw[QV hH _ V];obtain⟨G,P⟩:∃G:List (List Int)->Hp,∀t,G t=if R=[]then H else h_ H jm (some (.cells (t.map EY))):=⟨_,λ_=>rfl⟩
 rw[<-P];have Gs:G s=H:=by rw[P,<-QV hH s V];exact Cs s H hH
 have G5:R≠[]->∀t,G t p5=some (.cells [.sl jm 0 1 R.length true]):=λw t=>by
  rw[P,nR w,AB _ _ (Ne.symm V)];exact hH p5 _ (by simp[If,w])
 have Gj:R≠[]->∀t,G t jm=some (.cells (t.map EY)):=λw t=>by rw[P,nR w,AC]
 obtain⟨U,N⟩:∃U:List (List Int)->Hp,∀t,U t=h_ (G t) (n+1) (some (.cells RK)):=⟨_,λ_=>rfl⟩
 have U5:R≠[]->∀t,U t p5=some (.cells [.sl jm 0 1 R.length true]):=λw t=>by rw[N,AB _ _ nN];exact G5 w t
 have Uj:R≠[]->∀t,U t jm=some (.cells (t.map EY)):=λw t=>by rw[N,AB _ _ nN];exact Gj w t
 have Un:∀t,U t (n+1)=some (.cells RK):=λt=>by rw[N,AC]
 have Us:R≠[]->∀s1 s2,h_ (U s1) jm (some (.cells (List.map EY s2)))=U s2:=λw s1 s2=>by
  rw[N,N,P,P,nR w,nR w];funext j;simp only[h_];grind
 have Ub:∀t j y,U t j=some y->j<n+2:=λt j y e=>by
  by_cases e1:j=n+1;omega;rw[N,AB _ _ e1,P]at e;split at e;have:=hHb j y e;omega;by_cases O:j=jm;omega;rw[AB _ _ O]at e;have:=hHb j y e;omega
 have hst:∀(t:List (List Int))(r m:Int)(k:Nat),t.length=R.length->Am R r=(k:Int)+1->m≠0->k<R.length->∃z f l,l.length<=ML t/\(l=[]\/z=1)/\(t.map EY).drop k=.x z (l.map AA) f::(t.map EY).drop (k+1)/\
  (BA R t (r,m)).map EY=(t.map EY).take k++Bl (GA l m)::(t.map EY).drop (k+1):=λt r m k hl hi hm hk=>by
  have W:k<t.length:=by omega
  obtain⟨z,f,e,hz⟩:=Uu t[k];have ek:(Am R r-1).toNat=k:=by omega
  refine⟨z,f,t[k],QE (qp W),hz,?_,?_⟩;rw[qG (by rw[qj];exact W),List.getElem_map,e];have e1:BA R t (r,m)=t.modify k λl=>GA l m:=by
   unfold BA;rw[nS ⟨by dsimp only;omega,hm⟩];dsimp only;rw[ek]
  rw[e1,List.modify_eq_take_cons_drop W,qc,qg,Yd,vT,List.map_drop]
 refine A6 2 [(1,.q [Bl R]),(2,.ptr p5 0),(3,.q x.j),(4,.ptr (n+1) 0)] (U s) (λm=>m=n+2) ?_ (λm hm=>?_);rw[N,Gs];simp[go_sem,AF.h,Or];have hb:=λj y=>ho j y;refine⟨Ak (by rw[AB _ _ nN];exact ho.none (IO n)) (by simp[h_]),λj y e=>?_⟩;have h1:=hb j y;simp only[h_]at e ⊢;grind;subst hm;have hge:=EW R x.I;refine Bz 0 [(1,.q [Bl R]),(2,.ptr p5 0),(3,.q x.j),(4,.ptr (n+1) 0)] (U (BA R s (x.I,x.move))) (λm=>m=n+2) ?_ (λm hm=>?_)
 . refine A6 0 [(1,.q [Bl R]),(2,.ptr p5 0),(3,.q x.j),(4,.ptr (n+1) 0),(5,AA (Am R x.I))] (U s) (λm=>m=n+2) ?_ (λm hm=>?_);simp[go_sem,AF.j];refine qO (fW R 1 false (.inr rfl) hR x.I) ?_;simp[go_sem,Or];subst hm;by_cases h0:Am R x.I≠0/\x.move≠0
   . obtain⟨k,hk⟩:∃k:Nat,Am R x.I=(k:Int)+1:=⟨(Am R x.I-1).toNat,by omega⟩
     have B:k<R.length:=by omega
     have c:R≠[]:=λg=>by rw[g]at B;cases B
     obtain⟨z,f,l,q1,q2,q3,q4⟩:=hst s x.I x.move k hsl hk h0.2 B;have T:(x.move !=0)=true:=by simpa using h0.2
     have A:(0:Int)<(k:Int)+1:=by omega
     have w1:IntKind.i64.wrap (k:Int)=(k:Int):=by rw[D5]<;>omega
     have u:k+1<=s.length:=by omega
     have C:(k:Int)<R.length:=by omega
     rw[<-Us c s,q4];refine A6 0 [(1,.q [Bl R]),(2,.ptr p5 0),(3,.q x.j),(4,.ptr (n+1) 0),(5,AA ((k:Int)+1)),(20,.bool true)] (U s) (λm=>m=n+2) ?_ (λm hm=>?_)
     . rw[hk];simp[go_sem,AF.j,T,A,Or]
       done
     subst hm;refine Av (b:=true) nP ?_;simp only[if_true];refine AJ ?_;simp[go_sem,AF.j,U5 c,Uj c,w1,C,u,q3]
     repeat first|refine⟨by omega,?_⟩|refine nd nQ ?_|refine sq ?_
     refine vw _ _ _ _ _ _ (w88 l z f q2 (by have:=K9 R x.mvs s;omega) x.move) ?_;simp[go_sem,Uj c,C,u,Or]
     repeat first|refine⟨by omega,?_⟩|refine nd nQ ?_|refine sq ?_
     first|exact(nd nQ trivial).1|exact(sd nQ trivial).1
   . have M:BA R s (x.I,x.move)=s:=by unfold BA;rw[nR h0]
     rw[M];refine A6 0 [(1,.q [Bl R]),(2,.ptr p5 0),(3,.q x.j),(4,.ptr (n+1) 0),(20,.bool false)] (U s) (λm=>m=n+2) ?_ (λm hm=>?_);by_cases J:Am R x.I=0;rw[J];simp[go_sem,AF.j,Or];have hm0:x.move=0:=wG λg=>h0 ⟨J,g⟩;have A:(0:Int)<Am R x.I:=by omega
     simp[go_sem,AF.j,hm0,A,Or];subst hm;refine Av (b:=false) nP ?_;simp only[qq,if_false];refine AJ ?_;simp[go_sem,Or]
 subst hm;have hmv:x.mvs.foldl (BA R) s=(x.Y.map λd=>(d.rev,d.move)).foldl (BA R) (BA R s (x.I,x.move)):=rfl;have X:∀(l:List (Int×Int))(t:List (List Int)),(l.foldl (BA R) t).length=t.length:=λl=>by
  induction l with
  | nil=>intro _;rfl
  | cons p l ih=>intro t;rw[qH,ih,HF]
 rw[hmv]at hrk ⊢;have Q:(BA R s (x.I,x.move)).length=R.length:=by rw[HF];exact hsl
 generalize BA R s (x.I,x.move)=s1 at hrk Q ⊢;refine Bz 0 [(1,.q [Bl R]),(2,.ptr p5 0),(3,.q x.j),(4,.ptr (n+1) 0)] (U ((x.Y.map λd=>(d.rev,d.move)).foldl (BA R) s1)) (λm=>n+2<=m) ?_ (λm hm=>?_)
 . refine A6 0 [(1,.q [Bl R]),(2,.ptr p5 0),(3,.q x.j),(4,.ptr (n+1) 0),(6,AA 0)] (U s1) (λm=>m=n+2) ?_ (λm hm=>?_);simp[go_sem,Or];subst hm;refine AP (As 0 (α:=Nat) (λi=>[(1,.q [Bl R]),(2,.ptr p5 0),(3,.q x.j),(4,.ptr (n+1) 0),(6,AA i)]) (λi=>U (((x.Y.take i).map λd=>(d.rev,d.move)).foldl (BA R) s1))
    (λi m=>i<=x.Y.length/\n+2<=m) (λi=>x.Y.length-i) 0 ⟨qi _,IO _⟩ ?_ AE ?_)
   simp[go_sem,look,Or];rintro i m ⟨hi,hnm⟩;by_cases Z:i<x.Y.length
   . have w1:=wS i nN;have hlt':(i:Int)<x.Y.length:=by omega
     obtain⟨d,hd⟩:∃d,x.Y[i]=d:=⟨_,rfl⟩
     have hsn:((x.Y.take (i+1)).map λd=>(d.rev,d.move)).foldl (BA R) s1=BA R (((x.Y.take i).map λd=>(d.rev,d.move)).foldl (BA R) s1) (d.rev,d.move):=by
      rw[qa Z,hd,qc,qX];rfl
     have hSl:(((x.Y.take i).map λd=>(d.rev,d.move)).foldl (BA R) s1).length=R.length:=by rw[X,Q]
     have hSr:ML (((x.Y.take i).map λd=>(d.rev,d.move)).foldl (BA R) s1)<=1048576:=by
      refine qy ?_ hrk
      conv=>rhs;rw[<-vy i x.Y,qc,qX]
      exact K9 R _ _
     generalize((x.Y.take i).map λd=>(d.rev,d.move)).foldl (BA R) s1=S at hsn hSl hSr ⊢;refine Ai 0 [(1,.q [Bl R]),(2,.ptr p5 0),(3,.q x.j),(4,.ptr (n+1) 0),(6,AA i),(39,.bool true)] (U S) m ?_ (λm' K=>?_)
     . simp[go_sem,AF.j,Or,Z]
       done
     subst K;refine AR 0 (α:=Unit) (λ_=>[(1,.q [Bl R]),(2,.ptr p5 0),(3,.q x.j),(4,.ptr (n+1) 0),(6,AA i)]) (λ_=>U (BA R S (d.rev,d.move))) (λ_ m'=>m<=m') (AP ?_) (λ_ m' K=>?_)
     . refine Ao 2 [(1,.q [Bl R]),(2,.ptr p5 0),(3,.q x.j),(4,.ptr (n+1) 0),(6,AA i),(7,.q [AA d.rev,AA d.move])] (U S) m ?_ (λm' K=>?_);simp[go_sem,AF.j,Or,Z,hd,Dx.h,AZ,AC];refine⟨Ak (Ac (Ub S) hnm) (AC _ _ _),λj y e=>?_⟩;have:=Ub S j y e;rw[AB _ _ nN];exact e;have hge:=EW R d.rev;have F:=fW R 1 false (.inr rfl) hR d.rev;by_cases h0:Am R d.rev≠0/\d.move≠0
       . obtain⟨k,hk⟩:∃k:Nat,Am R d.rev=(k:Int)+1:=⟨(Am R d.rev-1).toNat,by omega⟩
         have B:k<R.length:=by omega
         have c:R≠[]:=λg=>by rw[g]at B;cases B
         obtain⟨z,f,l,q1,q2,q3,q4⟩:=hst S d.rev d.move k hSl hk h0.2 B;have T:(d.move !=0)=true:=by simpa using h0.2
         have A:(0:Int)<(k:Int)+1:=by omega
         have w2:IntKind.i64.wrap (k:Int)=(k:Int):=by rw[D5]<;>omega
         have C:(k:Int)<R.length:=by omega
         have u:k+1<=S.length:=by omega
         rw[hk]at F;rw[<-Us c S,q4];refine Ai 0 [(1,.q [Bl R]),(2,.ptr p5 0),(3,.q x.j),(4,.ptr (n+1) 0),(6,AA i),(7,.q [AA d.rev,AA d.move]),(57,.bool true)] (U S) m' ?_ (λm3 hm3=>?_);simp[go_sem];refine qO F ?_;simp[go_sem,T,A,Or];subst hm3;refine Av (b:=true) nP ?_;simp only[if_true];refine AJ ?_;simp[go_sem,U5 c]
         repeat first|refine⟨by omega,?_⟩|refine nd nQ ?_|refine sq ?_
         refine vw _ _ _ _ _ _ F ?_;simp[go_sem,U5 c,w2]
         repeat first|refine⟨by omega,?_⟩|refine nd nQ ?_|refine sq ?_
         refine vw _ _ _ _ _ _ F ?_;simp[go_sem,Uj c,w2,C,u,q3]
         repeat first|refine⟨by omega,?_⟩|refine nd nQ ?_|refine sq ?_
         refine vw _ _ _ _ _ _ (w88 l z f q2 nN d.move) ?_;simp[go_sem,Uj c,C,u,Or]
         repeat first|refine⟨by omega,?_⟩|refine nd nQ ?_|refine sq ?_
         exact K
       have M:BA R S (d.rev,d.move)=S:=by unfold BA;rw[nR h0]
       rw[M];refine Ai 0 [(1,.q [Bl R]),(2,.ptr p5 0),(3,.q x.j),(4,.ptr (n+1) 0),(6,AA i),(57,.bool false)] (U S) m' ?_ (λm3 hm3=>?_);simp[go_sem];refine qO F ?_;by_cases J:Am R d.rev=0;rw[J];simp[go_sem,Or];have hm0:d.move=0:=wG λg=>h0 ⟨J,g⟩;have A:(0:Int)<Am R d.rev:=by omega
       simp[go_sem,hm0,A,Or];subst hm3;refine Av (b:=false) nP ?_;simp only[qq,if_false];refine AJ ?_;simp[go_sem,Or];exact K
     refine AJ ?_;simp[go_sem,w1,Or,-Int.natCast_add];exact⟨i+1,by omega,⟨by omega,by omega⟩,Or,by rw[<-vT,hsn];exact AE⟩
   have:i=x.Y.length:=by omega
   subst this;refine AJ ?_;simp[go_sem,AF.j];exact hnm
 have hfin:∀L:List (List Int),Cb n (h_ (U L) (n+1) (some (.cells x.j))) m x.h (λv h' n'=>v=x.h/\h'=G L/\n'=n):=λL=>by
  refine .inr ⟨0,x.h,G L,rfl,by simp[AF.h,AF.j,C_,c_,Fd.E.c_,Dx.E.c_,BC.E.c_],λo y e=>?_,rfl,rfl,rfl⟩;have O:=e;rw[P]at O;split at O;obtain⟨q1,q2⟩:=ho o y O;exact⟨by rw[AB _ _ nN,N,AB _ _ nN];exact e,q1,q2⟩;by_cases e3:o=jm;subst e3;rw[AC]at O;cases O;refine⟨by rw[AB _ _ nN,N,AB _ _ nN];exact e,hjn,?_⟩;simp only[Ay];have:∀L:List (List Int),c_ n (L.map EY)=true:=λL=>by
   induction L with
   | nil=>rfl
   | cons a L ih=>
    rw[qg,c_,ih,Bool.and_true];unfold EY;split;rfl;exact FC n a
  exact this L;rw[AB _ _ e3]at O;obtain⟨q1,q2⟩:=ho o y O;exact⟨by rw[AB _ _ nN,N,AB _ _ nN];exact e,q1,q2⟩
 refine AJ ?_;simp[go_sem,AF.j,Un,AC];simpa[AF.h,AF.j]using hfin _
end Go.Proofs.YthinbkgpjmjfeaaGreatDoor.Sh
