/- A part of the proof (part 11 of 17). -/
import Derived.Test.YthinbkgpjmjfeaaGreatDoorN10
namespace Go.Proofs.YthinbkgpjmjfeaaGreatDoor.Sh
open Go.Proofs.Tryz
abbrev ug:=@Jd.same
abbrev wI:=@BF.app
abbrev wL:=@NC.use
open Proofs
set_option maxRecDepth 10000
set_option maxHeartbeats 4000000
theorem TI(l:List AB)(c:l.length<=1048576)(H:∀(i:Nat)(h:i<l.length),NC 156 [(l[i]).h] (SL λa ob=>D6 l[i] a ob)):NC 96 [AH l] (Ha l):=by
 intro h n;refine gq func96 rfl λho=>?_;simp[go_sem];refine wL (lu l c 156 H) ?_;rintro v h1 n1 b;simp[go_sem];exact .inl b
theorem DW.old{_L:SV->DA->Prop}{h:Hp}{n:Nat}{_v:SV}{h':Hp}{n':Nat}{ob:DA}(a:∀k∈AJ ob,n<=k/\k<n')(hh:∀k y,Bw ob h k=some y->h' k=some y){j:Nat}{y:A9}(hj:j<n)(e:h j=some y):h' j=some y:=
 hh j y (by rw[Ay λg=>by have:=(a j g).1;omega];exact e)
theorem IN.look{z len:Nat}{L:List SV->DA->Prop}{v:SV}{ob:DA}(H:IN z len L v ob):(∃z' full,v=.y z' [] full)\/∃j full,v=.sl j 0 z len full:=by
 rcases H with⟨_,h,_⟩|⟨j,full,_,_,h,_⟩
 exact .inl h;exact .inr ⟨j,full,h⟩
theorem Mn{h X h1:Hp}{n m p n1:Nat}{ob:DA}{f:Option A9}(a:∀j y,h j=some y->j<n)(hp:n<=p)(hpm:p<m)(b:∀j y,j≠p->h j=some y->X j=some y)(c:∀k∈AJ ob,m<=k/\k<n1)(hh:∀k y,Bw ob X k=some y->h1 k=some y):∀k y,Bw ob h k=some y->h_ h1 p f k=some y:=λk y e=>by
 by_cases hk:k∈AJ ob;have:=c k hk;rw[AD _ _ mq];refine hh k y ?_;simp only[Bw]at e ⊢;cases d:ob.lookup k with
 | none=>exact absurd hk (Cf.1 d)
 | some z=>rw[d]at e;exact e
 rw[Ay hk]at e;have:=a k y e;rw[AD _ _ mq];refine hh k y ?_;rw[Ay hk];exact b k y mq e
def Ys:Tr:=.pure 0<|.pure 1<|.pure 2<|.pure 3<|.pure 5<|.pure 6<|.one 4<|.one 7<|.one 8<|.one 9 .nil
theorem aG(x:AF)(r:x.H.l)(H:NC 96 [AH x.W] (Ha x.W)):NC 205 [x.h] (SL λd ob=>Eu x d ob):=by
 intro h n;refine FF func205 rfl λi=>?_;have f:=i.lt;refine Bc 1 [(1,.q ([AA x.id]++x.H.j++[AH x.W])),(2,.ptr (n+1) 0)] (h_ h (n+1) (some (.cells [AA 0,.y 0 [] true,AA 0,AA 0,.y 0 [] true,.y 0 [] true,.y 0 [] true]))) (λm=>n+2=m) ?_ (λm hm=>?_);rw[vD];simp[go_sem,Or,AG.j];refine⟨Ap (by rw[AD _ _ mq];exact i.none (IO n)) (by simp[h_]),λj y=>?_⟩;have:=i j y;simp only[h_];grind;subst hm;have p:(h_ h (n+1) (some (.cells [AA 0,.y 0 [] true,AA 0,AA 0,.y 0 [] true,.y 0 [] true,.y 0 [] true]))) (n+1)=some (.cells [AA 0,.y 0 [] true,AA 0,AA 0,.y 0 [] true,.y 0 [] true,.y 0 [] true]):=AE _ _ _;have b:∀j y,j≠n+1->h j=some y->(h_ h (n+1) (some (.cells [AA 0,.y 0 [] true,AA 0,AA 0,.y 0 [] true,.y 0 [] true,.y 0 [] true]))) j=some y:=λj y h1 e=>by rw[AD _ _ h1];exact e
 generalize h_ h (n+1) (some (.cells [AA 0,.y 0 [] true,AA 0,AA 0,.y 0 [] true,.y 0 [] true,.y 0 [] true]))=X at p b ⊢;refine LK (CN Ys rfl mu mu ?_);simp[go_sem,Ys,AG.j];refine qY (by simpa[AG.h,AG.j]using NL x.H r) ?_;simp[go_sem];refine wL H ?_;rintro v h1 n1 ⟨hn1,ob,o,g,a,hh⟩;have c:=DW.old (_L:=Ha x.W) (_v:=v) a hh (show n+1<n+2 by omega) p;have fin:Ce n (h_ h1 (n+1) (some (.cells [AA x.id,AO x.H.Q,AA x.H.I,AA x.H.move,AX x.H.Y,AN x.H.Z,v]))) n1 (.agg [AA x.id,AO x.H.Q,AA x.H.I,AA x.H.move,AX x.H.Y,AN x.H.Z,v]) (DW (SL λd ob=>Eu x d ob) h n):=
  .inl ⟨by omega,ob,⟨_,rfl,by cases x;rw[Eu];exact⟨v,rfl,o⟩⟩,g,λk hk=>by have:=a k hk;omega,Mn f mq mq b a hh⟩
 rcases o.look with⟨z',full,rfl⟩|⟨j,full,rfl⟩
 simp[go_sem,c];refine AK ?_;simp[go_sem,AE];exact fin;simp[go_sem,c];refine AK ?_;simp[go_sem,AE];exact fin
def Yr:Tr:=.pure 0<|.pure 1<|.pure 3<|.pure 4<|.one 2<|.one 5<|.one 6<|.one 7 .nil
theorem aF(x:AL)(r:x.H.l)(H:NC 204 [BS x.cells,.fn (.func 205) [] []] (IN 7 x.cells.length λb ob=>BJ x.cells b ob)):NC 158 [x.h] (SL λb ob=>Gc x b ob):=by
 intro h n;refine FF func158 rfl λi=>?_;have f:=i.lt;refine Bc 1 [(1,.q (x.H.j++[BS x.cells])),(2,.ptr (n+1) 0)] (h_ h (n+1) (some (.cells [.y 0 [] true,AA 0,AA 0,.y 0 [] true,.y 0 [] true,.y 0 [] true]))) (λm=>n+2=m) ?_ (λm hm=>?_);rw[qR];simp[go_sem,Or,AG.j];refine⟨Ap (by rw[AD _ _ mq];exact i.none (IO n)) (by simp[h_]),λj y=>?_⟩;have:=i j y;simp only[h_];grind;subst hm;have p:(h_ h (n+1) (some (.cells [.y 0 [] true,AA 0,AA 0,.y 0 [] true,.y 0 [] true,.y 0 [] true]))) (n+1)=some (.cells [.y 0 [] true,AA 0,AA 0,.y 0 [] true,.y 0 [] true,.y 0 [] true]):=AE _ _ _;have c:∀j y,j≠n+1->h j=some y->(h_ h (n+1) (some (.cells [.y 0 [] true,AA 0,AA 0,.y 0 [] true,.y 0 [] true,.y 0 [] true]))) j=some y:=λj y h1 e=>by rw[AD _ _ h1];exact e
 generalize h_ h (n+1) (some (.cells [.y 0 [] true,AA 0,AA 0,.y 0 [] true,.y 0 [] true,.y 0 [] true]))=X at p c ⊢;refine LK (CN Yr rfl mu mu ?_);simp[go_sem,Yr,AG.j];refine qY (by simpa[AG.h,AG.j]using NL x.H r) ?_;simp[go_sem];refine wL H ?_;rintro v h1 n1 ⟨hn1,ob,o,g,a,hh⟩;have d:=DW.old (_L:=Ha []) (_v:=v) a hh (show n+1<n+2 by omega) p;have fin:Ce n (h_ h1 (n+1) (some (.cells [AO x.H.Q,AA x.H.I,AA x.H.move,AX x.H.Y,AN x.H.Z,v]))) n1 (.agg [AO x.H.Q,AA x.H.I,AA x.H.move,AX x.H.Y,AN x.H.Z,v]) (DW (SL λb ob=>Gc x b ob) h n):=
  .inl ⟨by omega,ob,⟨_,rfl,by cases x;rw[Gc];exact⟨v,rfl,o⟩⟩,g,λk hk=>by have:=a k hk;omega,Mn f mq mq c a hh⟩
 rcases o.look with⟨z',full,rfl⟩|⟨j,full,rfl⟩
 simp[go_sem,d];refine AK ?_;simp[go_sem,AE];exact fin;simp[go_sem,d];refine AK ?_;simp[go_sem,AE];exact fin
def Yq:Qi:=(.pure 0 (.pure 3 (.pure 6 (.three 1 4 7 (.three 2 4 7 (.two 4 7 (.two 5 7 (.one 7 (.pure 9 (.one 8 (.one 10 (.pure 11 (.one 12 (.pure 13 (.one 14 .nil)))))))) (.pure 9 (.one 5 (.one 8 (.one 10 (.pure 11 (.one 12 (.pure 13 (.one 14 .nil))))))))) (.one 4 (.pure 9 (.one 5 (.one 8 (.one 10 (.pure 11 (.one 12 (.pure 13 (.one 14 .nil)))))))))) (.two 2 7 (.two 5 7 (.one 7 (.pure 9 (.one 8 (.one 10 (.pure 11 (.one 12 (.pure 13 (.one 14 .nil)))))))) (.pure 9 (.one 5 (.one 8 (.one 10 (.pure 11 (.one 12 (.pure 13 (.one 14 .nil))))))))) (.one 2 (.pure 9 (.one 5 (.one 8 (.one 10 (.pure 11 (.one 12 (.pure 13 (.one 14 .nil)))))))))) (.two 2 4 (.one 4 (.pure 9 (.one 5 (.one 8 (.one 10 (.pure 11 (.one 12 (.pure 13 (.one 14 .nil))))))))) (.one 2 (.pure 9 (.one 5 (.one 8 (.one 10 (.pure 11 (.one 12 (.pure 13 (.one 14 .nil))))))))))) (.two 1 7 (.two 2 7 (.two 5 7 (.one 7 (.pure 9 (.one 8 (.one 10 (.pure 11 (.one 12 (.pure 13 (.one 14 .nil)))))))) (.pure 9 (.one 5 (.one 8 (.one 10 (.pure 11 (.one 12 (.pure 13 (.one 14 .nil))))))))) (.one 2 (.pure 9 (.one 5 (.one 8 (.one 10 (.pure 11 (.one 12 (.pure 13 (.one 14 .nil)))))))))) (.one 1 (.one 2 (.pure 9 (.one 5 (.one 8 (.one 10 (.pure 11 (.one 12 (.pure 13 (.one 14 .nil))))))))))) (.two 1 4 (.two 2 4 (.one 4 (.pure 9 (.one 5 (.one 8 (.one 10 (.pure 11 (.one 12 (.pure 13 (.one 14 .nil))))))))) (.one 2 (.pure 9 (.one 5 (.one 8 (.one 10 (.pure 11 (.one 12 (.pure 13 (.one 14 .nil)))))))))) (.one 1 (.one 2 (.pure 9 (.one 5 (.one 8 (.one 10 (.pure 11 (.one 12 (.pure 13 (.one 14 .nil)))))))))))))))
theorem IN.st{z len:Nat}{L:List SV->DA->Prop}{v:SV}{ob:DA}(H:IN z len L v ob):v.B=true/\v.cells=[v]:=by
 rcases H.look with⟨z',full,rfl⟩|⟨j,full,rfl⟩<;>exact⟨rfl,rfl⟩
theorem aE(x:AB)(hs:x.H.l)(U:NC 96 [AH x.W] (Ha x.W))(V:NC 157 [Au x.R,.fn (.func 158) [] []] (IN 6 x.R.length λr ob=>Bg x.R r ob)):NC 156 [x.h] (SL λr ob=>D6 x r ob):=by
 intro h n;refine FF func156 rfl λho=>?_;have t:=ho.lt;refine Bc 0 [(1,.ptr n 0),(2,.ptr (n+1) 0)] (h_ (h_ h n (some (.cells [AA x.x,AA x.code,AA x.id,.str x.J,AO x.H.Q,AA x.H.I,AA x.H.move,AX x.H.Y,AN x.H.Z,AH x.W,Au x.R]))) (n+1) (some (.cells [AA 0,AA 0,AA 0,.str .empty,.y 0 [] true,AA 0,AA 0,.y 0 [] true,.y 0 [] true,.y 0 [] true,.y 0 [] true]))) (λm=>n+2=m) ?_ (λm hm=>?_);rw[qy];simp[go_sem,Or,SV.cells];subst hm;obtain⟨X,A⟩:∃X:Hp,X=h_ (h_ h n (some (.cells [AA x.x,AA x.code,AA x.id,.str x.J,AO x.H.Q,AA x.H.I,AA x.H.move,AX x.H.Y,AN x.H.Z,AH x.W,Au x.R]))) (n+1) (some (.cells [AA 0,AA 0,AA 0,.str .empty,.y 0 [] true,AA 0,AA 0,.y 0 [] true,.y 0 [] true,.y 0 [] true,.y 0 [] true])):=⟨_,rfl⟩
 have O:X n=some (.cells [AA x.x,AA x.code,AA x.id,.str x.J,AO x.H.Q,AA x.H.I,AA x.H.move,AX x.H.Y,AN x.H.Z,AH x.W,Au x.R]):=by rw[A,AD _ _ mq,AE]
 have hy:X (n+1)=some (.cells [AA 0,AA 0,AA 0,.str .empty,.y 0 [] true,AA 0,AA 0,.y 0 [] true,.y 0 [] true,.y 0 [] true,.y 0 [] true]):=by rw[A,AE]
 have G:∀j y,j<n->h j=some y->X j=some y:=λj y h1 e=>by rw[A,AD _ _ mq,AD _ _ mq];exact e
 rw[<-A];clear A;have K:n≠n+1:=by omega
 refine LK (PV Yq rfl mu mu ?_);simp[go_sem,Yq,O]
 repeat' (with_reducible refine And.intro ?_ ?_)
 all_goals
  refine qY (by simpa[AG.h,AG.j]using NL x.H hs) ?_;simp[go_sem,O]
 all_goals repeat' (with_reducible refine And.intro ?_ ?_)
 all_goals
  refine wL U ?_;rintro q h1 n1 ⟨hn1,f,u,D,c,o⟩;have F:=DW.old (_L:=Ha []) (_v:=q) c o (show n<n+2 by omega) O;have M:=DW.old (_L:=Ha []) (_v:=q) c o (show n+1<n+2 by omega) hy;simp[go_sem,F]
 all_goals repeat' (with_reducible refine And.intro ?_ ?_)
 all_goals
  refine wL V ?_;rintro p h2 n2 ⟨hn2,i,w,E,d,g⟩;have P:=DW.old (_L:=Ha []) (_v:=p) d g (show n<n1 by omega) F;have N:=DW.old (_L:=Ha []) (_v:=p) d g (show n+1<n1 by omega) M;have fin:Ce n (h_ (h_ h2 n (some (.cells [AA x.x,AA x.code,AA x.id,.str x.J,AO x.H.Q,AA x.H.I,AA x.H.move,AX x.H.Y,AN x.H.Z,q,p]))) (n+1) (some (.cells [AA x.x,AA x.code,AA x.id,.str x.J,AO x.H.Q,AA x.H.I,AA x.H.move,AX x.H.Y,AN x.H.Z,q,p]))) n2 (.agg [AA x.x,AA x.code,AA x.id,.str x.J,AO x.H.Q,AA x.H.I,AA x.H.move,AX x.H.Y,AN x.H.Z,q,p]) (DW (SL λr ob=>D6 x r ob) h n):=by
   refine .inl ⟨by omega,f++i,⟨_,rfl,by cases x;rw[D6];exact⟨q,f,p,i,rfl,rfl,u,w⟩⟩,?_,λk hk=>?_,λk y e=>?_⟩;rw[AJ,qc,qu];exact⟨D,E,λa ha b hb e=>by have:=(c a ha).2;have:=(d b hb).1;omega⟩;rw[AJ,qc,qd]at hk;rcases hk with hk|hk;have:=c k hk;omega;have:=d k hk;omega;have C:k≠n/\k≠n+1:=by
    by_cases hk:k∈AJ (f++i);rw[AJ,qc,qd]at hk;rcases hk with hk|hk;have:=c k hk;omega;have:=d k hk;omega;rw[Ay hk]at e;have:=t k y e;omega
   rw[AD _ _ C.2,AD _ _ C.1];rw[Ii]at e;by_cases S:k∈AJ f;have e3:f.lookup k=some y:=by
    simp only[Bw]at e;cases s:f.lookup k with
    | none=>exact absurd S (Cf.1 s)
    | some z=>rw[s]at e;exact e
   exact DW.old (_L:=Ha []) (_v:=p) d g (c k S).2 (o k y (by simp only[Bw,e3]));rw[Ay S]at e;by_cases T:k∈AJ i;refine g k y ?_;simp only[Bw]at e ⊢;cases s:i.lookup k with
   | none=>exact absurd T (Cf.1 s)
   | some z=>rw[s]at e;exact e
   rw[Ay T]at e;have:=t k y e;exact DW.old (_L:=Ha []) (_v:=p) d g mq (DW.old (_L:=Ha []) (_v:=q) c o mq (G k y this e))
  obtain⟨s1,s2⟩:=u.st;obtain⟨s3,s4⟩:=w.st;unfold SV.B at s1 s3;unfold SV.cells at s2 s4;simp[go_sem,P,s1,s2,s3,s4,AE,Ad];refine AK ?_;simp[go_sem,AE,AD,N];exact fin
mutual
theorem lw:∀x:AB,x.l->NC 156 [x.h] (SL λa ob=>D6 x a ob)
 | .mk k c i t hd f r,hs=>by
  rw[AB.l]at hs;exact aE (.mk k c i t hd f r) hs.2.1 (TI f hs.2.2.1 (UW f hs.2.2.2.2.1)) (lx r hs.2.2.2.1 158 (bR r hs.2.2.2.2.2))
theorem UW:∀l:List AB,AB.G l->∀(i:Nat)(h:i<l.length),NC 156 [(l[i]).h] (SL λa ob=>D6 l[i] a ob)
 | [],_,i,h=>by simp at h
 | x::l,hs,0,_=>by rw[AB.G]at hs;exact lw x hs.1
 | x::l,hs,i+1,h=>by rw[AB.G]at hs;exact UW l hs.2 i (by simpa using h)
theorem ly:∀x:AL,x.l->NC 158 [x.h] (SL λa ob=>Gc x a ob)
 | .mk hd c,hs=>by
  rw[AL.l]at hs;exact aF (.mk hd c) hs.1 (l8 c hs.2.1 205 (bS c hs.2.2))
theorem bR:∀l:List AL,AL.G l->∀(i:Nat)(h:i<l.length),NC 158 [(l[i]).h] (SL λa ob=>Gc l[i] a ob)
 | [],_,i,h=>by simp at h
 | x::l,hs,0,_=>by rw[AL.G]at hs;exact ly x hs.1
 | x::l,hs,i+1,h=>by rw[AL.G]at hs;exact bR l hs.2 i (by simpa using h)
theorem l9:∀x:AF,x.l->NC 205 [x.h] (SL λa ob=>Eu x a ob)
 | .mk i hd f,hs=>by
  rw[AF.l]at hs;exact aG (.mk i hd f) hs.1 (TI f hs.2.1 (UW f hs.2.2))
theorem bS:∀l:List AF,AF.G l->∀(i:Nat)(h:i<l.length),NC 205 [(l[i]).h] (SL λa ob=>Eu l[i] a ob)
 | [],_,i,h=>by simp at h
 | x::l,hs,0,_=>by rw[AF.G]at hs;exact l9 x hs.1
 | x::l,hs,i+1,h=>by rw[AF.G]at hs;exact bS l hs.2 i (by simpa using h)
end
theorem n96(l:List AB)(a:l.length<=1048576)(b:AB.G l):NC 96 [AH l] (Ha l):=TI l a (UW l b)
def RnQ(l:List AB)(c:Int)(v:SV)(ob:DA)(q:Nat)(H:Hp)(n:Nat)(r:SV)(h':Hp)(n':Nat):Prop:=
 r=.tup []/\n'=n/\∃ob',AJ ob'=AJ ob/\Ha (Cu c l).1 v ob'/\BF ob' h'/\h' q=some (.cells [AA (Cu c l).2])/\∀k,k∉AJ ob->k≠q->h' k=H k
def Y8(l:List AB):Prop:=∀(c:Int)(v:SV)(ob:DA)(q:Nat)(H:Hp)(n:Nat),Ha l v ob->BF ob H->(AJ ob).Nodup->q∉AJ ob->H q=some (.cells [AA c])->0<=c->(Cu c l).2<=1099511627776->BP prog 132 [v,.ptr q 0] H n (RnQ l c v ob q H n)
structure ZN where
 i:Nat
 cA:List SV
 cD:List SV
 oA:DA
 oD:DA
 hh:Hp
def ai(l:List AB)(c:Int)(j:Nat)(ks:List Nat)(q:Nat)(H:Hp)(s:ZN):Prop:=
 s.i<=l.length/\BK (Cu c (l.take s.i)).1 s.cA s.oA/\BK (l.drop s.i) s.cD s.oD/\AJ (s.oA++s.oD)=ks/\BF ((j,.cells (s.cA++s.cD))::(s.oA++s.oD)) s.hh/\s.hh q=some (.cells [AA (Cu c (l.take s.i)).2])/\∀k,k∉j::ks->k≠q->s.hh k=H k
def U2(l:List AL)(c:Int)(j:Nat)(ks:List Nat)(q:Nat)(H:Hp)(s:ZN):Prop:=
 s.i<=l.length/\Bg (Do c (l.take s.i)).1 s.cA s.oA/\Bg (l.drop s.i) s.cD s.oD/\AJ (s.oA++s.oD)=ks/\BF ((j,.cells (s.cA++s.cD))::(s.oA++s.oD)) s.hh/\s.hh q=some (.cells [AA (Do c (l.take s.i)).2])/\∀k,k∉j::ks->k≠q->s.hh k=H k
def V7(l:List AF)(c:Int)(j:Nat)(ks:List Nat)(q:Nat)(H:Hp)(s:ZN):Prop:=
 s.i<=l.length/\BJ (Dm c (l.take s.i)).1 s.cA s.oA/\BJ (l.drop s.i) s.cD s.oD/\AJ (s.oA++s.oD)=ks/\BF ((j,.cells (s.cA++s.cD))::(s.oA++s.oD)) s.hh/\s.hh q=some (.cells [AA (Dm c (l.take s.i)).2])/\∀k,k∉j::ks->k≠q->s.hh k=H k
theorem Ac(a b:DA):AJ (a++b)=AJ a++AJ b:=qc
theorem ai.next{l:List AB}{c ci:Int}{j:Nat}{ks:List Nat}{q:Nat}{H:Hp}{i:Nat}{x:AB}{cA c1' c2:List SV}{oA o1 o1' o2:DA}{hh h':Hp}(hlt:i<l.length)(htk:Cu c (l.take (i+1))=((Cu c (l.take i)).1++[(Fi ci x).1],(Fi ci x).2))
 (hA:BK (Cu c (l.take i)).1 cA oA) (hD:BK (l.drop (i+1)) c2 o2) (hks:AJ (oA++(o1++o2))=ks) (hob:BF (oA++(o1++o2)) hh) (hoff:∀k,k∉j::ks->k≠q->hh k=H k) (hnd:ks.Nodup) (hjk:j∉ks) (hqk:q∉ks)
 (hX:D6 (Fi ci x).1 c1' o1') (hk1:AJ o1'=AJ o1) (ho1:BF o1' h') (hj':h' j=some (.cells (cA++(c1'++c2)))) (hq':h' q=some (.cells [AA (Fi ci x).2])) (hoff':∀k,k≠j->k∉AJ o1->k≠q->h' k=hh k):
 ai l c j ks q H ⟨i+1,cA++c1',c2,oA++o1',o2,h'⟩:=by
 have hnd2:=hnd;rw[<-hks,Ac,Ac,qu]at hnd2;obtain⟨n1,n2,n3⟩:=hnd2;rw[qu]at n2;obtain⟨n4,n5,n6⟩:=n2;obtain⟨hoA,hob2⟩:=wI.1 hob;obtain⟨_,hoD⟩:=wI.1 hob2;have inA:∀k∈AJ oA,k∈ks:=λk hk=>by rw[<-hks,Ac];exact qz _ hk
 have in1:∀k∈AJ o1,k∈ks:=λk hk=>by rw[<-hks,Ac,Ac];exact qx _ (qz _ hk)
 have inD:∀k∈AJ o2,k∈ks:=λk hk=>by rw[<-hks,Ac,Ac];exact qx _ (qx _ hk)
 refine⟨hlt,?_,hD,?_,?_,by simp only[htk];exact hq',λk h1 h2=>?_⟩;simp only[htk];rw[HG];exact⟨cA,c1',oA,o1',rfl,rfl,hA,by rw[BK];exact⟨c1',[],o1',[],by simp,by simp,hX,by rw[BK];exact⟨rfl,rfl⟩⟩⟩;simp only[Ac,hk1]at hks ⊢;rw[<-hks];simp;intro p hp;dsimp only at hp ⊢;rcases qe.1 hp with rfl|hp;show h' j=_;rw[hj',qr];rcases qd.1 hp with hp|hp;rcases qd.1 hp with hp|hp;have hk:p.1∈AJ oA:=qa.2 ⟨p,hp,rfl⟩;rw[hoff' p.1 (λe=>hjk (e▸inA _ hk)) (λg=>n3 _ hk _ (qz _ g) rfl) (λe=>hqk (e▸inA _ hk))];exact hoA p hp;exact ho1 p hp;have hk:p.1∈AJ o2:=qa.2 ⟨p,hp,rfl⟩;rw[hoff' p.1 (λe=>hjk (e▸inD _ hk)) (λg=>n6 _ g _ hk rfl) (λe=>hqk (e▸inD _ hk))];exact hoD p hp;dsimp only;rw[hoff' k (λe=>h1 (by simp[e])) (λg=>h1 (qP _ (in1 k g))) h2];exact hoff k h1 h2
theorem U2.next{l:List AL}{c ci:Int}{j:Nat}{ks:List Nat}{q:Nat}{H:Hp}{i:Nat}{x:AL}{cA c1' c2:List SV}{oA o1 o1' o2:DA}{hh h':Hp}(hlt:i<l.length)(htk:Do c (l.take (i+1))=((Do c (l.take i)).1++[(Ib ci x).1],(Ib ci x).2))
 (hA:Bg (Do c (l.take i)).1 cA oA) (hD:Bg (l.drop (i+1)) c2 o2) (hks:AJ (oA++(o1++o2))=ks) (hob:BF (oA++(o1++o2)) hh) (hoff:∀k,k∉j::ks->k≠q->hh k=H k) (hnd:ks.Nodup) (hjk:j∉ks) (hqk:q∉ks)
 (hX:Gc (Ib ci x).1 c1' o1') (hk1:AJ o1'=AJ o1) (ho1:BF o1' h') (hj':h' j=some (.cells (cA++(c1'++c2)))) (hq':h' q=some (.cells [AA (Ib ci x).2])) (hoff':∀k,k≠j->k∉AJ o1->k≠q->h' k=hh k):
 U2 l c j ks q H ⟨i+1,cA++c1',c2,oA++o1',o2,h'⟩:=by
 have hnd2:=hnd;rw[<-hks,Ac,Ac,qu]at hnd2;obtain⟨n1,n2,n3⟩:=hnd2;rw[qu]at n2;obtain⟨n4,n5,n6⟩:=n2;obtain⟨hoA,hob2⟩:=wI.1 hob;obtain⟨_,hoD⟩:=wI.1 hob2;have inA:∀k∈AJ oA,k∈ks:=λk hk=>by rw[<-hks,Ac];exact qz _ hk
 have in1:∀k∈AJ o1,k∈ks:=λk hk=>by rw[<-hks,Ac,Ac];exact qx _ (qz _ hk)
 have inD:∀k∈AJ o2,k∈ks:=λk hk=>by rw[<-hks,Ac,Ac];exact qx _ (qx _ hk)
 refine⟨hlt,?_,hD,?_,?_,by simp only[htk];exact hq',λk h1 h2=>?_⟩;simp only[htk];rw[Hy];exact⟨cA,c1',oA,o1',rfl,rfl,hA,by rw[Bg];exact⟨c1',[],o1',[],by simp,by simp,hX,by rw[Bg];exact⟨rfl,rfl⟩⟩⟩;simp only[Ac,hk1]at hks ⊢;rw[<-hks];simp;intro p hp;dsimp only at hp ⊢;rcases qe.1 hp with rfl|hp;show h' j=_;rw[hj',qr];rcases qd.1 hp with hp|hp;rcases qd.1 hp with hp|hp;have hk:p.1∈AJ oA:=qa.2 ⟨p,hp,rfl⟩;rw[hoff' p.1 (λe=>hjk (e▸inA _ hk)) (λg=>n3 _ hk _ (qz _ g) rfl) (λe=>hqk (e▸inA _ hk))];exact hoA p hp;exact ho1 p hp;have hk:p.1∈AJ o2:=qa.2 ⟨p,hp,rfl⟩;rw[hoff' p.1 (λe=>hjk (e▸inD _ hk)) (λg=>n6 _ g _ hk rfl) (λe=>hqk (e▸inD _ hk))];exact hoD p hp;dsimp only;rw[hoff' k (λe=>h1 (by simp[e])) (λg=>h1 (qP _ (in1 k g))) h2];exact hoff k h1 h2
theorem V7.next{l:List AF}{c ci:Int}{j:Nat}{ks:List Nat}{q:Nat}{H:Hp}{i:Nat}{x:AF}{cA c1' c2:List SV}{oA o1 o1' o2:DA}{hh h':Hp}(hlt:i<l.length)(htk:Dm c (l.take (i+1))=((Dm c (l.take i)).1++[(Ia ci x).1],(Ia ci x).2))
 (hA:BJ (Dm c (l.take i)).1 cA oA) (hD:BJ (l.drop (i+1)) c2 o2) (hks:AJ (oA++(o1++o2))=ks) (hob:BF (oA++(o1++o2)) hh) (hoff:∀k,k∉j::ks->k≠q->hh k=H k) (hnd:ks.Nodup) (hjk:j∉ks) (hqk:q∉ks)
 (hX:Eu (Ia ci x).1 c1' o1') (hk1:AJ o1'=AJ o1) (ho1:BF o1' h') (hj':h' j=some (.cells (cA++(c1'++c2)))) (hq':h' q=some (.cells [AA (Ia ci x).2])) (hoff':∀k,k≠j->k∉AJ o1->k≠q->h' k=hh k):
 V7 l c j ks q H ⟨i+1,cA++c1',c2,oA++o1',o2,h'⟩:=by
 have hnd2:=hnd;rw[<-hks,Ac,Ac,qu]at hnd2;obtain⟨n1,n2,n3⟩:=hnd2;rw[qu]at n2;obtain⟨n4,n5,n6⟩:=n2;obtain⟨hoA,hob2⟩:=wI.1 hob;obtain⟨_,hoD⟩:=wI.1 hob2;have inA:∀k∈AJ oA,k∈ks:=λk hk=>by rw[<-hks,Ac];exact qz _ hk
 have in1:∀k∈AJ o1,k∈ks:=λk hk=>by rw[<-hks,Ac,Ac];exact qx _ (qz _ hk)
 have inD:∀k∈AJ o2,k∈ks:=λk hk=>by rw[<-hks,Ac,Ac];exact qx _ (qx _ hk)
 refine⟨hlt,?_,hD,?_,?_,by simp only[htk];exact hq',λk h1 h2=>?_⟩;simp only[htk];rw[HE];exact⟨cA,c1',oA,o1',rfl,rfl,hA,by rw[BJ];exact⟨c1',[],o1',[],by simp,by simp,hX,by rw[BJ];exact⟨rfl,rfl⟩⟩⟩;simp only[Ac,hk1]at hks ⊢;rw[<-hks];simp;intro p hp;dsimp only at hp ⊢;rcases qe.1 hp with rfl|hp;show h' j=_;rw[hj',qr];rcases qd.1 hp with hp|hp;rcases qd.1 hp with hp|hp;have hk:p.1∈AJ oA:=qa.2 ⟨p,hp,rfl⟩;rw[hoff' p.1 (λe=>hjk (e▸inA _ hk)) (λg=>n3 _ hk _ (qz _ g) rfl) (λe=>hqk (e▸inA _ hk))];exact hoA p hp;exact ho1 p hp;have hk:p.1∈AJ o2:=qa.2 ⟨p,hp,rfl⟩;rw[hoff' p.1 (λe=>hjk (e▸inD _ hk)) (λg=>n6 _ g _ hk rfl) (λe=>hqk (e▸inD _ hk))];exact hoD p hp;dsimp only;rw[hoff' k (λe=>h1 (by simp[e])) (λg=>h1 (qP _ (in1 k g))) h2];exact hoff k h1 h2
theorem Pi(l:List AB)(hl:l.length<=1048576)(hr:∀x∈l,x.R.length<=1048576/\∀r∈x.R,r.cells.length<=1048576)(ih:∀x∈l,Y8 x.W/\∀r∈x.R,∀e∈r.cells,Y8 e.W):Y8 l:=by
 intro c v ob q H n hL ho hnd hq hHq hc0 hcb;refine goS func132 rfl mu mu ms λBA=>?_;rcases hL with⟨hl0,⟨z',full,rfl⟩,rfl⟩|⟨j,full,cs,sub,rfl,rfl,hcs⟩
 have:l=[]:=vb.1 hl0;subst this;refine Al 0 [(9,AA 0),(10,AA 0)] H n ?_ (λm hm=>?_);simp[go_sem,Or];subst hm;refine AP (Aq 0 (α:=Unit) (λ_=>[(9,AA 0),(10,AA 0)]) (λ_=>H) (λ_ m=>m=n) (λ_=>0) () rfl (by simp[look,Or]) AC ?_);rintro _ m rfl;refine AK ?_;simp[go_sem];exact .inl ⟨rfl,rfl,[],rfl,.inl ⟨by rw[Cu];rfl,⟨_,_,rfl⟩,rfl⟩,(λp hp=>by cases hp),(by rw[Cu];exact hHq),λ_ _ _=>rfl⟩
 . obtain⟨hj0,ho0⟩:=wI (a:=[(j,.cells cs)]) (b:=sub) |>.1 ho;have hjq:j≠q:=by rintro rfl;exact hq mr
   obtain⟨hjs,hns⟩:j∉AJ sub/\(AJ sub).Nodup:=qU.1 hnd;have hqs:q∉AJ sub:=λg=>hq (qP _ g);have ltO:∀k x,H k=some x->k<n:=λk x hx=>(BA k x hx).1;have ltq:q<n:=ltO _ _ hHq;have ltj:j<n:=ltO _ _ (ho (j,.cells cs) mr);have lts:∀k∈AJ sub,k<n:=λk hk=>by
    obtain⟨p,hp,rfl⟩:=qa.1 hk;exact ltO _ _ (ho p (qP _ hp))
   refine Al 0 [(0,.sl j 0 11 l.length full),(1,.ptr q 0),(9,AA l.length),(10,AA 0)] H n ?_ (λm hm=>?_);simp[go_sem,Or];subst hm;refine AP (Aq 0 (α:=ZN) (λs=>[(0,.sl j 0 11 l.length full),(1,.ptr q 0),(9,AA l.length),(10,AA s.i)]) (λs=>s.hh)
    (λs m=>m=n/\ai l c j (AJ sub) q H s) (λs=>l.length-s.i) ⟨0,[],cs,[],sub,H⟩ ⟨rfl,qj _,by rw[vk,Cu,BK];exact⟨rfl,rfl⟩,hcs,rfl,ho,by rw[vk,Cu];exact hHq,λ_ _ _=>rfl⟩ ?_ AC ?_)
   simp[go_sem,look,Or];rintro⟨i,cA,cD,oA,oD,hh⟩ m ⟨rfl,hi,hA,hD,hks,hob,hhq,hoff⟩;dsimp only at hi hA hD hks hob hhq hoff ⊢;by_cases hlt:i<l.length
   · have w1 := wS i mq
     obtain⟨x,hx⟩:∃x,l[i]=x:=⟨_,rfl⟩
     have hxm:x∈l:=hx▸qn hlt;obtain⟨ihf,ihr⟩:=ih x hxm;obtain⟨hr1,hr2⟩:=hr x hxm;have htk:=YA hlt hx c;have hle:=dc l (i+1) c;have hup:c<=(Cu c (l.take i)).2:=Lh _ _;have hcl:cA.length=i*11:=by rw[Ft _ _ _ hA,QA,vu];congr 1;omega
     rw[qA hlt,hx,BK]at hD;obtain⟨c1,c2,o1,o2,rfl,rfl,hX,hD⟩:=hD;generalize hci:(Cu c (l.take i)).2=ci at htk hup hhq;rw[htk]at hle;dsimp only at hle;refine Al 0 [(0,.sl j 0 11 l.length full),(1,.ptr q 0),(9,AA l.length),(10,AA i),(11,.bool true)] hh m ?_ (λm' hm'=>?_);simp[go_sem,Or,hlt];subst hm';refine Al 0 [(0,.sl j 0 11 l.length full),(1,.ptr q 0),(9,AA l.length),(10,AA i)] hh m ?_ (λm' hm'=>?_);simp[go_sem,Or];subst hm';refine AV 0 (α:=ZN) (λs=>[(0,.sl j 0 11 l.length full),(1,.ptr q 0),(9,AA l.length),(10,AA i)]) (λs=>s.hh) (λs m'=>m'=m/\s.i=i+1/\ai l c j (AJ sub) q H s) (AP ?_) (λs m' hs=>?_)
     . cases x with
       | mk k co id t hd f r=>
        rw[D6]at hX;obtain⟨vf,p1,vr,p2,rfl,rfl,hF,hR⟩:=hX;simp only[AB.W,AB.R]at ihf ihr hr1 hr2;have hj:=hob (j,.cells (cA++([AA k,AA co,AA id,.str t]++hd.j++[vf,vr]++c2))) mr;refine Al 0 [(0,.sl j 0 11 l.length full),(1,.ptr q 0),(9,AA l.length),(10,AA i),(4,AA i)] hh m ?_ (λm' hm'=>?_);simp[go_sem,Or];subst hm';refine Al 0 [(0,.sl j 0 11 l.length full),(1,.ptr q 0),(9,AA l.length),(10,AA i),(4,AA i),(5,.ptr j (i*11))] hh m ?_ (λm' hm'=>?_);simp[go_sem,Or,hlt];subst hm';have hF5:[AA k,AA co,AA id,.str t]++hd.j++[vf,vr]++c2=AA k::AA co::AA id::.str t::AO hd.Q::AA hd.I::AA hd.move::AX hd.Y::AN hd.Z::vf::vr::c2:=by simp[AG.j]
        rw[hF5]at hj;refine Al 0 [(0,.sl j 0 11 l.length full),(1,.ptr q 0),(9,AA l.length),(10,AA i),(4,AA i),(5,.ptr j (i*11)),(19,AA k)] hh m ?_ (λm' hm'=>?_)
        . simp[go_sem,Or,hj,Am hcl,hcl,qq]
          done
        subst hm';refine AP ?_;have w2:IntKind.i64.wrap (ci+1)=ci+1:=EU mq (by have:=X8 (.mk k co id t hd f r) ci;omega);by_cases h6:k=6
        . subst h6;have hrI:Fi ci (.mk 6 co id t hd f r)=(.mk 6 co (ci+1) t hd (Cu (ci+1) f).1 r,(Cu (ci+1) f).2):=by rw[Fi,my rfl]
          rw[hrI]at hle;dsimp only at hle;obtain⟨H2,hH2⟩:∃H2:Hp,H2=h_ (h_ hh q (some (.cells [AA (ci+1)]))) j (some (.cells (cA++AA 6::AA co::AA (ci+1)::.str t::AO hd.Q::AA hd.I::AA hd.move::AX hd.Y::AN hd.Z::vf::vr::c2))):=⟨_,rfl⟩
          have e1:∀k,k≠j->k≠q->H2 k=hh k:=λk h1 h2=>by rw[hH2,AD _ _ h1,AD _ _ h2]
          have e2:H2 q=some (.cells [AA (ci+1)]):=by rw[hH2,AD _ _ hjq.symm,AE]
          have e3:H2 j=some (.cells (cA++AA 6::AA co::AA (ci+1)::.str t::AO hd.Q::AA hd.I::AA hd.move::AX hd.Y::AN hd.Z::vf::vr::c2)):=by rw[hH2,AE]
          have hob0:BF (oA++((p1++p2)++o2)) hh:=λp hp=>hob p (qP _ hp);have in1:∀k∈AJ p1,k∈AJ sub:=λk hk=>by rw[<-hks];simp only[Ac,qd];exact .inr (.inl (.inl hk))
          have in2:∀k∈AJ p2,k∈AJ sub:=λk hk=>by rw[<-hks];simp only[Ac,qd];exact .inr (.inl (.inr hk))
          have n12:∀k∈AJ p1,k∉AJ p2:=λk h1 h2=>by
           have:=hns;rw[<-hks]at this;simp only[Ac]at this;have h3:=(qu.1 (qu.1 (qu.1 this).2.1).1).2.2;exact h3 k h1 k h2 rfl
          have np1:(AJ p1).Nodup:=by
           have:=hns;rw[<-hks]at this;simp only[Ac]at this;exact(qu.1 (qu.1 (qu.1 this).2.1).1).1
          have hp1:BF p1 H2:=λp hp=>by
           have hk:p.1∈AJ p1:=qa.2 ⟨p,hp,rfl⟩;rw[e1 p.1 (λe=>hjs (e▸in1 _ hk)) (λe=>hqs (e▸in1 _ hk))];exact hob0 p (by simp[hp])
          have hcall:=ihf (ci+1) vf p1 q H2 m hF hp1 np1 (λg=>hqs (in1 _ g)) e2 mq mq;rw[hH2]at hcall;refine AK ?_;simp[go_sem,w2,hj,hhq,AE,AD _ _ hjq,Av hcl,Ax hcl,hcl,qq];refine qM hcall ?_;rintro r0 h' n' ⟨rfl,rfl,p1',hk1,hF',ho1,hq1,hoff1⟩;rw[<-hH2]at hoff1;simp[go_sem,Or];refine⟨⟨i+1,cA++(AA 6::AA co::AA (ci+1)::.str t::AO hd.Q::AA hd.I::AA hd.move::AX hd.Y::AN hd.Z::[vf,vr]),c2,oA++(p1'++p2),o2,h'⟩,⟨rfl,ai.next (o1:=p1++p2) hlt htk hA hD hks hob0 hoff hns hjs hqs ?_ (by simp only[Ac,hk1]) ?_ ?_ ?_ ?_⟩,AC⟩;rw[hrI,D6];exact⟨vf,p1',vr,p2,by simp[AG.j],rfl,hF',hR⟩;refine wI.2 ⟨ho1,λp hp=>?_⟩;have hk:p.1∈AJ p2:=qa.2 ⟨p,hp,rfl⟩;rw[hoff1 p.1 (λg=>n12 _ g hk) (λe=>hqs (e▸in2 _ hk)),e1 p.1 (λe=>hjs (e▸in2 _ hk)) (λe=>hqs (e▸in2 _ hk))];exact hob0 p (by simp[hp]);rw[hoff1 j (λg=>hjs (in1 _ g)) hjq,e3];simp;rw[hrI];exact hq1;intro k h1 h2 h3;rw[Ac,qd,not_or]at h2;rw[hoff1 k h2.1 h3,e1 k h1 h3]
        . have h6b:((k:Int)==6)=false:=by simp[h6]
          refine Al 0 [(0,.sl j 0 11 l.length full),(1,.ptr q 0),(9,AA l.length),(10,AA i),(5,.ptr j (i*11)),(19,AA k),(20,.bool false)] hh m ?_ (λm' hm'=>?_);simp[go_sem,Or,h6b];subst hm';refine BD (b:=false) ms ?_;simp only[mw Bool.false_ne_true];refine Al 0 [(0,.sl j 0 11 l.length full),(1,.ptr q 0),(9,AA l.length),(10,AA i),(5,.ptr j (i*11)),(39,.bool (k==7))] hh m ?_ (λm' hm'=>?_);simp[go_sem,Or];subst hm';have hob0:BF (oA++((p1++p2)++o2)) hh:=λp hp=>hob p (qP _ hp);have in1:∀k∈AJ p1,k∈AJ sub:=λk hk=>by rw[<-hks];simp only[Ac,qd];exact .inr (.inl (.inl hk))
          have in2:∀k∈AJ p2,k∈AJ sub:=λk hk=>by rw[<-hks];simp only[Ac,qd];exact .inr (.inl (.inr hk))
          have n12:∀k∈AJ p1,k∉AJ p2:=λk h1 h2=>by
           have:=hns;rw[<-hks]at this;simp only[Ac]at this;have h3:=(qu.1 (qu.1 (qu.1 this).2.1).1).2.2;exact h3 k h1 k h2 rfl
          have np2:(AJ p2).Nodup:=by
           have:=hns;rw[<-hks]at this;simp only[Ac]at this;exact(qu.1 (qu.1 (qu.1 this).2.1).1).2.1
          by_cases h7:k=7
          . subst h7;have hrI:Fi ci (.mk 7 co id t hd f r)=(.mk 7 co (ci+1) t hd f (Do (ci+1) r).1,(Do (ci+1) r).2):=by rw[Fi,mw mq,my rfl]
            rw[hrI]at hle;dsimp only at hle;obtain⟨H2,hH2⟩:∃H2:Hp,H2=h_ (h_ hh q (some (.cells [AA (ci+1)]))) j (some (.cells (cA++AA 7::AA co::AA (ci+1)::.str t::AO hd.Q::AA hd.I::AA hd.move::AX hd.Y::AN hd.Z::vf::vr::c2))):=⟨_,rfl⟩
            have e1:∀k,k≠j->k≠q->H2 k=hh k:=λk h1 h2=>by rw[hH2,AD _ _ h1,AD _ _ h2]
            have e2:H2 q=some (.cells [AA (ci+1)]):=by rw[hH2,AD _ _ hjq.symm,AE]
            have e3:H2 j=some (.cells (cA++AA 7::AA co::AA (ci+1)::.str t::AO hd.Q::AA hd.I::AA hd.move::AX hd.Y::AN hd.Z::vf::vr::c2)):=by rw[hH2,AE]
            have hp2:BF p2 H2:=λp hp=>by
             have hk:p.1∈AJ p2:=qa.2 ⟨p,hp,rfl⟩;rw[e1 p.1 (λe=>hjs (e▸in2 _ hk)) (λe=>hqs (e▸in2 _ hk))];exact hob0 p (by simp[hp])
            refine BD (b:=true) ms ?_;simp only[if_true];refine Al 0 [(0,.sl j 0 11 l.length full),(1,.ptr q 0),(9,AA l.length),(10,AA i),(5,.ptr j (i*11))] (h_ hh q (some (.cells [AA (ci+1)]))) m ?_ (λm' hm'=>?_);simp[go_sem,w2,hhq,Or];subst hm';refine Al 0 [(0,.sl j 0 11 l.length full),(1,.ptr q 0),(9,AA l.length),(10,AA i),(5,.ptr j (i*11))] H2 m ?_ (λm' hm'=>?_)
            . rw[hH2];simp[go_sem,hj,AE,AD _ _ hjq,Or,Av hcl,Ax hcl,hcl,qq]
              done
            subst hm';have fin:∀(p2':DA)(h':Hp),AJ p2'=AJ p2->IN 6 (Do (ci+1) r).1.length (λcs ob=>Bg (Do (ci+1) r).1 cs ob) vr p2'->BF p2' h'->h' q=some (.cells [AA (Do (ci+1) r).2])->(∀k,k∉AJ p2->k≠q->h' k=H2 k)->
             ai l c j (AJ sub) q H ⟨i+1,cA++(AA 7::AA co::AA (ci+1)::.str t::AO hd.Q::AA hd.I::AA hd.move::AX hd.Y::AN hd.Z::[vf,vr]),c2,oA++(p1++p2'),o2,h'⟩:=by
             intro p2' h' hk2 hR' ho2 hq2 hoff2;refine ai.next (o1:=p1++p2) hlt htk hA hD hks hob0 hoff hns hjs hqs ?_ (by simp only[Ac,hk2]) ?_ ?_ ?_ ?_;rw[hrI,D6];exact⟨vf,p1,vr,p2',by simp[AG.j],rfl,hF,hR'⟩;refine wI.2 ⟨λp hp=>?_,ho2⟩;have hk:p.1∈AJ p1:=qa.2 ⟨p,hp,rfl⟩;rw[hoff2 p.1 (n12 _ hk) (λe=>hqs (e▸in1 _ hk)),e1 p.1 (λe=>hjs (e▸in1 _ hk)) (λe=>hqs (e▸in1 _ hk))];exact hob0 p (by simp[hp]);rw[hoff2 j (λg=>hjs (in2 _ g)) hjq,e3];simp;rw[hrI];exact hq2;intro k h1 h2 h3;rw[Ac,qd,not_or]at h2;rw[hoff2 k h2.2 h3,e1 k h1 h3]
            clear hH2;rcases hR with⟨hr0,⟨z',full',rfl⟩,rfl⟩|⟨jr,fullr,csr,subr,rfl,rfl,hcsr⟩
            . have:r=[]:=vb.1 hr0;subst this;refine Al 0 [(0,.sl j 0 11 l.length full),(1,.ptr q 0),(9,AA l.length),(10,AA i),(56,AA 0),(57,AA 0)] H2 m ?_ (λm' hm'=>?_)
              . simp[go_sem,e3,Or,Av hcl,hcl,qq]
                done
              subst hm';refine AP (Aq 0 (α:=Unit) (λ_=>[(0,.sl j 0 11 l.length full),(1,.ptr q 0),(9,AA l.length),(10,AA i),(56,AA 0),(57,AA 0)]) (λ_=>H2) (λ_ m'=>m=m') (λ_=>0) () rfl (by simp[look,Or]) AC ?_);rintro _ m' rfl;refine AK ?_;simp[go_sem];refine⟨⟨_,_,_,_,_,H2⟩,⟨rfl,fin [] H2 rfl (by rw[Do];exact .inl ⟨rfl,⟨_,_,rfl⟩,rfl⟩) (λp hp=>by cases hp) (by rw[Do];exact e2) λ_ _ _=>rfl⟩,AC⟩
            . obtain⟨hjrs,hnsr⟩:jr∉AJ subr/\(AJ subr).Nodup:=qU.1 np2;have hjrm:jr∈AJ sub:=in2 jr (by simp[AJ]);have hjjr:j≠jr:=by rintro rfl;exact hjs hjrm
              have hqjr:q≠jr:=by rintro rfl;exact hqs hjrm
              have inr:∀k∈AJ subr,k∈AJ sub:=λk hk=>in2 k (qP _ hk);refine Al 0 [(0,.sl j 0 11 l.length full),(1,.ptr q 0),(9,AA l.length),(10,AA i),(5,.ptr j (i*11)),(56,AA r.length),(57,AA 0)] H2 m ?_ (λm' hm'=>?_)
              . simp[go_sem,e3,Or,Av hcl,hcl,qq]
                done
              subst hm';refine AP (Aq 0 (α:=ZN) (λs=>[(0,.sl j 0 11 l.length full),(1,.ptr q 0),(9,AA l.length),(10,AA i),(5,.ptr j (i*11)),(56,AA r.length),(57,AA s.i)]) (λs=>s.hh)
               (λs m'=>m'=m/\U2 r (ci+1) jr (AJ subr) q H2 s) (λs=>r.length-s.i) ⟨0,[],csr,[],subr,H2⟩ ⟨rfl,qj _,by rw[vk,Do,Bg];exact⟨rfl,rfl⟩,hcsr,rfl,hp2,by rw[vk,Do];exact e2,λ_ _ _=>rfl⟩ ?_ AC ?_)
              simp[go_sem,look,Or];rintro⟨a,cRA,cRD,oRA,oRD,hr0⟩ m2 ⟨rfl,hai,hRA,hRD,hrks,hrob,hrq,hroff⟩;dsimp only at hai hRA hRD hrks hrob hrq hroff ⊢;have hjr3:hr0 j=H2 j:=hroff j (by rintro g;rcases qe.1 g with g|g;exact hjjr g;exact hjs (inr _ g)) hjq;rw[e3]at hjr3;by_cases hlr:a<r.length
              · have w3 := wS a mq
                obtain⟨y,hy⟩:∃y,r[a]=y:=⟨_,rfl⟩
                have hym:y∈r:=hy▸qn hlr;have ihc:=ihr y hym;have hr3:=hr2 y hym;have htkr:=YB hlr hy (ci+1);have hler:=dd r (a+1) (ci+1);have hupr:ci+1<=(Do (ci+1) (r.take a)).2:=QB _ _;have hclr:cRA.length=a*6:=by rw[Jq _ _ _ hRA,Ms,vu];congr 1;omega
                rw[qA hlr,hy,Bg]at hRD;obtain⟨c1r,c2r,o1r,o2r,rfl,rfl,hY,hRD⟩:=hRD;generalize hcr:(Do (ci+1) (r.take a)).2=cr at htkr hupr hrq;rw[htkr]at hler;dsimp only at hler;refine Al 0 [(0,.sl j 0 11 l.length full),(1,.ptr q 0),(9,AA l.length),(10,AA i),(5,.ptr j (i*11)),(56,AA r.length),(57,AA a),(58,.bool true)] hr0 m2 ?_ (λm' hm'=>?_);simp[go_sem,Or,hlr];subst hm';refine Al 0 [(0,.sl j 0 11 l.length full),(1,.ptr q 0),(9,AA l.length),(10,AA i),(5,.ptr j (i*11)),(56,AA r.length),(57,AA a)] hr0 m2 ?_ (λm' hm'=>?_);simp[go_sem,Or];subst hm';refine AV 0 (α:=ZN) (λs=>[(0,.sl j 0 11 l.length full),(1,.ptr q 0),(9,AA l.length),(10,AA i),(5,.ptr j (i*11)),(56,AA r.length),(57,AA a)]) (λs=>s.hh) (λs m'=>m'=m2/\s.i=a+1/\U2 r (ci+1) jr (AJ subr) q H2 s) (AP ?_) (λs m' hs=>?_)
                . cases y with
                  | mk hdr cs =>
                   rw[Gc]at hY;obtain⟨vc,rfl,hC⟩:=hY;simp only[AL.cells]at ihc hr3;have hrI2:Ib cr (.mk hdr cs)=(.mk hdr (Dm cr cs).1,(Dm cr cs).2):=by rw[Ib]
                   rw[hrI2]at hler;dsimp only at hler;have hjr:=hrob (jr,.cells (cRA++(hdr.j++[vc]++c2r))) mr;have hR5:hdr.j++[vc]++c2r=AO hdr.Q::AA hdr.I::AA hdr.move::AX hdr.Y::AN hdr.Z::vc::c2r:=by simp[AG.j]
                   rw[hR5]at hjr;dsimp only at hjr;refine Al 0 [(0,.sl j 0 11 l.length full),(1,.ptr q 0),(9,AA l.length),(10,AA i),(5,.ptr j (i*11)),(56,AA r.length),(57,AA a),(6,AA a)] hr0 m2 ?_ (λm' hm'=>?_);simp[go_sem,Or];subst hm';have hrob0:BF (oRA++(o1r++o2r)) hr0:=λp hp=>hrob p (qP _ hp);have inr1:∀k∈AJ o1r,k∈AJ subr:=λk hk=>by rw[<-hrks];simp only[Ac,qd];exact .inr (.inl hk)
                   have no1:(AJ o1r).Nodup:=by
                    have:=hnsr;rw[<-hrks]at this;simp only[Ac]at this;exact(qu.1 (qu.1 this).2.1).1
                   have hqsr:q∉AJ subr:=λg=>hqs (inr _ g);have fin2:∀(o1':DA)(h':Hp),AJ o1'=AJ o1r->IN 7 (Dm cr cs).1.length (λcs' ob=>BJ (Dm cr cs).1 cs' ob) vc o1'->BF o1' h'->h' q=some (.cells [AA (Dm cr cs).2])->(∀k,k∉AJ o1r->k≠q->h' k=hr0 k)->
                    U2 r (ci+1) jr (AJ subr) q H2 ⟨a+1,cRA++(hdr.j++[vc]),c2r,oRA++o1',o2r,h'⟩:=by
                    intro o1' h' hk2 hC' ho2 hq2 hoff2;refine U2.next (o1:=o1r) hlr htkr hRA hRD hrks hrob0 hroff hnsr hjrs hqsr ?_ hk2 ho2 ?_ ?_ ?_;rw[hrI2,Gc];exact⟨vc,rfl,hC'⟩;rw[hoff2 jr (λg=>hjrs (inr1 _ g)) hqjr.symm,hjr,hR5.symm];rw[hrI2];exact hq2;intro k h1 h2 h3;rw[hoff2 k h2 h3]
                   have ho1r:BF o1r hr0:=(wI.1 (wI.1 hrob0).2).1;rcases hC with⟨hc0',⟨z',full',rfl⟩,rfl⟩|⟨jc,fullc,csc,subc,rfl,rfl,hcsc⟩
                   . have:cs=[]:=vb.1 hc0';subst this;refine Al 0 [(0,.sl j 0 11 l.length full),(1,.ptr q 0),(9,AA l.length),(10,AA i),(5,.ptr j (i*11)),(56,AA r.length),(57,AA a),(68,AA 0),(69,AA 0)] hr0 m2 ?_ (λm' hm'=>?_)
                     . simp[go_sem,hjr3,hjr,hlr,Or,Av hcl,hcl,Av hclr,hclr,qq]
                       done
                     subst hm';refine AP (Aq 0 (α:=Unit) (λ_=>[(0,.sl j 0 11 l.length full),(1,.ptr q 0),(9,AA l.length),(10,AA i),(5,.ptr j (i*11)),(56,AA r.length),(57,AA a),(68,AA 0),(69,AA 0)]) (λ_=>hr0) (λ_ m'=>m2=m') (λ_=>0) () rfl (by simp[look,Or]) AC ?_);rintro _ m' rfl;refine AK ?_;simp[go_sem];exact⟨⟨_,_,_,_,_,hr0⟩,⟨rfl,fin2 [] hr0 rfl (by rw[Dm];exact .inl ⟨rfl,⟨_,_,rfl⟩,rfl⟩) (λp hp=>by cases hp) (by rw[Dm];exact hrq) λ_ _ _=>rfl⟩,AC⟩
                   . obtain⟨hjcs,hnsc⟩:jc∉AJ subc/\(AJ subc).Nodup:=qU.1 no1;have hjcm:jc∈AJ subr:=inr1 jc (by simp[AJ]);have hjrjc:jr≠jc:=by rintro rfl;exact hjrs hjcm
                     have hjjc:j≠jc:=by rintro rfl;exact hjs (inr _ hjcm)
                     have hqjc:q≠jc:=by rintro rfl;exact hqsr hjcm
                     have incr:∀k∈AJ subc,k∈AJ subr:=λk hk=>inr1 k (qP _ hk);have hqsc:q∉AJ subc:=λg=>hqsr (incr _ g);refine Al 0 [(0,.sl j 0 11 l.length full),(1,.ptr q 0),(9,AA l.length),(10,AA i),(5,.ptr j (i*11)),(56,AA r.length),(57,AA a),(6,AA a),(68,AA cs.length),(69,AA 0)] hr0 m2 ?_ (λm' hm'=>?_)
                     . simp[go_sem,hjr3,hjr,hlr,Or,Av hcl,hcl,Av hclr,hclr,qq]
                       done
                     subst hm';refine AP (Aq 0 (α:=ZN) (λs=>[(0,.sl j 0 11 l.length full),(1,.ptr q 0),(9,AA l.length),(10,AA i),(5,.ptr j (i*11)),(56,AA r.length),(57,AA a),(6,AA a),(68,AA cs.length),(69,AA s.i)]) (λs=>s.hh)
                      (λs m'=>m'=m2/\V7 cs cr jc (AJ subc) q hr0 s) (λs=>cs.length-s.i) ⟨0,[],csc,[],subc,hr0⟩ ⟨rfl,qj _,by rw[vk,Dm,BJ];exact⟨rfl,rfl⟩,hcsc,rfl,ho1r,by rw[vk,Dm];exact hrq,λ_ _ _=>rfl⟩ ?_ AC ?_)
                     simp[go_sem,look,Or];rintro⟨b,cCA,cCD,oCA,oCD,hc1⟩ m3 ⟨rfl,hbi,hCA,hCD,hcks,hcob,hcq,hcoff⟩;dsimp only at hbi hCA hCD hcks hcob hcq hcoff ⊢;have hjc3:hc1 j=hr0 j:=hcoff j (by rintro g;rcases qe.1 g with g|g;exact hjjc g;exact hjs (inr _ (incr _ g))) hjq;rw[hjr3]at hjc3;have hjrc3:hc1 jr=hr0 jr:=hcoff jr (by rintro g;rcases qe.1 g with g|g;exact hjrjc g;exact hjrs (incr _ g)) hqjr.symm;rw[hjr]at hjrc3;by_cases hlc:b<cs.length
                     . have w4:=wS b mq;obtain⟨z,hz⟩:∃z,cs[b]=z:=⟨_,rfl⟩
                       have hzm:z∈cs:=hz▸qn hlc;have ihz:=ihc z hzm;have htkc:=X7 hlc hz cr;have hlec:=da cs (b+1) cr;have hupc:cr<=(Dm cr (cs.take b)).2:=P9 _ _;have hclc:cCA.length=b*7:=by rw[Ic _ _ _ hCA,Mp,vu];congr 1;omega
                       rw[qA hlc,hz,BJ]at hCD;obtain⟨c1c,c2c,o1c,o2c,rfl,rfl,hZ,hCD⟩:=hCD;generalize hcc:(Dm cr (cs.take b)).2=cc at htkc hupc hcq;rw[htkc]at hlec;dsimp only at hlec;refine Al 0 [(0,.sl j 0 11 l.length full),(1,.ptr q 0),(9,AA l.length),(10,AA i),(5,.ptr j (i*11)),(56,AA r.length),(57,AA a),(6,AA a),(68,AA cs.length),(69,AA b),(70,.bool true)] hc1 m3 ?_ (λm' hm'=>?_);simp[go_sem,Or,hlc];subst hm';refine Al 0 [(0,.sl j 0 11 l.length full),(1,.ptr q 0),(9,AA l.length),(10,AA i),(5,.ptr j (i*11)),(56,AA r.length),(57,AA a),(6,AA a),(68,AA cs.length),(69,AA b)] hc1 m3 ?_ (λm' hm'=>?_);simp[go_sem,Or];subst hm';refine AV 0 (α:=ZN) (λs=>[(0,.sl j 0 11 l.length full),(1,.ptr q 0),(9,AA l.length),(10,AA i),(5,.ptr j (i*11)),(56,AA r.length),(57,AA a),(6,AA a),(68,AA cs.length),(69,AA b)]) (λs=>s.hh) (λs m'=>m'=m3/\s.i=b+1/\V7 cs cr jc (AJ subc) q hr0 s) (AP ?_) (λs m' hs=>?_)
                       . cases z with
                         | mk idc hdc fc =>
                          rw[Eu]at hZ;obtain⟨vz,rfl,hF2⟩:=hZ;simp only[AF.W]at ihz;have hrI3:Ia cc (.mk idc hdc fc)=(.mk (cc+1) hdc (Cu (cc+1) fc).1,(Cu (cc+1) fc).2):=by rw[Ia]
                          rw[hrI3]at hlec;dsimp only at hlec;have hjc:=hcob (jc,.cells (cCA++([AA idc]++hdc.j++[vz]++c2c))) mr;have hC5:[AA idc]++hdc.j++[vz]++c2c=AA idc::AO hdc.Q::AA hdc.I::AA hdc.move::AX hdc.Y::AN hdc.Z::vz::c2c:=by simp[AG.j]
                          rw[hC5]at hjc;dsimp only at hjc;have hcob0:BF (oCA++(o1c++o2c)) hc1:=λp hp=>hcob p (qP _ hp);have inc1:∀k∈AJ o1c,k∈AJ subc:=λk hk=>by rw[<-hcks];simp only[Ac,qd];exact .inr (.inl hk)
                          have nc1:(AJ o1c).Nodup:=by
                           have:=hnsc;rw[<-hcks]at this;simp only[Ac]at this;exact(qu.1 (qu.1 this).2.1).1
                          have w5:IntKind.i64.wrap (cc+1)=cc+1:=EU mq (by have:=Lh fc (cc+1);omega);obtain⟨H4,hH4⟩:∃H4:Hp,H4=h_ (h_ hc1 q (some (.cells [AA (cc+1)]))) jc (some (.cells (cCA++AA (cc+1)::AO hdc.Q::AA hdc.I::AA hdc.move::AX hdc.Y::AN hdc.Z::vz::c2c))):=⟨_,rfl⟩
                          have g1:∀k,k≠jc->k≠q->H4 k=hc1 k:=λk h1 h2=>by rw[hH4,AD _ _ h1,AD _ _ h2]
                          have g2:H4 q=some (.cells [AA (cc+1)]):=by rw[hH4,AD _ _ hqjc,AE]
                          have g3:H4 jc=some (.cells (cCA++AA (cc+1)::AO hdc.Q::AA hdc.I::AA hdc.move::AX hdc.Y::AN hdc.Z::vz::c2c)):=by rw[hH4,AE]
                          have g4:H4 j=some (.cells (cA++AA 7::AA co::AA (ci+1)::.str t::AO hd.Q::AA hd.I::AA hd.move::AX hd.Y::AN hd.Z::vf::.sl jr 0 6 r.length fullr::c2)):=by rw[g1 j hjjc hjq,hjc3]
                          have g5:=g1 jr hjrjc hqjr.symm;rw[hjrc3]at g5;refine Al 0 [(0,.sl j 0 11 l.length full),(1,.ptr q 0),(9,AA l.length),(10,AA i),(5,.ptr j (i*11)),(56,AA r.length),(57,AA a),(6,AA a),(68,AA cs.length),(69,AA b),(7,AA b)] hc1 m3 ?_ (λm' hm'=>?_);simp[go_sem,Or];subst hm';refine Al 0 [(0,.sl j 0 11 l.length full),(1,.ptr q 0),(9,AA l.length),(10,AA i),(5,.ptr j (i*11)),(56,AA r.length),(57,AA a),(6,AA a),(68,AA cs.length),(69,AA b),(7,AA b)] (h_ hc1 q (some (.cells [AA (cc+1)]))) m3 ?_ (λm' hm'=>?_);simp[go_sem,w5,hcq,Or];subst hm';refine Al 0 [(0,.sl j 0 11 l.length full),(1,.ptr q 0),(9,AA l.length),(10,AA i),(5,.ptr j (i*11)),(56,AA r.length),(57,AA a),(6,AA a),(68,AA cs.length),(69,AA b),(7,AA b)] H4 m3 ?_ (λm' hm'=>?_)
                          . rw[hH4];simp[go_sem,AE,AD _ _ hjq,AD _ _ hqjr.symm,AD _ _ hqjc.symm,hjc3,hjrc3,hjc,hlr,hlc,Or,Av hcl,hcl,Av hclr,hclr,Av hclc,An hclc,hclc,qq];have ltr:jr<m3:=lts _ hjrm;have ltc:jc<m3:=lts _ (inr _ hjcm)
                            repeat first|refine aq ?_|refine nd (by simp[CL,DU,DE,Aj,Region.binds]<;>omega) ?_|refine sq ?_
                            simp[CL,DU,DE,Aj,Region.binds,hjjc.symm,hjrjc.symm,hqjc.symm]
                          subst hm';have hpz:BF o1c H4:=λp hp=>by
                           have hk:p.1∈AJ o1c:=qa.2 ⟨p,hp,rfl⟩;rw[g1 p.1 (λe=>hjcs (e▸inc1 _ hk)) (λe=>hqsc (e▸inc1 _ hk))];exact hcob0 p (by simp[hp])
                          clear hH4;have hcall:=ihz (cc+1) vz o1c q H4 m3 hF2 hpz nc1 (λg=>hqsc (inc1 _ g)) g2 mq mq;refine AK ?_;simp[go_sem,g3,g4,g5,hlr,hlc,Av hcl,hcl,Av hclr,hclr,Av hclc,hclc,qq];refine qM hcall ?_;rintro r0 h' n' ⟨rfl,rfl,o1',hk1,hF',ho1,hq1,hoff1⟩;simp[go_sem,Or];refine⟨⟨b+1,cCA++(AA (cc+1)::AO hdc.Q::AA hdc.I::AA hdc.move::AX hdc.Y::AN hdc.Z::[vz]),c2c,oCA++o1',o2c,h'⟩,⟨rfl,V7.next (o1:=o1c) hlc htkc hCA hCD hcks hcob0 hcoff hnsc hjcs hqsc ?_ hk1 ho1 ?_ ?_ ?_⟩,AC⟩;rw[hrI3,Eu];exact⟨vz,by simp[AG.j],hF'⟩;rw[hoff1 jc (λg=>hjcs (inc1 _ g)) hqjc.symm,g3];simp;rw[hrI3];exact hq1;intro k h1 h2 h3;rw[hoff1 k h2 h3,g1 k h1 h3]
                       refine AK ?_;obtain⟨hm2,hsi,hI⟩:=hs;simp[go_sem,w4,Or,-Int.natCast_add];exact⟨s,by omega,⟨hm2,hI⟩,by rw[hsi];exact Or,AC⟩
                     have hie:b=cs.length:=by omega
                     subst hie;refine AK ?_;simp[go_sem];rw[vH,BJ]at hCD;obtain⟨rfl,rfl⟩:=hCD;rw[qp]at hCA hcq;rw[qV]at hcks hcob;rw[qV]at hcob;refine⟨⟨_,_,_,_,_,hc1⟩,⟨rfl,fin2 ((jc,.cells cCA)::oCA) hc1 (by simp only[AJ,qi]at hcks ⊢;rw[hcks]) (.inr ⟨jc,fullc,cCA,oCA,by rw[Mp],rfl,hCA⟩) hcob hcq λk h1 h2=>hcoff k h1 h2⟩,AC⟩
                refine AK ?_;obtain⟨hm2,hsi,hI⟩:=hs;simp[go_sem,w3,Or,-Int.natCast_add];exact⟨s,by omega,⟨hm2,hI⟩,by rw[hsi];exact Or,AC⟩
              have hie:a=r.length:=by omega
              subst hie;refine AK ?_;simp[go_sem];rw[vH,Bg]at hRD;obtain⟨rfl,rfl⟩:=hRD;rw[qp]at hRA hrq;rw[qV]at hrks hrob;rw[qV]at hrob;refine⟨⟨_,_,_,_,_,hr0⟩,⟨rfl,fin ((jr,.cells cRA)::oRA) hr0 (by simp only[AJ,qi]at hrks ⊢;rw[hrks]) (.inr ⟨jr,fullr,cRA,oRA,by rw[Ms],rfl,hRA⟩) hrob hrq λk h1 h2=>hroff k h1 h2⟩,AC⟩
          . refine BD (b:=false) (by simp[go_sem,h7]) ?_;simp only[mw Bool.false_ne_true];have hrI:Fi ci (.mk k co id t hd f r)=(.mk k co id t hd f r,ci):=by rw[Fi,mw h6,mw h7]
            refine AK ?_;simp[go_sem,Or];refine⟨⟨i+1,cA++([AA k,AA co,AA id,.str t]++hd.j++[vf,vr]),c2,oA++(p1++p2),o2,hh⟩,⟨rfl,ai.next (o1:=p1++p2) hlt htk hA hD hks hob0 hoff hns hjs hqs ?_ rfl ?_ ?_ ?_ ?_⟩,AC⟩;rw[hrI,D6];exact⟨vf,p1,vr,p2,rfl,rfl,hF,hR⟩;exact(wI.1 (wI.1 hob0).2).1;exact hob (j,_) mr;rw[hrI];exact hhq;intro k h1 h2 h3;rfl
     refine AK ?_;obtain⟨hm2,hsi,hI⟩:=hs;simp[go_sem,w1,Or,-Int.natCast_add];exact⟨s,by omega,⟨hm2,hI⟩,by rw[hsi];exact Or,AC⟩
   have hie:i=l.length:=by omega
   subst hie;refine AK ?_;simp[go_sem];rw[vH,BK]at hD;obtain⟨rfl,rfl⟩:=hD;rw[qp]at hA hhq;rw[qV]at hks hob;rw[qV]at hob;exact .inl ⟨rfl,rfl,_,by simp only[AJ,qi]at hks ⊢;rw[hks],.inr ⟨j,full,cA,oA,by rw[QA],rfl,hA⟩,hob,hhq,λk h1 h2=>hoff k h1 h2⟩
mutual
theorem gB:∀x:AB,x.l->(x.R.length<=1048576/\∀r∈x.R,r.cells.length<=1048576)/\Y8 x.W/\∀r∈x.R,∀e∈r.cells,Y8 e.W
 | .mk k c i t hd f r,hs=>by
  rw[AB.l]at hs;obtain⟨h1,h2⟩:=bB r hs.2.2.2.2.2;exact⟨⟨hs.2.2.2.1,h1⟩,Pi f hs.2.2.1 (λx a=>(NV f hs.2.2.2.2.1 x a).1) (λx a=>(NV f hs.2.2.2.2.1 x a).2),h2⟩
theorem NV:∀l:List AB,AB.G l->∀x∈l,(x.R.length<=1048576/\∀r∈x.R,r.cells.length<=1048576)/\Y8 x.W/\∀r∈x.R,∀e∈r.cells,Y8 e.W
 | [],_,_,h=>by cases h
 | y::l,hs,x,h=>by
  rw[AB.G]at hs;rcases qe.1 h with e|e;rw[e];exact gB y hs.1;exact NV l hs.2 x e
theorem bB:∀l:List AL,AL.G l->(∀r∈l,r.cells.length<=1048576)/\∀r∈l,∀e∈r.cells,Y8 e.W
 | [],_=>⟨λ_ h=>(by cases h),λ_ h=>(by cases h)⟩
 | .mk hd c::l,hs=>by
  rw[AL.G,AL.l]at hs;obtain⟨h1,h2⟩:=bB l hs.2;have a:=bA c hs.1.2.2;exact⟨λr h=>by rcases qe.1 h with e|e;(· rw[e];exact hs.1.2.1);exact h1 r e,λr h=>by rcases qe.1 h with e|e;(· rw[e];exact a);exact h2 r e⟩
theorem bA:∀l:List AF,AF.G l->∀e∈l,Y8 e.W
 | [],_,_,h=>by cases h
 | .mk i hd f::l,hs,x,h=>by
  rw[AF.G,AF.l]at hs;rcases qe.1 h with e|e;rw[e];exact Pi f hs.1.2.1 (λx a=>(NV f hs.1.2.2 x a).1) (λx a=>(NV f hs.1.2.2 x a).2);exact bA l hs.2 x e
end
theorem kw(l:List AB)(c:l.length<=1048576)(b:AB.G l):Y8 l:=Pi l c (λx a=>(NV l b x a).1) (λx a=>(NV l b x a).2)
def Ka(z:Nat)(es:List SV)(v:SV)(ob:DA):Prop:=IN z es.length (λcs sub=>cs=es.flatMap SV.cells/\sub=[]) v ob
def LvS(s:AQ)(v:SV)(ob:DA):Prop:=∃vc,v=.agg [AT s.A,Bi s.L,vc,CA s.vars]/\Ka 6 (s.C.map AR.h) vc ob
def Jr(es:List SV)(o:Option Nat):DA:=match o with|none=>[]|some j=>[(j,.cells (es.flatMap SV.cells))]
theorem Id.lve{z:Nat}{es:List SV}{v:SV}{o:Option Nat}{n m:Nat}(H:Id z es v o n m):Ka z es v (Jr es o):=by
 rcases H with⟨rfl,rfl,a,f,rfl⟩|⟨j,f,rfl,h2,h3,rfl⟩
 exact .inl ⟨rfl,⟨a,f,rfl⟩,rfl⟩;exact .inr ⟨j,f,_,[],rfl,rfl,rfl,rfl⟩
theorem Jr.keys{es:List SV}{o:Option Nat}:∀k,k∈AJ (Jr es o)↔o=some k:=by
 intro k;cases o<;>simp[Jr,AJ,eq_comm]
theorem Jr.put{es:List SV}{o:Option Nat}{h:Hp}:Bw (Jr es o) h=Ev es o h:=by
 funext k;cases o with
 | none=>rfl
 | some j=>
  simp only[Bw,Jr,Ev,h_,List.lookup];by_cases e:k=j;subst e;simp;have:(k==j)=false:=by simpa using e
  simp[this,e]
theorem l0(s:AQ)(h1:s.A.length<=1048576)(h2:s.L.length<=1048576)(h3:s.C.length<=1048576)(h4:s.vars.length<=1048576)(h5:∀x∈s.A,x.Q.length<=1048576)(h6:∀x∈s.L,x.levels.length<=1048576):
 NC 172 [s.h] (LvS s):=by
 intro h n;refine FF func172 rfl λU=>?_;refine Bc 2 [(1,.q s.j),(2,.ptr (n+1) 0)] (h_ h (n+1) (some (.cells [.y 0 [] true,.y 0 [] true,.y 0 [] true,.y 0 [] true]))) (λm=>m=n+2) ?_ (λm hm=>?_);simp[go_sem,AQ.h,qq,Or];refine⟨Ap (by rw[AD _ _ mq];exact U.none (IO n)) (by simp[h_]),λj y=>?_⟩;have:=U j y;simp only[h_];grind;subst hm;refine AV 1 (α:=SV×Option Nat×SV×Option Nat×SV×Option Nat×Nat) (λa=>[(2,.ptr (n+1) 0),(3,.ptr a.2.2.2.2.2.2 0)])
  (λa=>h_ (Ev (s.A.map Ao.h) a.2.1 (Ev (s.L.map FT.h) a.2.2.2.1 (Ev (s.C.map AR.h) a.2.2.2.2.2.1 (h_ h (n+1) (some (.cells [.y 0 [] true,.y 0 [] true,.y 0 [] true,.y 0 [] true])))))) a.2.2.2.2.2.2 (some (.cells [a.1,a.2.2.1,a.2.2.2.2.1,CA s.vars])))
  (λa m=>Id 6 (s.A.map Ao.h) a.1 a.2.1 (n+2) m/\Id 2 (s.L.map FT.h) a.2.2.1 a.2.2.2.1 (n+2) m/\Id 6 (s.C.map AR.h) a.2.2.2.2.1 a.2.2.2.2.2.1 (n+2) m/\n+2<=a.2.2.2.2.2.2/\a.2.2.2.2.2.2<m/\a.2.1≠some a.2.2.2.2.2.2/\a.2.2.2.1≠some a.2.2.2.2.2.2/\a.2.2.2.2.2.1≠some a.2.2.2.2.2.2/\(∀j,a.2.1=some j->a.2.2.2.1≠some j)/\(∀j,a.2.1=some j->a.2.2.2.2.2.1≠some j)/\(∀j,a.2.2.2.1=some j->a.2.2.2.2.2.1≠some j)) (CN jV rfl mu mu ?_) ?_
 . simp[go_sem,jV,AQ.j]
   iterate 14 (all_goals (try first
    | (refine LC.use (gw _ h1) ?_;intro Z H1 m1 W1;have lt1:=W1.1;obtain⟨o1,a1,b1,c1⟩:=W1.own;obtain⟨s1,P⟩:=a1.st;simp only[SV.B,SV.cells]at s1 P;simp[go_sem])
    | (refine LC.use (gx _ h2) ?_;intro v2 H2 m2 W2;have jS:=W2.1;obtain⟨o2,a2,b2,c2⟩:=W2.own;obtain⟨s2,t2⟩:=a2.st;simp only[SV.B,SV.cells]at s2 t2;simp[go_sem])
    | (refine LC.use (gy _ h3) ?_;intro v3 H3 m3 W3;have lt3:=W3.1;obtain⟨o3,a3,R,c3⟩:=W3.own;obtain⟨s3,t3⟩:=a3.st;simp only[SV.B,SV.cells]at s3 t3;simp[go_sem])
    | (refine(fo _ h4).use ?_;simp[go_sem,s1,P,s2,t2,s3,t3])
    | refine⟨?_,?_⟩))
   all_goals
    have K:=a1.lt;have M:=a2.lt;have ZZ:A9:=.cells [.y 0 [] true,.y 0 [] true,.y 0 [] true,.y 0 [] true];have J:=a3.lt
    first
     | (have hq:=R (n+2) _ (b2 (n+2) _ (b1 (n+2) _ (AE _ _ _)));simp[go_sem,hq])
     | (have hq:=R m1 _ (b2 m1 _ (AE _ _ _));simp[go_sem,hq])
     | (have hq:=R m2 _ (AE _ _ _);simp[go_sem,hq])
     | simp[go_sem,AE]
    refine⟨Z,o1,v2,o2,v3,o3,_,⟨a1.mono mq mq,a2.mono mq mq,a3.mono mq mq,?_,?_,λe=>?_,λe=>?_,λe=>?_,λj e u=>?_,λj e u=>?_,λj e u=>?_⟩,Or,λj y=>?_⟩;omega;omega;have:=K _ e;omega;have:=M _ e;omega;have:=J _ e;omega;have:=K _ e;have:=M _ u;omega;have:=K _ e;have:=J _ u;omega;have:=M _ e;have:=J _ u;omega;intro hy;have q1:=b1 j y;have q2:=b2 j y;have q7:=R j y;have q3:=c1 j;have q4:=c2 j;have q8:=c3 j;have r1:=K j;have r2:=M j;have r3:=J j;have q5:=b2 j (.cells ((s.A.map Ao.h).flatMap SV.cells));have q9:=R j (.cells ((s.A.map Ao.h).flatMap SV.cells));have q10:=R j (.cells ((s.L.map FT.h).flatMap SV.cells));have q6:=U j y;clear b1 b2 R c1 c2 c3 K M J W1 W2 W3 a1 a2 a3;simp only[h_]at *;cases o1<;>cases o2<;>cases o3<;>simp only[Ev,h_]at hy<;>grind
 rintro⟨Z,o1,v2,o2,v3,o3,q⟩ m ⟨a1,a2,a3,hq1,hq2,hn1,hn2,hn3,D,p,r⟩;dsimp only at a1 a2 a3 hq1 hq2 hn1 hn2 hn3 D p r ⊢;have J:=a3.lt;obtain⟨s3,t3⟩:=a3.st;have K:=a1.lt;have M:=a2.lt;obtain⟨s1,P⟩:=a1.st;obtain⟨s2,t2⟩:=a2.st;simp only[SV.B,SV.cells]at s1 P s2 t2 s3 t3;generalize Y:Ev (s.A.map Ao.h) o1 (Ev (s.L.map FT.h) o2 (Ev (s.C.map AR.h) o3 (h_ h (n+1) (some (.cells [.y 0 [] true,.y 0 [] true,.y 0 [] true,.y 0 [] true])))))=B;have B1:∀j,o1=some j->B j=some (.cells ((s.A.map Ao.h).flatMap SV.cells)):=λj e=>by subst e;rw[<-Y];simp[Ev,h_]
 have B2:∀j,o2=some j->B j=some (.cells ((s.L.map FT.h).flatMap SV.cells)):=λj e=>by
  subst e;rw[<-Y];cases o1 with
  | none=>simp[Ev,h_]
  | some i=>have:=D i rfl;simp only[Ev,h_];grind
 have B5:∀j,o3=some j->B j=some (.cells ((s.C.map AR.h).flatMap SV.cells)):=λj e=>by
  subst e;rw[<-Y];have e1:o1≠some j:=λe=>p j e rfl;have e2:o2≠some j:=λe=>r j e rfl;cases o1<;>cases o2<;>simp only[Ev,h_]<;>grind
 have B3:B (n+1)=some (.cells [.y 0 [] true,.y 0 [] true,.y 0 [] true,.y 0 [] true]):=by
  rw[<-Y];cases o1<;>cases o2<;>cases o3<;>simp only[Ev,h_]<;>grind
 have B4:∀j y,h j=some y->B j=some y:=λj y e=>by
  have:=U j y e;rw[<-Y];cases o1<;>cases o2<;>cases o3<;>simp only[Ev,h_]<;>grind
 have V:∀j,o1=some j->j≠q:=λj e u=>hn1 (by rw[e,u]);have O:∀j,o3=some j->j≠q:=λj e u=>hn3 (by rw[e,u]);have I:∀j,o2=some j->j≠q:=λj e u=>hn2 (by rw[e,u]);clear Y;refine LL 1 [(2,.ptr (n+1) 0),(3,.ptr q 0)] (h_ B q (some (.cells [Z,v2,v3,CA s.vars]))) m (AK ?_) (λm' d=>?_)
 . rcases a1 with⟨_,he,z',f,rfl⟩|⟨j,f,rfl,hj1,hj2,rfl⟩
   simp[go_sem,AE];refine BC 1 (α:=Unit) (λ_=>[(2,.ptr (n+1) 0),(3,.ptr q 0),(21,AA 0),(22,AA 0)]) (λ_=>h_ B q (some (.cells [.y z' [] f,v2,v3,CA s.vars]))) (λ_ m'=>m<=m') (λ_=>0) () (IO _) (by simp[look]) AC ?_;intro _ m' d;simp[go_sem];exact d
   . have b:=V j rfl;have T:=B1 j rfl;simp[go_sem,AE];refine BC 1 (α:=Nat) (λi=>[(2,.ptr (n+1) 0),(3,.ptr q 0),(21,AA s.A.length),(22,AA i)]) (λ_=>h_ B q (some (.cells [.sl j 0 6 s.A.length f,v2,v3,CA s.vars]))) (λi m'=>i<=s.A.length/\m<=m') (λi=>s.A.length-i) 0 ?_ ?_ ?_ ?_;exact⟨qj _,IO _⟩;simp[look];simp;rintro i m' ⟨hi,d⟩;by_cases l:i<s.A.length
     . have w1:=wS i mq;obtain⟨x,hx⟩:∃x,s.A[i]=x:=⟨_,rfl⟩
       have W:(s.A.map Ao.h)[i]? = some x.h:=by simp[l,hx]
       obtain⟨g1,N⟩:=Md (Ao.E.size s.A) W (k:=5) (c:=AO x.Q) rfl;have g3:=HT g1 N;have X:=h5 x (by rw[<-hx];exact qn l);have w:j<m':=by omega
       have G:q<m':=by omega
       have g:=T;generalize(s.A.map Ao.h).flatMap SV.cells=F at g g1 N g3;simp[go_sem,AE,AD,b,g,l,g1,N,w,G]
       repeat first|refine nd (by simp[CL,DU,DE,Aj,Region.binds]<;>omega) ?_|refine sq ?_|refine aq ?_
       refine vy _ _ _ _ _ _ (Ze x.Q X) ?_;simp[go_sem,AD,b,g,l,g1,g3,w,w1,-Int.natCast_add]
       repeat first|refine nd (by simp[CL,DU,DE,Aj,Region.binds,b]<;>omega) ?_|refine sq ?_|refine aq ?_
       refine⟨i+1,by omega,⟨by omega,d⟩,Or,λo y=>?_⟩;simp only[h_];grind
     have:i=s.A.length:=by omega
     subst this;simp[go_sem];exact d
 refine LL 1 [(2,.ptr (n+1) 0),(3,.ptr q 0)] (h_ B q (some (.cells [Z,v2,v3,CA s.vars]))) m (AK ?_) (λm2 hm2=>?_)
 . rcases a2 with⟨_,he,z',f,rfl⟩|⟨j,f,rfl,hj1,hj2,rfl⟩
   simp[go_sem,AE];refine BC 1 (α:=Unit) (λ_=>[(2,.ptr (n+1) 0),(3,.ptr q 0),(40,AA 0),(41,AA 0)]) (λ_=>h_ B q (some (.cells [Z,.y z' [] f,v3,CA s.vars]))) (λ_ m'=>m<=m') (λ_=>0) () d (by simp[look]) AC ?_;intro _ m' d;simp[go_sem];exact d
   . have b:=I j rfl;have T:=B2 j rfl;simp[go_sem,AE];refine BC 1 (α:=Nat) (λi=>[(2,.ptr (n+1) 0),(3,.ptr q 0),(40,AA s.L.length),(41,AA i)]) (λ_=>h_ B q (some (.cells [Z,.sl j 0 2 s.L.length f,v3,CA s.vars]))) (λi m'=>i<=s.L.length/\m<=m') (λi=>s.L.length-i) 0 ?_ ?_ ?_ ?_;exact⟨qj _,d⟩;simp[look];simp;rintro i m' ⟨hi,d⟩;by_cases l:i<s.L.length
     . have w1:=wS i mq;obtain⟨x,hx⟩:∃x,s.L[i]=x:=⟨_,rfl⟩
       have W:(s.L.map FT.h)[i]? = some x.h:=by simp[l,hx]
       obtain⟨g1,N⟩:=Md (FT.E.size s.L) W (k:=1) (c:=DP x.levels) rfl;have g3:=HT g1 N;have X:=h6 x (by rw[<-hx];exact qn l);have w:j<m':=by omega
       have G:q<m':=by omega
       have g:=T;generalize(s.L.map FT.h).flatMap SV.cells=F at g g1 N g3;simp[go_sem,AE,AD,b,g,l,g1,N,w,G]
       repeat first|refine nd (by simp[CL,DU,DE,Aj,Region.binds]<;>omega) ?_|refine sq ?_|refine aq ?_
       refine vy _ _ _ _ _ _ (fp x.levels X) ?_;simp[go_sem,AD,b,g,l,g1,g3,w,w1,-Int.natCast_add]
       repeat first|refine nd (by simp[CL,DU,DE,Aj,Region.binds,b]<;>omega) ?_|refine sq ?_|refine aq ?_
       refine⟨i+1,by omega,⟨by omega,d⟩,Or,λo y=>?_⟩;simp only[h_];grind
     have:i=s.L.length:=by omega
     subst this;simp[go_sem];exact d
 have enq:n+1≠q:=by omega
 have S:∀(z:Nat)(es:List SV)(v:SV)(o:Option Nat)(H h2:Hp),(∀e∈es,e.B=true/\e.cells.length=z)->Id z es v o (n+2) m->(∀j,o=some j->H j=some (.cells (es.flatMap SV.cells)))->(∀j,o=some j->h2 j=none)->Fz H h2 2 v (.y z es false):=λz es v o H h2 hsz ha hH hz=>by
  rcases ha with⟨_,he,z',f,rfl⟩|⟨j,f,rfl,hj1,hj2,rfl⟩
  rw[he];exact Fg mr;exact E7 (hz j rfl) mr (hH j rfl) hsz
 have t:∀j,n<=j->o3≠some j->Ev (s.C.map AR.h) o3 h j=none:=λj hj hne=>by
  cases o3 with
  | none=>exact U.none hj
  | some i=>simp only[Ev];rw[AD _ _ (by rintro rfl;exact hne rfl)];exact U.none hj
 refine As 3 [(2,.q [AT s.A,Bi s.L,v3,CA s.vars])] (Ev (s.C.map AR.h) o3 h) m ?_ (λm4 hm4=>?_);simp[go_sem,AE,AD,enq,B3];refine⟨hm2,.inr ⟨t _ mq (λe=>by have:=J _ e;omega),_,AE _ _ _,by simp,S _ _ _ _ _ _ (Ao.E.size _) a1 (λj e=>?_) (λj e=>t j (by have:=K j e;omega) (p j e)),S _ _ _ _ _ _ (FT.E.size _) a2 (λj e=>?_) (λj e=>t j (by have:=M j e;omega) (r j e)),Or,Or,trivial⟩,λj y e=>?_⟩;have:=K j e;have:=B1 j e;have:=V j e;simp only[h_];grind;have:=M j e;have:=B2 j e;have:=I j e;simp only[h_];grind;have q1:=B5 j;have q2:=B4 j y;have q3:=O j;have q4:=J j;have q5:=U j y;clear B1 B2 B3 B4 B5 S t D p r V I O K M J;cases o3 with
 | none=>simp only[Ev]at e;have:=q2 e;have:=q5 e;simp only[h_];grind
 | some i=>simp only[Ev,h_]at e ⊢;grind
 refine AK ?_;simp[go_sem];refine .inl ⟨by omega,Jr (s.C.map AR.h) o3,⟨v3,rfl,a3.lve⟩,by cases o3<;>simp[Jr,AJ],λk hk=>?_,by rw[Jr.put];exact λ_ _ e=>e⟩;have:=J k ((Jr.keys k).1 hk);omega
theorem LC.nc{f:FuncId}{args:List SV}{z:Nat}{es:List SV}(H:LC f args z es):NC f args (Ka z es):=λh n=>LC.use H λv h' n' W=>by
 obtain⟨o,a,b,c⟩:=W.own;refine⟨W.1,Jr es o,a.lve,by cases o<;>simp[Jr,AJ],λk hk=>a.lt k ((Jr.keys k).1 hk),?_⟩;rw[Jr.put];intro k y e;cases o with
 | none=>exact b k y e
 | some j=>
  simp only[Ev,h_]at e;split at e
  . next e2=>subst e2;rw[<-e];exact c _ rfl
  exact b k y e
theorem P6{X h1 h2:Hp}{m n1 n:Nat}{a b:DA}(g:∀k∈AJ a,m<=k/\k<n1)(f:∀k y,Bw a X k=some y->h1 k=some y)(h:∀k∈AJ b,n1<=k/\k<n)(c:∀k y,Bw b h1 k=some y->h2 k=some y):
 ∀k y,Bw (a++b) X k=some y->h2 k=some y:=λk y e=>by
 rw[Ii]at e;by_cases i:k∈AJ a;have l:a.lookup k=some y:=by
  simp only[Bw]at e;cases d:a.lookup k with
  | none=>exact absurd i (Cf.1 d)
  | some z=>rw[d]at e;exact e
 exact DW.old (_L:=Ha []) (_v:=.junk) h c (g k i).2 (f k y (by simp only[Bw,l]));rw[Ay i]at e;by_cases j:k∈AJ b;refine c k y ?_;simp only[Bw]at e ⊢;cases d:b.lookup k with
 | none=>exact absurd j (Cf.1 d)
 | some z=>rw[d]at e;exact e
 rw[Ay j]at e;exact c k y (by rw[Ay j];exact f k y (by rw[Ay i];exact e))
theorem No{m n1 j:Nat}{c d:DA}(hm:m<=n1)(hn:n1<=j)(h:(AJ c).Nodup)(i:(AJ d).Nodup)(f:∀k∈AJ c,m<=k/\k<n1)(g:∀k∈AJ d,n1<=k/\k<j):
 (AJ (c++d)).Nodup/\∀k∈AJ (c++d),m<=k/\k<j:=by
 rw[Ac];refine⟨qu.2 ⟨h,i,λa l b hb e=>by have:=(f a l).2;have:=(g b hb).1;omega⟩,λk hk=>?_⟩;rcases qd.1 hk with hk|hk;have:=f k hk;omega;have:=g k hk;omega
def ez(d:AI)(v:SV)(ob:DA):Prop:=∃vf o1 vr o2 vc o3,v=.agg ([vf]++d.T0.j++[vr,AT d.S.A,Bi d.S.L,vc,CA d.S.vars])/\ob=o1++(o2++o3)/\Ha d.W vf o1/\Ka 3 (d.V.map By.h) vr o2/\Ka 6 (d.S.C.map AR.h) vc o3
def Yp:Tr:=(.pure 0 (.pure 1 (.pure 3 (.pure 4 (.pure 6 (.pure 7 (.pure 9 (.pure 10 (.one 2 (.one 5 (.one 8 (.one 11 (.one 12 (.one 13 .nil))))))))))))))
theorem lr(d:AI)(hd:d.l):NC 108 [d.h] (ez d):=by
 intro h n;refine FF func108 rfl λN=>?_;have K:=N.lt;obtain⟨X,I⟩:∃X:Hp,X=h_ h (n+1) (some (.cells [.y 0 [] true,.y 0 [] true,AA 0,AA 0,.y 0 [] true,.y 0 [] true,.y 0 [] true,.y 0 [] true,.y 0 [] true,.y 0 [] true,.y 0 [] true])):=⟨_,rfl⟩
 refine Bc 2 [(1,.q ([AH d.W]++d.T0.j++[BV d.V]++d.S.j)),(2,.ptr (n+1) 0)] X (λm=>n+2=m) ?_ (λm hm=>?_);rw[I];simp[go_sem,AI.h,qq,Or];refine⟨Ap (by rw[AD _ _ mq];exact N.none (IO n)) (by simp[h_]),λj y=>?_⟩;have:=N j y;simp only[h_];grind;subst hm;have hy:X (n+1)=some (.cells [.y 0 [] true,.y 0 [] true,AA 0,AA 0,.y 0 [] true,.y 0 [] true,.y 0 [] true,.y 0 [] true,.y 0 [] true,.y 0 [] true,.y 0 [] true]):=by rw[I,AE]
 have M:∀j y,j≠n+1->h j=some y->X j=some y:=λj y h1 e=>by rw[I,AD _ _ h1];exact e
 clear I;refine LK (CN Yp rfl mu mu ?_);have a:=hd.set;simp[go_sem,Yp,AG.j,AQ.j];refine wL (n96 d.W hd.len hd.W) ?_;rintro J h1 n1 ⟨hn1,F,o,z,b,u⟩;have O:=DW.old (_L:=Ha []) (_v:=J) b u (show n+1<n+2 by omega) hy;simp[go_sem];refine qY (by simpa[AG.h,AG.j]using NL d.T0 hd.T0) ?_;simp[go_sem];refine wL (jQ d.V hd.V).nc ?_;rintro G h2 n2 ⟨hn2,g,p,D,c,w⟩;have P:=DW.old (_L:=Ha []) (_v:=G) c w (show n+1<n1 by omega) O;simp[go_sem];refine wL (by simpa[AQ.h,AQ.j]using l0 d.S a.A a.L a.C a.vars a.Q a.levels) ?_;rintro v3 Z T ⟨hn3,i,⟨H,rfl,s⟩,E,f,x⟩;have R:=DW.old (_L:=Ha []) (_v:=H) f x (show n+1<n2 by omega) P;obtain⟨t1,t2⟩:=No mq mq D E c f;obtain⟨t3,t4⟩:=No mq mq z t1 b t2;have fin:Ce n (h_ Z (n+1) (some (.cells ([J]++d.T0.j++[G,AT d.S.A,Bi d.S.L,H,CA d.S.vars])))) T (.agg ([J]++d.T0.j++[G,AT d.S.A,Bi d.S.L,H,CA d.S.vars])) (DW (ez d) h n):=by
  refine .inl ⟨by omega,F++(g++i),⟨J,F,G,g,H,i,rfl,rfl,o,p,s⟩,t3,λk hk=>by have:=t4 k hk;omega,?_⟩;refine Mn (X:=X) (m:=n+2) (n1:=T) K mq mq M t4 ?_;exact P6 b u t2 (P6 c w f x)
 have r:IN 3 _ _ G g:=p;have t:IN 6 _ _ H i:=s;obtain⟨s1,s2⟩:=o.st;obtain⟨s3,s4⟩:=r.st;obtain⟨U,Y⟩:=t.st;unfold SV.B at s1 s3 U;unfold SV.cells at s2 s4 Y;simp[go_sem,s1,s2,s3,s4,R];refine AK ?_;simp[go_sem,AE];simpa[AG.j]using fin
theorem n43(d:AI)(hd:d.l)(T:d.normal.l)(hu:(BG [] (AB.U (AY d.W)++d.T0.all)).length<=1048576):NC 43 [d.h] (ez d.normal):=by
 intro h n;refine gq func43 rfl λho=>?_;have hs:=hd.set;simp[go_sem,AI.h,AG.j,AQ.j,AE,AD,qq];refine(c73 d.W hd.len hd.W).use ?_;simp[go_sem,AE,AD];refine qY (by simpa[AI.h,AI.norm1,AG.j,AQ.j]using c74 d.norm1 T.len T.W hd.T0 hu) ?_;simp[go_sem,AE,AD,Ad];have D:(Et d.norm1).length<=1048576:=by
  have h1:(Et d.norm1).length=((BG [] (AB.U d.norm1.W++d.norm1.T0.all)).filter λx=>decide (x≠0)).length:=wm _;have h2:=vC (λx=>decide (x≠0)) (BG [] (AB.U d.norm1.W++d.norm1.T0.all));have h4:(BG [] (AB.U d.norm1.W++d.norm1.T0.all)).length<=1048576:=hu;omega
 generalize hU:Et d.norm1=us at D;refine LC.use (jQ _ hd.V) ?_;rintro v1 f m1 ⟨hle,BA,hv⟩;have HA:=BA n (.cells ([AH (AY d.W)]++d.T0.j++[BV d.V]++d.S.j)) (by simp[AE,AD,AG.j,AQ.j]);obtain⟨F,P,HC⟩:∃F:List SV,F.length=11/\f (n+1)=some (.cells F):=⟨_,rfl,BA (n+1) (.cells _) (by simp[AE,AD];rfl)⟩
 have HB:=BA (n+2) (.cells [.y 1 (us.map AA) false]) (by simp[AE,<-hU,AI.norm1]);have HO:∀j y,h j=some y->f j=some y:=λj y e=>BA j y (by have:=ho j y e;simp only[h_];grind);clear BA;have t:=ho.lt;have s:∀(b:Hp)(J H:Option A9)(v:SV)(g:Hp)(i:Nat),(∀j,j=n\/j=n+1\/j<n->b j=f j)->DW (ez d.normal) (h_ b n J) m1 v g i->Ce n (h_ g (n+1) H) i v (DW (ez d.normal) h n):=λb J H v g i a W=>by
  obtain⟨Y,ob,hL,Z,z,hh⟩:=W;refine .inl ⟨by omega,ob,hL,Z,λk hk=>by have:=z k hk;omega,Mn (X:=h_ b n J) (m:=m1) (n1:=i) t mq mq (λj y h1 e=>?_) z hh⟩;have:=t j y e;rw[AD _ _ mq,a j mq];exact HO j y e
 have c:d.normal.V=d.V.filter λr=>!(!(BY (IE us r.id) us.length).2):=by simp[AI.normal,hU]
 have E:∀(K:SV->Hp->Nat->Prop),(∀b:Hp,(∀j,j=n\/j=n+1\/j<n->b j=f j)->K (.y 3 (d.normal.V.map By.h) false) b m1)->Ab (BZ.plain.call false 0) prog 104 [v1,.fn (.func 106) [] [.ptr (n+2) 0]] f m1 K:=λK G=>by
  rcases hv with⟨he,z',full,rfl⟩|⟨o,full,h1,h2,rfl,g⟩
  have hr:d.normal.V=[]:=by rw[c];simp only[List.map_eq_nil_iff]at he;rw[he];rfl
  rw[hr]at G;exact(fx z' full 106 [] [.ptr (n+2) 0]).use (G f λ_ _=>rfl);rw[c]at G;simp only[qf];refine wW (bs:=[.sl o 0 3 d.V.length full,.fn (.func 106) [] [.q [.y 1 (us.map AA) false]]]) (h2:=h_ f (n+2) none) 2 (λj y e=>?_) ⟨Or,.inr ⟨rfl,trivial,Ap (AE _ _ _) HB,trivial⟩,trivial⟩ ?_;simp only[h_]at e;split at e;cases e;exact e;refine qM (d75 d.V hd.V 106 [] [.q [.y 1 (us.map AA) false]] (λr=>!(BY (IE us r.id) us.length).2) (λx _=>c77 us D x) (by rw[AD _ _ mq];exact g)) ?_;rintro v h' n' ⟨rfl,rfl,rfl⟩;refine G _ λj hj=>?_;rw[AD _ _ mq,AD _ _ mq]
 simp[go_sem];refine E _ λb a=>?_;have p:b n=_:=(a n (.inl rfl)).trans HA;have I:b (n+1)=_:=(a (n+1) (.inr (.inl rfl))).trans HC;have C:n+1≠n:=by omega
 simp only[AG.j,AQ.j]at p;simp[go_sem,p,AE];refine wL (by simpa[AI.h,AI.normal,AG.j,AQ.j]using lr d.normal T) ?_;intro v3 g i W;have fin:=λH=>s b _ H v3 g i a W;obtain⟨Y,ob,⟨vf,o1,vr,o2,vc,o3,rfl,rfl,M,N,O⟩,hnd3,A,R⟩:=W;have hy3:=DW.old (_L:=Ha []) (_v:=vc) A R (show n+1<m1 by omega) ((AD _ _ C).trans I);have u:IN 3 _ _ vr o2:=N;have w:IN 6 _ _ vc o3:=O;obtain⟨s1,s2⟩:=M.st;obtain⟨s3,s4⟩:=u.st;obtain⟨s5,s6⟩:=w.st;unfold SV.B at s1 s3 s5;unfold SV.cells at s2 s4 s6;have Q:F.drop 11=[]:=List.drop_of_length_le mq;simp[go_sem,P,AE,Q,hy3,AG.j];simpa[AG.j]using fin _
theorem JP{ob:DA}{h h':Hp}(a:(AJ ob).Nodup)(hh:∀k y,Bw ob h k=some y->h' k=some y):BF ob h':=λp hp=>hh p.1 p.2 (Zv a hp h)
theorem UH{ob:DA}{h h':Hp}(h1:BF ob h')(h2:∀k y,h k=some y->h' k=some y):∀k y,Bw ob h k=some y->h' k=some y:=λk y e=>by
 simp only[Bw]at e;cases a:ob.lookup k with
 | none=>rw[a]at e;exact h2 k y e
 | some z=>rw[a]at e;rw[h1 _ (RK a)];exact e
def AI.renum(d:AI):AI:=⟨(Cu 0 d.W).1,d.T0,d.V,d.S⟩
theorem n74(d:AI)(hd:d.l)(J:d.normal.l)(hu:(BG [] (AB.U (AY d.W)++d.T0.all)).length<=1048576)(hb:(Cu 0 d.normal.W).2<=1099511627776):NC 74 [d.h] (ez d.normal.renum):=by
 intro h n;refine FF func74 rfl λho=>?_;have s:=ho.lt;obtain⟨X,D⟩:∃X:Hp,X=h_ (h_ h n (some (.cells ([AH d.W]++d.T0.j++[BV d.V]++d.S.j)))) (n+1) (some (.cells [.y 0 [] true,.y 0 [] true,AA 0,AA 0,.y 0 [] true,.y 0 [] true,.y 0 [] true,.y 0 [] true,.y 0 [] true,.y 0 [] true,.y 0 [] true])):=⟨_,rfl⟩
 refine Bc 2 [(1,.ptr n 0),(2,.ptr (n+1) 0)] X (λm=>n+2=m) ?_ (λm hm=>?_)
 . rw[D];simp[go_sem,AI.h,qq,Or,SV.cells,AG.j,AQ.j]
   done
 subst hm;have hx:X n=some (.cells ([AH d.W]++d.T0.j++[BV d.V]++d.S.j)):=by rw[D,AD _ _ mq,AE]
 have hy:X (n+1)=some (.cells [.y 0 [] true,.y 0 [] true,AA 0,AA 0,.y 0 [] true,.y 0 [] true,.y 0 [] true,.y 0 [] true,.y 0 [] true,.y 0 [] true,.y 0 [] true]):=by rw[D,AE]
 have H:∀j y,h j=some y->X j=some y:=λj y e=>by have:=s j y e;rw[D,AD _ _ mq,AD _ _ mq];exact e
 clear D;have hnn:n+1≠n:=by omega
 refine AK ?_;simp[go_sem,hx,AG.j,AQ.j];refine wL (by simpa[AI.h,AG.j,AQ.j]using n43 d hd J hu) ?_;rintro v h1 n1 ⟨hn1,ob,⟨vf,o1,vr,o2,r,o3,rfl,rfl,t,w,z⟩,a,c,hh⟩;have N:=DW.old (_L:=Ha []) (_v:=r) c hh (show n<n+2 by omega) hx;have O:=DW.old (_L:=Ha []) (_v:=r) c hh (show n+1<n+2 by omega) hy;have E:=JP a hh;have x:IN 3 _ _ vr o2:=w;have C:IN 6 _ _ r o3:=z;obtain⟨s1,s2⟩:=t.st;obtain⟨s3,s4⟩:=x.st;obtain⟨T,s6⟩:=C.st;unfold SV.B at s1 s3 T;unfold SV.cells at s2 s4 s6;simp[go_sem,AE,N,AG.j,AQ.j,Ad,AD _ _ (show n≠n1 by omega)];obtain⟨o0,R,b⟩:BF o1 h1/\(AJ o1).Nodup/\∀k∈AJ o1,n+2<=k/\k<n1:=by
  refine⟨(wI.1 E).1,?_,λk hk=>c k (by rw[Ac];exact qz _ hk)⟩;rw[Ac]at a;exact(qu.1 a).1
 have o:=kw d.normal.W J.len J.W 0 vf o1 n1 (h_ (h_ h1 n (some (.cells (vf::AO d.T0.Q::AA d.T0.I::AA d.T0.move::AX d.T0.Y::AN d.T0.Z::vr::AT d.S.A::Bi d.S.L::r::CA d.S.vars::[])))) n1 (some (.cells [AA 0]))) (n1+1) t
  (λp hp=>by
    have:=b p.1 (qa.2 ⟨p,hp,rfl⟩);rw[AD _ _ mq,AD _ _ mq];exact o0 p hp) R (λg=>by have:=b _ g;omega) (AE _ _ _) mq hb
 refine qM o ?_;rintro r0 h' n' ⟨rfl,rfl,G,q,u,M,hq1,i⟩;have f:∀k,k∉AJ o1->k≠n->k<n1->h' k=h1 k:=λk h1 h2 h3=>by rw[i k h1 mq,AD _ _ mq,AD _ _ h2]
 have F:=i n (λg=>by have:=b _ g;omega) mq;rw[AD _ _ mq,AE]at F;have P:=(f (n+1) (λg=>by have:=b _ g;omega) mq mq).trans O;simp[go_sem,AE,F,P];refine .inl ⟨by omega,G++(o2++o3),⟨vf,G,vr,o2,r,o3,rfl,rfl,u,w,z⟩,?_,λk hk=>?_,UH (λp hp=>?_) λk y e=>?_⟩;rw[Ac]at a ⊢;rw[q];exact a;rw[Ac,q,<-Ac]at hk;have:=c k hk;omega;rcases qd.1 hp with hp|hp;have hk:p.1∈AJ o1:=by rw[<-q];exact qa.2 ⟨p,hp,rfl⟩
 have:=b _ hk;rw[AD _ _ mq];exact M p hp;have hk:p.1∈AJ (o2++o3):=qa.2 ⟨p,hp,rfl⟩;have Sx:=c p.1 (by rw[Ac];exact qx _ hk);have K:p.1∉AJ o1:=λg=>by
  rw[Ac]at a;exact(qu.1 a).2.2 _ g _ hk rfl
 rw[AD _ _ mq,f _ K mq mq];exact(wI.1 E).2 p hp;have:=s k y e;rw[AD _ _ mq,f k (λg=>by have:=b _ g;omega) mq mq];exact DW.old (_L:=Ha []) (_v:=r) c hh mq (H k y e)
theorem bM:(Be prog 142).map (λf=>(f.name == "_",f.type,f.offset))=[(false,3,0),(false,3,1)]:=by kernel_rfl
theorem Ur{a b:Int}{h:List SV}(p:h.length=2)(f:CK prog [.int .i64 a,.int .i64 b] h (Be prog 142)=some true):h=[.int .i64 a,.int .i64 b]:=by
 rw[Ct,bM]at f
 match h,p with
 | [x, y], _ =>
  have s:(OX prog 3).isSome=true:=by simp[go_sem]
  have t:Bj prog 3=1:=by simp[go_sem]
  have q:GH prog 3=some false:=by simp[go_sem]
  have one:∀(c:Int)(z:SV)(r:Bool),DZ prog 3 (.int .i64 c) z=some r->∃d,z=.int .i64 d/\r=(c==d):=λc z r g=>by
   cases z with
   | int k d=>
    simp only[DZ,s,t,q,and_true]at g;split at g;rename_i e;subst e;cases g;exact⟨d,rfl,rfl⟩;cases g
   | _=>simp[DZ]at g
  simp only[DJ,qt,if_false,we,List.getElem?_cons_succ]at f;cases h1:DZ prog 3 (.int .i64 a) x with
  | none=>simp[h1]at f
  | some r1 =>
   cases r1 with
   | false=>simp[h1]at f
   | true =>
    simp only[h1]at f;cases h2:DZ prog 3 (.int .i64 b) y with
    | none=>simp[h2]at f
    | some r2 =>
     cases r2 with
     | false=>simp[h2]at f
     | true=>
      obtain⟨l,rfl,n⟩:=one a x true h1;obtain⟨m,rfl,o⟩:=one b y true h2;have i:a=l:=by simpa using n.symm
      have j:b=m:=by simpa using o.symm
      rw[i,j]
section
variable{E:BZ}{evs:Operand->SV}{o:Oper}{h:Hp}{n:Nat}{K:SV->Hp->Nat->Prop}
theorem Hq{m y x:Operand}{q:Nat}{a b:Int}{es:List (SV×SV)}{r:Option (Nat×SV)}(Z:o.op=.mapUpdate 208 m y x)(hm:evs m=.map q)(hq:h q=some (.map es))(hy:evs y=.agg [.int .i64 a,.int .i64 b])(Q:∀p∈es,UQ p)
 {es2:List (SV×SV)} (N:(match r with|some p=>FY es p.1 (.agg [.int .i64 a,.int .i64 b]) (evs x)|none=>es++[(.agg [.int .i64 a,.int .i64 b],evs x)])=es2) (S:EA prog 142 [.int .i64 a,.int .i64 b] es 0=some r)
 (hk:K (.tup []) (h_ h q (some (.map es2))) n):cC E prog evs o h n K:=by
 subst N;refine⟨by rw[Z];simp,λc ev _ _ R F hv=>?_⟩;have A:=hv m;have k:=hv y;have B:=hv x;rw[hm,V]at A;obtain⟨D,hρ,v⟩:=A;rw[hy]at k;have s:=Qj k;obtain⟨W,g,d,g1,J,g3,X⟩:=R.obj _ _ hq;rw[hρ]at g1;cases g1;have z:(getObj D).run prog c.w=.ok (.map g d) c.w:=by simp[getObj,Sem.run,J]
 have C:prog.underlying 208=some (.map 142 4):=Tryz.underlying208;have u:∀I,(Instr.checkKey I 10000 142 (ev y)).run prog c.w=.ok () c.w:=λI=>by rw[s];exact Ih I a b c.w
 have i:∀ob:Obj,(setObj D ob).run prog c.w=.ok () { c.w with heap:=c.w.heap.setIfInBounds D ob }:=λob=>by
  simp[setObj,Sem.run,J]
 have fin:∀(t:List (SV×SV))(f:Array MapEntry)(clock':Nat),AU (λ(p:SV×SV)(e:MapEntry)=>V c p.1 e.key/\V c p.2 e.val) t f.toList->Hb f.toList clock'->
  (Instr.mapUpdate 208 (ev m) (ev y) (ev x)).run prog c.w=.ok () { c.w with heap:=c.w.heap.setIfInBounds D (.map f clock') }->K (.tup []) (h_ h q (some (.map t))) n->
  ∃h' n' c',(execOp ev o).run prog c.w=.ok .skip c'.w/\CB h' c'/\Fr n' c'/\Fo n c n' c'/\K (.tup []) h' n':=λt f clock' he L hr hK=>by
  obtain⟨R',E'⟩:=JN (clock':=clock') R hq hρ J he L;exact⟨_,n,_,by simp[execOp,Z,hr],R',F,⟨E',IO n,λ_ _=>rfl⟩,hK⟩
 rcases JE S5 k c.w es g.toList 0 r g3 S with⟨rfl,hg⟩|⟨j,x2,y2,e2,ds,rfl,hg,hxy,Y,hds,hfe⟩
 have l:=EX Tryz.underlying142 hg;refine fin _ (g.push { key:=ev y,val:=ev x,born:=d }) (d+1) (by rw[Array.toList_push];exact wo g3 (as':=[(_,evs x)]) ⟨⟨k,B⟩,trivial⟩) (by rw[Array.toList_push];exact X.push _ rfl) ?_ hk;simp[Instr.mapUpdate,AM C,v,z,u,l,i];have l:=EX Tryz.underlying142 hg;rw[qZ]at S l;obtain⟨G,v',k1,k2⟩:=Nc es 0 j x2 (by rw[qZ];exact S);obtain⟨a',W,k3⟩:=Q _ (vJ k1);have M:G=[.int .i64 a',.int .i64 W]:=by simpa using k3
 have hs:=Ur (by rw[M];rfl) k2;obtain⟨H,k4,k5,_⟩:=AU.get g3 k1;have O:H=e2:=by rw[Y]at k4;exact(Option.some.inj k4).symm
 subst O;simp only[hs]at k5;have P:=Qj k5;have T:g[j]? = some H:=by simpa using Y
 have U:Instr.sameBits 10000 H.key (ev y)=true:=by
  rw[P,s];have:∀n,Instr.sameBits (n+1) (.agg #[.int .i64 a,.int .i64 b]) (.agg #[.int .i64 a,.int .i64 b])=true:=λn=>by simp[Instr.sameBits]
  exact this 9999
 refine fin _ _ d (Na j k B g3) (Hb.modify X j _ λ_=>rfl) ?_ (by simpa using hk);simp[Instr.mapUpdate,AM C,v,z,u,l,Instr.keyThatStays,T,U,i]
theorem Lr{m y x:Operand}{q:Nat}{a b:Int}{es:List (SV×SV)}{r:Option (Nat×SV)}(Z:o.op=.mapUpdate 138 m y x)(hm:evs m=.map q)(hq:h q=some (.map es))(hy:evs y=.agg [.int .i64 a,.int .i64 b])(Q:∀p∈es,UQ p)
 {es2:List (SV×SV)} (N:(match r with|some p=>FY es p.1 (.agg [.int .i64 a,.int .i64 b]) (evs x)|none=>es++[(.agg [.int .i64 a,.int .i64 b],evs x)])=es2) (S:EA prog 142 [.int .i64 a,.int .i64 b] es 0=some r)
 (hk:K (.tup []) (h_ h q (some (.map es2))) n):cC E prog evs o h n K:=by
 subst N;refine⟨by rw[Z];simp,λc ev _ _ R F hv=>?_⟩;have A:=hv m;have k:=hv y;have B:=hv x;rw[hm,V]at A;obtain⟨D,hρ,v⟩:=A;rw[hy]at k;have s:=Qj k;obtain⟨W,g,d,g1,J,g3,X⟩:=R.obj _ _ hq;rw[hρ]at g1;cases g1;have z:(getObj D).run prog c.w=.ok (.map g d) c.w:=by simp[getObj,Sem.run,J]
 have C:prog.underlying 138=some (.map 142 3):=Tryz.underlying138;have u:∀I,(Instr.checkKey I 10000 142 (ev y)).run prog c.w=.ok () c.w:=λI=>by rw[s];exact Ih I a b c.w
 have i:∀ob:Obj,(setObj D ob).run prog c.w=.ok () { c.w with heap:=c.w.heap.setIfInBounds D ob }:=λob=>by
  simp[setObj,Sem.run,J]
 have fin:∀(t:List (SV×SV))(f:Array MapEntry)(clock':Nat),AU (λ(p:SV×SV)(e:MapEntry)=>V c p.1 e.key/\V c p.2 e.val) t f.toList->Hb f.toList clock'->
  (Instr.mapUpdate 138 (ev m) (ev y) (ev x)).run prog c.w=.ok () { c.w with heap:=c.w.heap.setIfInBounds D (.map f clock') }->K (.tup []) (h_ h q (some (.map t))) n->
  ∃h' n' c',(execOp ev o).run prog c.w=.ok .skip c'.w/\CB h' c'/\Fr n' c'/\Fo n c n' c'/\K (.tup []) h' n':=λt f clock' he L hr hK=>by
  obtain⟨R',E'⟩:=JN (clock':=clock') R hq hρ J he L;exact⟨_,n,_,by simp[execOp,Z,hr],R',F,⟨E',IO n,λ_ _=>rfl⟩,hK⟩
 rcases JE S5 k c.w es g.toList 0 r g3 S with⟨rfl,hg⟩|⟨j,x2,y2,e2,ds,rfl,hg,hxy,Y,hds,hfe⟩
 have l:=EX Tryz.underlying142 hg;refine fin _ (g.push { key:=ev y,val:=ev x,born:=d }) (d+1) (by rw[Array.toList_push];exact wo g3 (as':=[(_,evs x)]) ⟨⟨k,B⟩,trivial⟩) (by rw[Array.toList_push];exact X.push _ rfl) ?_ hk;simp[Instr.mapUpdate,AM C,v,z,u,l,i];have l:=EX Tryz.underlying142 hg;rw[qZ]at S l;obtain⟨G,v',k1,k2⟩:=Nc es 0 j x2 (by rw[qZ];exact S);obtain⟨a',W,k3⟩:=Q _ (vJ k1);have M:G=[.int .i64 a',.int .i64 W]:=by simpa using k3
 have hs:=Ur (by rw[M];rfl) k2;obtain⟨H,k4,k5,_⟩:=AU.get g3 k1;have O:H=e2:=by rw[Y]at k4;exact(Option.some.inj k4).symm
 subst O;simp only[hs]at k5;have P:=Qj k5;have T:g[j]? = some H:=by simpa using Y
 have U:Instr.sameBits 10000 H.key (ev y)=true:=by
  rw[P,s];have:∀n,Instr.sameBits (n+1) (.agg #[.int .i64 a,.int .i64 b]) (.agg #[.int .i64 a,.int .i64 b])=true:=λn=>by simp[Instr.sameBits]
  exact this 9999
 refine fin _ _ d (Na j k B g3) (Hb.modify X j _ λ_=>rfl) ?_ (by simpa using hk);simp[Instr.mapUpdate,AM C,v,z,u,l,Instr.keyThatStays,T,U,i]
end
def RE(s:List (Int×Int))(m:Int×Int):List (Int×Int):=if m∈s then s else s++[m]
def Dx(s:List (Int×Int))(m:Int×Int):List (Int×Int):=if m.2=0 then s else RE s m
def AG.mvs(h:AG):List (Int×Int):=(h.I,h.move)::h.Y.map λd=>(d.rev,d.move)
def Ef(s:List (Int×Int))(l:List (Int×Int)):List (Int×Int):=l.foldl Dx s
def Ba(p:Int×Int):SV:=.agg [AA p.1,AA p.2]
def C3(s:List (Int×Int)):List (SV×SV):=s.map λm=>(Ba m,.bool true)
theorem Wz(a b c d:Int):CK prog [.int .i64 a,.int .i64 b] [.int .i64 c,.int .i64 d] (Be prog 142)=some (a==c&&b==d):=by
 rw[Ct,bM];have f:(OX prog 3).isSome=true:=by simp[go_sem]
 have g:Bj prog 3=1:=by simp[go_sem]
 have e:GH prog 3=some false:=by simp[go_sem]
 have one:∀x y:Int,DZ prog 3 (.int .i64 x) (.int .i64 y)=some (x==y):=λx y=>by simp[DZ,f,g,e]
 simp only[DJ,qt,if_false,we,List.getElem?_cons_succ,one];cases h1:(a==c)<;>cases h2:(b==d)<;>simp
theorem Rt(s:List (Int×Int)):∀p∈C3 s,UQ p:=λp hp=>by
 obtain⟨e,_,rfl⟩:=qa.1 hp;exact⟨e.1,e.2,rfl⟩
theorem Ut(a b:Int):∀(s:List (Int×Int))(i:Nat),
 ((a,b)∉s/\EA prog 142 [.int .i64 a,.int .i64 b] (C3 s) i=some none)\/
 ((a,b)∈s/\∃j,EA prog 142 [.int .i64 a,.int .i64 b] (C3 s) i=some (some (i+j,.bool true))/\FY (C3 s) j (Ba (a,b)) (.bool true)=C3 s)
 | [],i=>.inl ⟨by simp,rfl⟩
 | (c,d)::r,i=>by
  have l:C3 ((c,d)::r)=(Ba (c,d),.bool true)::C3 r:=rfl;rw[l];simp only[EA,Ba,Wz];by_cases e:a=c/\b=d;obtain⟨rfl,rfl⟩:=e;have f:(a==a&&b==b)=true:=by simp
  rw[f];exact .inr ⟨by simp,0,rfl,by simp[FY]⟩;have f:(a==c&&b==d)=false:=by
   cases h1:(a==c)<;>cases h2:(b==d)<;>simp_all
  have g:¬((a,b)=(c,d)):=by
   intro h;cases h;exact e ⟨rfl,rfl⟩
  rw[f];rcases Ut a b r (i+1)with⟨h1,h2⟩|⟨h1,j,h2,k⟩
  exact .inl ⟨by simp only[qe,not_or];exact⟨g,h1⟩,h2⟩;refine .inr ⟨qP _ h1,j+1,by rw[show i+(j+1)=i+1+j by omega];exact h2,?_⟩;have:FY ((SV.agg [AA c,AA d],SV.bool true)::C3 r) (j+1) (.agg [AA a,AA b]) (.bool true)=(SV.agg [AA c,AA d],SV.bool true)::FY (C3 r) j (.agg [AA a,AA b]) (.bool true):=rfl;rw[this];exact congrArg _ k
theorem Ru(s:List (Int×Int))(m:Int×Int):∃r,EA prog 142 [.int .i64 m.1,.int .i64 m.2] (C3 s) 0=some r/\(match r with|some p=>FY (C3 s) p.1 (.agg [.int .i64 m.1,.int .i64 m.2]) (.bool true)|none=>C3 s++[(.agg [.int .i64 m.1,.int .i64 m.2],.bool true)])=C3 (RE s m):=by
 rcases Ut m.1 m.2 s 0 with⟨h1,h2⟩|⟨h1,j,h2,a⟩
 refine⟨none,h2,?_⟩;rw[RE,mw h1];simp[C3,Ba];rw[qZ]at h2;refine⟨_,h2,?_⟩;rw[RE,my h1];exact a
theorem mb(x:AG)(O:x.l)(s:List (Int×Int)){H:Hp}{n k p:Nat}(hp:H p=some (.cells [.map k]))(hk:H k=some (.map (C3 s))):
 BP prog 133 [x.h,.ptr p 0] H n (λv h' n'=>v=x.h/\h'=h_ H k (some (.map (C3 (Ef s x.mvs))))/\n'=n):=by
 refine FF func133 rfl λC=>?_;have hpn:=(C p _ hp).1;have J:=(C k _ hk).1;have K:p≠k:=by rintro rfl;rw[hp]at hk;cases hk
 have hsd:=O.Y;obtain⟨U,t⟩:∃U:List (Int×Int)->Hp,∀f,U f=h_ (h_ H k (some (.map (C3 f)))) (n+1) (some (.cells [.y 0 [] true,AA 0,AA 0,.y 0 [] true,.y 0 [] true])):=⟨_,λ_=>rfl⟩
 have Up:∀f,U f p=some (.cells [.map k]):=λf=>by rw[t,AD _ _ mq,AD _ _ K];exact hp
 have G:∀f,U f k=some (.map (C3 f)):=λf=>by rw[t,AD _ _ mq,AE]
 have M:∀s1 s2,h_ (U s1) k (some (.map (C3 s2)))=U s2:=λs1 s2=>by
  rw[t,t];funext j;simp only[h_];grind
 have N:∀f,U f (n+1)=some (.cells [.y 0 [] true,AA 0,AA 0,.y 0 [] true,.y 0 [] true]):=λf=>by rw[t,AE]
 have L:∀f j y,U f j=some y->j<n+2:=λf j y e=>by
  rw[t]at e;have:=C j y;simp only[h_]at e;grind
 refine Bc 2 [(1,.ptr p 0),(2,.q x.j),(3,.ptr (n+1) 0)] (U s) (λm=>m=n+2) ?_ (λm hm=>?_);rw[t];simp[go_sem,AG.h,Or,qq];have hb:=λj y=>C j y;refine⟨Ap (by rw[AD _ _ mq,AD _ _ mq];exact C.none (IO n)) (by simp[h_]),λj y e=>?_⟩;have h1:=hb j y;have h2:=hb k;simp only[h_]at e ⊢;grind;subst hm;refine CH 0 [(1,.ptr p 0),(2,.q x.j),(3,.ptr (n+1) 0)] (U (Dx s (x.I,x.move))) (λm=>m=n+2) (AK ?_) (λm hm=>?_);by_cases h0:x.move=0;simp[go_sem,AG.j,h0,Dx,Or];obtain⟨r,g1,B⟩:=Ru s (x.I,x.move);have u:(x.move !=0)=true:=by simpa using h0
 simp[go_sem,AG.j,u,Up];refine Hq (q:=k) (a:=x.I) (b:=x.move) rfl ms (G s) ms (Rt s) (es2:=C3 (RE s (x.I,x.move))) (by simp only[go_sem];cases r<;>exact B) g1 ?_;simp[go_sem,Or,M,Dx,h0];subst hm;refine CH 0 [(1,.ptr p 0),(2,.q x.j),(3,.ptr (n+1) 0)] (U (Ef s x.mvs)) (λm=>n+2<=m) ?_ (λm hm=>?_);refine Bc 0 [(1,.ptr p 0),(2,.q x.j),(3,.ptr (n+1) 0),(20,AX x.Y),(21,AA x.Y.length),(22,AA 0)] (U (Dx s (x.I,x.move))) (λm=>m=n+2) ?_ (λm hm=>?_);simp[go_sem,AG.j,Or];subst hm;refine AP (Aq 1 (α:=Nat) (λi=>[(1,.ptr p 0),(2,.q x.j),(3,.ptr (n+1) 0),(20,AX x.Y),(21,AA x.Y.length),(22,AA i)]) (λi=>U (Ef (Dx s (x.I,x.move)) ((x.Y.take i).map λd=>(d.rev,d.move))))
  (λi m=>i<=x.Y.length/\n+2<=m) (λi=>x.Y.length-i) 0 ⟨qj _,IO _⟩ ?_ AC ?_)
 simp[go_sem,look,Or];rintro i m ⟨hi,D⟩;by_cases w:i<x.Y.length;have T:=wS i mq;obtain⟨d,hd⟩:∃d,x.Y[i]=d:=⟨_,rfl⟩
 have F:Ef (Dx s (x.I,x.move)) ((x.Y.take (i+1)).map λd=>(d.rev,d.move))=Dx (Ef (Dx s (x.I,x.move)) ((x.Y.take i).map λd=>(d.rev,d.move))) (d.rev,d.move):=by
  rw[qb w,hd,qc,Ef,vp];rfl
 generalize Ef (Dx s (x.I,x.move)) ((x.Y.take i).map λd=>(d.rev,d.move))=S at F ⊢;refine Al 0 [(1,.ptr p 0),(2,.q x.j),(3,.ptr (n+1) 0),(20,AX x.Y),(21,AA x.Y.length),(22,AA i),(23,.bool true)] (U S) m ?_ (λm' c=>?_);simp[go_sem,Or,w];subst c;refine Al 0 [(1,.ptr p 0),(2,.q x.j),(3,.ptr (n+1) 0),(20,AX x.Y),(21,AA x.Y.length),(22,AA i)] (U S) m ?_ (λm' c=>?_);simp[go_sem,Or];subst c;refine AV 0 (α:=Unit) (λ_=>[(1,.ptr p 0),(2,.q x.j),(3,.ptr (n+1) 0),(20,AX x.Y),(21,AA x.Y.length),(22,AA i)]) (λ_=>U (Dx S (d.rev,d.move))) (λ_ m'=>m<=m') (AP ?_) (λ_ m' c=>?_);refine As 2 [(1,.ptr p 0),(2,.q x.j),(3,.ptr (n+1) 0),(20,AX x.Y),(21,AA x.Y.length),(22,AA i),(5,.q [AA d.rev,AA d.move])] (U S) m ?_ (λm' c=>?_);simp[go_sem,Or,w,hd,Di.h,Ad,AE];refine⟨Ap (Ai (L S) D) (AE _ _ _),λj y e=>?_⟩;have:=L S j y e;rw[AD _ _ mq];exact e;refine AK ?_;by_cases h0:d.move=0;simp[go_sem,h0,Dx,Or];exact c;obtain⟨r,g1,B⟩:=Ru S (d.rev,d.move);have u:(d.move !=0)=true:=by simpa using h0
 simp[go_sem,u,Up];refine Hq (q:=k) (a:=d.rev) (b:=d.move) rfl ms (G S) ms (Rt S) (es2:=C3 (RE S (d.rev,d.move))) (by simp only[go_sem];cases r<;>exact B) g1 ?_;simp[go_sem,Or,M,Dx,h0];exact c;refine AK ?_;simp[go_sem,T,Or,-Int.natCast_add];exact⟨i+1,by omega,⟨by omega,by omega⟩,Or,by rw[<-wq,F];exact AC⟩;have:i=x.Y.length:=by omega
 subst this;refine AK ?_;simp[go_sem];exact⟨D,λo y e=>e⟩;refine AK ?_;simp[go_sem,AG.j,N,AE];refine .inr ⟨0,x.h,h_ H k (some (.map (C3 (Ef s x.mvs)))),rfl,by simp[AG.h,AG.j,C_,c_,Fp.E.c_,Di.E.c_,A3.E.c_],λo y e=>?_,rfl,rfl,rfl⟩;have h1:=C o y;have h2:U (Ef s x.mvs) o=some y->h_ (U (Ef s x.mvs)) (n+1) (some (.cells [AO x.Q,AA x.I,AA x.move,AX x.Y,AN x.Z])) o=some y\/o=n+1:=λg=>by
  by_cases B:o=n+1;exact .inr B;exact .inl (by rw[AD _ _ B];exact g)
 by_cases A:o=k;subst A;rw[AE]at e;cases e;refine⟨?_,J,?_⟩;rw[AD _ _ mq];exact G _;simp only[BH,qG,C3,qg];intro p hp;obtain⟨z,_,rfl⟩:=qa.1 hp;exact⟨by simp[Ba,C_,c_],by simp[C_]⟩;rw[AD _ _ A]at e;obtain⟨P,R⟩:=h1 e;refine⟨?_,P,R⟩;rw[AD _ _ mq,t,AD _ _ mq,AD _ _ A];exact e
theorem WJ{H:Hp}{n m k p:Nat}{es:List (Int×Int)}{x:Int×Int}{o:Option Nat}(a:CD n m 2 o (es.map Ba))(hl:es.length<=1073741823)(h1:H k=some (.cells [AA x.1,AA x.2]))(h2:∀j,o=some j->H j=some (.cells ((es.map Ba).flatMap SV.cells))):
 Ak prog H p .append [209,209] [AZ 2 o (es.map Ba),.sl k 0 2 1 true]=some { val:=.sl p 0 2 (es.length+1) false,upd:=o.map λj=>(j,none),new:=some (.cells ((es.map Ba).flatMap SV.cells++[AA x.1,AA x.2])) }:=by
 have:=Hf (P:=prog) (H:=H) (t:=209) (t2:=209) (el:=142) ms ms ms mr ms ms ms (by simp;omega) a (e:=Ba x) rfl h1 (λj e=>by rw[h2 j e]) p;rw[this];simp[Ba,SV.cells]
structure YP(E:BZ)(l:Nat)(ks0:List (Int×Int))(J:List (Int×Int)->(Nat->Prop)->Hp->Nat->Prop):Prop where
 step:∀ks x D h m,(∃rest,(ks++[x]++rest).Perm ks0)->J ks D h m->Fb E prog l [Ba x] h m (Tt (J (ks++[x])) (λ_ _ _=>False) D h m)
 keep:∀ks D h m h' m',J ks D h m->m<=m'->(∀o,D o->h' o=h o)->J ks D h' m'
 lt:∀ks D h m,J ks D h m->∀o,D o->o<m
theorem MF{ks b a:List (Int×Int)}(h:(ks++b).Perm a){i:Nat}(hi:i<b.length):(ks++[b[i]]++b.eraseIdx i).Perm a:=by
 refine List.Perm.trans ?_ h;rw[qr];refine List.Perm.append_left ks ?_;exact Iw b i hi
section
variable{E:BZ}{yl:Nat}{J:List (Int×Int)->(Nat->Prop)->Hp->Nat->Prop}
theorem ml{d:List (Int×Int)}(Y:YP E yl d J)(es:List (SV×SV))(hk:es.map (·.1)=d.map Ba){H:Hp}{n q s:Nat}{D:Nat->Prop}(I:H q=some (.cells [.map s]))(K:H s=some (.map es))(z:¬D s)(F:J [] D H n):
 Ab E prog 184 [.fn (.yield yl) [] [],.ptr q 0] H n (λ_ h' m'=>∃ks D',ks.Perm d/\n<=m'/\(∀o,D' o->D o\/(n<=o/\o<m'))/\(∀o,¬D o->o<n->o≠s->h' o=H o)/\J ks D' h' m'):=by
 refine gq func184 rfl λG=>?_;have hqn:=(G q _ I).1;have hsn:=(G s _ K).1;have k:=Y.lt _ _ _ _ F;simp[go_sem,I];refine Ls (m:=s) (es:=es) rfl ms ms K ?_;simp[go_sem];refine BC 1 (α:=(List (Int×Int)×List (Int×Int))×(List (SV×SV)×Option (SV×SV))×(Nat->Prop)×Hp) (λa=>[(0,.fn (.yield yl) [] []),(5,.ptr n 0)]) (λa=>a.2.2.2)
  (λa m=>n<m/\a.2.2.2 n=some (.iter a.2.1.1 a.2.1.2)/\a.2.1.1.map (·.1)=a.1.2.map Ba/\(a.1.1++a.1.2).Perm d/\J a.1.1 a.2.2.1 a.2.2.2 m/\(∀o,a.2.2.1 o->D o\/(n<o/\o<m))/\(∀o,¬D o->o<n->o≠s->a.2.2.2 o=H o)) (λa=>a.1.2.length)
  (([],d),(es,none),D,h_ (h_ H s none) n (some (.iter es none))) ?_ ?_ AC ?_
 refine⟨vh n,AE _ _ _,hk,List.Perm.refl _,Y.keep _ _ _ _ _ _ F (vZ n) λo g=>?_,λo g=>.inl g,λo g1 C g3=>?_⟩;have:=k o g;show h_ (h_ H s none) n _ o=H o;rw[AD _ _ mq,AD _ _ (by rintro rfl;exact z g)];show h_ (h_ H s none) n _ o=H o;rw[AD _ _ mq,AD _ _ g3];simp[look];rintro⟨⟨ks,j⟩,⟨left,last⟩,x,h2⟩ m ⟨hnm,fF,h,b,e,c,BA⟩;dsimp only at fF h b e c BA ⊢;have w:¬x n:=λg=>by rcases c n g with g|g;have:=k n g;omega;omega
 have B:left.length=j.length:=by have:=congrArg List.length h;simpa using this
 simp[go_sem];refine LB (q:=n) (left:=left) (last:=last) rfl ms fF (λi hi=>?_) λh0=>?_;have f:i<j.length:=by omega
 have N:left[i].1=Ba j[i]:=by
  have:=congrArg (λl=>l[i]?) h;simpa[hi,f]using this
 simp[go_sem];refine Lq (q:=n) (left:=left.eraseIdx i) (p:=left[i]) rfl ms (AE _ _ _) ?_;have u:=Y.lt _ _ _ _ e;simp[go_sem,N,Ba,AE,Ad];refine Fb.mono (Y.step ks j[i] x _ _ ⟨_,MF b f⟩ (Y.keep _ _ _ _ _ _ e (vZ m) λo g=>by have:=u o g;rw[AD _ _ mq,AD _ _ (by rintro rfl;exact w g)])) ?_;rintro v M m3 ⟨hm3,L,y,r,⟨rfl,A⟩|⟨_,A⟩⟩;simp[go_sem];refine⟨ks++[j[i]],j.eraseIdx i,by rw[List.length_eraseIdx];simp[f];omega,left.eraseIdx i,some left[i],L,M,⟨by omega,?_,?_,?_,A,λo g=>?_,λo g1 C g3=>?_⟩,AC⟩;rw[r n w mq,AD _ _ mq];exact AE _ _ _;rw[FJ,FJ,h];exact MF b f;rcases y o g with g|g;rcases c o g with g|g;exact .inl g;exact .inr mq;exact .inr mq;have:¬x o:=λg=>by rcases c o g with g|g;exact g1 g;omega
 rw[r o this mq,AD _ _ mq,AD _ _ mq];exact BA o g1 C g3;exact A.elim;have t:j=[]:=List.eq_nil_of_length_eq_zero (by rw[<-B,h0];rfl);subst t;simp[go_sem];refine .inl ⟨ks,by simpa using b,by omega,x,λo g=>?_,BA,e⟩;rcases c o g with g|g;exact .inl g;exact .inr mq
end
theorem mn(es:List (SV×SV))(b:List (Int×Int))(hk:es.map (·.1)=b.map Ba)(hlen:b.length<=1048576){H:Hp}{n q s:Nat}(I:H q=some (.cells [.map s]))(r:H s=some (.map es)):
 BP prog 241 [.y 0 [] true,.fn (.func 184) [] [.ptr q 0]] H n (λv h' n'=>∃ks:List (Int×Int),ks.Perm b/\M1 2 (ks.map Ba) (h_ H s none) n v h' n'):=by
 refine goM func241 rfl mu mu ms λG B=>?_;have hqn:=(G q _ I).1;have hsn:=(G s _ r).1;have hqs:q≠s:=by rintro rfl;rw[I]at r;cases r
 simp[go_sem];refine HX rfl rfl rfl λE1 l R O=>?_;let J:List (Int×Int)->(Nat->Prop)->Hp->Nat->Prop:=λks D hh m=>∃o:Option Nat,D=(λj=>j=n\/j=n+1\/o=some j)/\n+1<m/\hh n=some (.cells [AZ 2 o (ks.map Ba)])/\hh (n+1)=some (.loop (R .ready none))/\CD (n+2) m 2 o (ks.map Ba)/\∀j,o=some j->hh j=some (.cells ((ks.map Ba).flatMap SV.cells));have Y:YP E1 l b J:=by
  refine⟨?_,?_,?_⟩
  . rintro ks x D hh m ⟨rest,hp⟩ ⟨o,F,E,g1,a,g3,h⟩;have hkl:ks.length+1<=1048576:=by have:=hp.length_eq;simp at this;omega
    rw[show Ba x=.agg [AA x.1,AA x.2]from rfl];refine O _ _ _ _ a rfl (Lk ?_);have t:n≠m:=by omega
    have K:n+1≠m:=by omega
    have w:n≠m+1:=by omega
    have z:n≠m+1+1:=by omega
    have M:m≠m+1:=by omega
    have A:m≠n+1:=by omega
    have C:n+1≠m+1:=by omega
    have N:m+1≠n+1:=by omega
    have u:m+1≠n:=by omega
    have c:m≠n:=by omega
    have k:∀j,o=some j->n+2<=j/\j<m:=λj e=>g3.lt j e;simp[go_sem,IW,AE,AD,Ad,g1,a,t,K,A];rw[WJ (x:=x) g3 mq (by simp[h_]) (by
     intro j e;have:=k j e;have:=h j e;simp only[h_];grind)]
    have done:∀(f:Hp)(o2:Nat),o2=m+2->(∀j,¬(j=n\/j=n+1\/o=some j)->j<m->f j=hh j)->f n=some (.cells [.sl o2 0 2 (ks.length+1) false])->f o2=some (.cells ((ks.map Ba).flatMap SV.cells++[AA x.1,AA x.2]))->f (n+1)=some (.loop (R .busy none))->
     ∀sa,Li (n+1) R (Tt (J (ks++[x])) (λ_ _ _=>False) D hh m) .normal sa f (m+1+1+1):=by
     rintro f o2 rfl Q S T U sa;subst F;refine⟨U,by omega,λj=>j=n\/j=n+1\/some (m+2)=some j,λj g=>?_,λj g1 a=>?_,.inl ⟨rfl,some (m+2),rfl,by omega,?_,AE _ _ _,?_,λj e=>?_⟩⟩;rcases g with g|g|g;exact .inl (.inl g);exact .inl (.inr (.inl g));cases g;exact .inr mq;rw[AD _ _ (λe=>g1 (.inr (.inl e)))];exact Q j g1 a;rw[AD _ _ mq,S];simp[AZ];rw[qc];exact g3.push rfl rfl mq mq;cases e;rw[AD _ _ mq,T,qc,qH];rfl
    cases o with
    | none=>
     simp[go_sem,AD,g1,t,w,z,AZ];refine done _ _ rfl (λj h1 h2=>?_) ?_ ?_ ?_ _;simp only[h_];grind;simp only[h_];grind;simp only[h_];grind;simp only[h_];grind
    | some j=>
     have hj:=k j rfl;have L:n≠j:=by omega
     simp[go_sem,AD,g1,t,L,w,z,AZ];refine done _ _ rfl (λj h1 h2=>?_) ?_ ?_ ?_ _;simp only[h_];grind;simp only[h_];grind;simp only[h_];grind;simp only[h_];grind
  rintro ks D hh m h' m' ⟨o,rfl,E,g1,a,g3,h⟩ hm p;exact⟨o,rfl,by omega,by rw[p _ (.inl rfl)];exact g1,by rw[p _ (.inr (.inl rfl))];exact a,g3.mono hm,λj e=>by rw[p _ (.inr (.inr e))];exact h j e⟩;rintro ks D hh m ⟨o,rfl,E,g1,a,g3,h⟩ j (rfl|rfl|e);omega;omega;exact(g3.lt j e).2
 refine ww (ml Y es hk (D:=λj=>j=n\/j=n+1) (s:=s) ?_ ?_ ?_ ?_) ?_;simp[h_];rw[mw mq,mw mq];exact I;simp[h_];rw[mw mq,mw mq];exact r;omega;exact⟨none,by simp,by omega,by simp[h_,AZ],by simp[h_],wQ _ _ _,by simp⟩;rintro _ h' m' ⟨ks,D',d,hm,p,BA,o,rfl,E,g1,a,g3,h⟩;refine⟨_,_,a,by simp,?_⟩;simp[go_sem,AD,g1];refine .inl ⟨ks,d,by omega,λj y e=>?_,?_⟩;have i:j≠s:=by rintro rfl;simp[h_]at e
 rw[AD _ _ i]at e;have:=(G j y e).1;rw[AD _ _ mq,BA j mq mq i,AD _ _ mq,AD _ _ mq,e];cases o with
 | none=>
  have P:=g3.none rfl;exact .inl ⟨P,0,true,rfl⟩
 | some j=>
  have:=g3.lt j rfl;exact .inr ⟨j,false,by omega,by omega,by simp[AZ],by rw[AD _ _ mq];exact h j rfl⟩
def VX:List Int->Int
 | []=>0
 | x::l=>if x≠0 then x else VX l
theorem mg(l:List Int)(hl:l.length<=1073741824)(full:Bool):PC 137 [.y 1 (l.map AA) full] (AA (VX l)):=by
 intro h n;refine gq func137 rfl λf=>?_;simp[go_sem];refine BC 1 (α:=Nat) (λk=>[(3,AA 0),(6,.y 1 (l.map AA) full),(7,AA l.length),(8,AA k)]) (λ_=>h) (λk m=>k<=l.length/\n<=m/\VX l=VX (l.drop k)) (λk=>l.length-k) 0 ?_ ?_ AC ?_;simp;simp[look];rintro k m ⟨hk,c,b⟩;by_cases a:k<l.length;have g:=wS k mq;obtain⟨y,d⟩:∃y,l[k]=y:=⟨_,rfl⟩
 have hd:l.drop k=y::l.drop (k+1):=by rw[qA a,d]
 rw[hd,VX]at b;by_cases e:y=0;rw[mw (by simpa using e)]at b;simp[go_sem,a,d,e,g,-Int.natCast_add];exact⟨k+1,by omega,⟨by omega,c,b⟩,Or⟩;rw[my e]at b;simp[go_sem,a,d,e];exact Ar f rfl (by rw[b]);rw[List.drop_eq_nil_of_le mq]at b;simp[go_sem,a];exact Ar f rfl (by rw[b];rfl)
def IX(a b:Int×Int):Int:=VX [FU a.1 b.1,FU a.2 b.2]
def bf:Tr:=.pure 0<|.pure 1<|.pure 2<|.pure 3<|.pure 5<|.pure 6<|.pure 7<|.pure 8<|.one 4<|.one 9<|.one 10<|.one 11<|.one 12 .nil
theorem mf(a b:Int×Int):PC 136 [Ba a,Ba b] (AA (IX a b)):=by
 intro h n;refine FF func136 rfl λf=>?_;have c:=f.lt;refine As 1 [(2,.q [AA a.1,AA a.2]),(3,.q [AA b.1,AA b.2])] h n ?_ (λm hm=>?_);simp[go_sem,Ba];refine⟨by omega,⟨Ap (f.none mq) (by simp[h_]),Ap (f.none mq) (by simp[h_])⟩,λj y e=>by have:=c j y e;simp only[h_];grind⟩;have d:∀j y,h j=some y->j<m:=λj y e=>by have:=c j y e;omega
 refine AV 0 (α:=Unit) (λ_=>[(4,AA (IX a b))]) (λ_=>h) (λ_ m=>n<=m) (CN bf rfl mu mu ?_) (λ_ m hm=>?_);simp[go_sem,bf];refine qY (cS a.1 b.1) ?_;simp[go_sem];refine qY (cS a.2 b.2) ?_;simp[go_sem];have g:Fz (h_ h m (some (.cells [AA (FU a.1 b.1),AA (FU a.2 b.2)]))) h 1 (.sl m 0 1 2 true) (.y 1 ([FU a.1 b.1,FU a.2 b.2].map AA) false):=
  E7 (h':=h_ h m (some (.cells [AA (FU a.1 b.1),AA (FU a.2 b.2)]))) (h:=h) (k:=0) (z:=1) (o:=m) (full:=true) (full':=false) (es:=[AA (FU a.1 b.1),AA (FU a.2 b.2)]) (Ai d (IO _)) mr (by rw[AE];simp[SV.cells]) (by simp[SV.B,SV.cells])
 refine wW (bs:=[.y 1 ([FU a.1 b.1,FU a.2 b.2].map AA) false]) (h2:=h) 1 (AW d AC) ⟨g,trivial⟩ ((mg [FU a.1 b.1,FU a.2 b.2] mr false).use ?_);simp[go_sem,Or,IX];omega;refine AK ?_;simp[go_sem];exact Ar f rfl rfl
end Go.Proofs.YthinbkgpjmjfeaaGreatDoor.Sh
