/- A part of the proof (part 16 of 17). -/
import Derived.Test.YtgakninlhfkkmaaGreatM15
namespace Go.Proofs.YtgakninlhfkkmaaGreat.Sh
open Proofs
set_option maxRecDepth 10000
def I7 (y:AM) (l:List AM):List AM:=l.takeWhile λz=>decide (z.key=y.key)
theorem Lh:∀(f:Nat) (l:List AM),l.length<=f->C8 f l=C8 l.length l
 | 0,[],_=>rfl
 | 0,y::l,h=>by simp at h
 | f+1,[],_=>rfl
 | f+1,y::l,h=>by
  have h1:(l.dropWhile λz=>decide (z.key=y.key)).length<=l.length:=(List.dropWhile_sublist _).length_le;have h2:l.length<=f:=by simpa using h
  rw[qJ,C8,C8,Lh f _ (by omega),Lh l.length _ h1]
theorem Ui (y:AM):∀l:List AM,l.drop (I7 y l).length=l.dropWhile λz=>decide (z.key=y.key)
 | []=>rfl
 | x::l=>by
  unfold I7;rw[List.takeWhile_cons,List.dropWhile_cons];split;rw[qJ,vi];exact Ui y l;rfl
theorem Uj (y:AM):∀l:List AM,l.take (I7 y l).length=I7 y l
 | []=>rfl
 | x::l=>by
  have a:=Uj y l;unfold I7 at a ⊢;rw[List.takeWhile_cons];split;rw[qJ,kn,a];rfl
theorem Zb (y:AM):∀(l:List AM) (i:Nat) (h:i<l.length),(i<(I7 y l).length->(l[i]).key=y.key)/\(i=(I7 y l).length->(l[i]).key≠y.key)
 | [],i,h=>by simp at h
 | x::l,i,h=>by
  unfold I7;rw[List.takeWhile_cons];by_cases c:x.key=y.key;rw[if_pos (by simpa using c)];cases i with
  | zero=>exact⟨λ_=>c,λe=>by simp at e⟩
  | succ i=>
   have:=Zb y l i (by simpa using h);refine⟨λg=>this.1 (by simpa[I7]using g),λg=>this.2 (by simpa[I7]using g)⟩
  rw[if_neg (by simpa using c)];refine⟨λg=>by simp at g,λg=>?_⟩;have:i=0:=by simpa using g
  subst this;exact c
def Wk (g:List AM):List SV:=[AA (g.headD ⟨0,0,0,false⟩).key,.imm 4 (g.map AM.enc) false]
def Xa:Tr:=.pure 0<|.pure 1<|.pure 2<|.pure 3<|.pure 4<|.pure 5<|.pure 6<|.pure 7<|.pure 8<|.pure 9<|.pure 10<|.pure 11<|.pure 12<|.pure 13<|.pure 14<|.pure 15 .nil
def dO:Tr:=.pure 0<|.pure 1<|.pure 2<|.pure 3<|.pure 4<|.pure 5<|.pure 6<|.pure 7<|.one 8<|.pure 9 .nil
section
variable {E : CC} {yl : Nat} {J : Nat → (Nat → Prop) → Hp → Nat → Prop}
set_option maxHeartbeats 4000000 in
theorem gY (B:AF) (hL:B.layers.length<=1048576) (Y:YJ E yl Wk (C8 B.layers.length B.layers) J λ_ _ _=>False) (D:Nat->Prop) (h:Hp) (m:Nat) (hJ:J 0 D h m):
 Ap E Tryz.prog 276 [.fn (.yield yl) [] [],.iptr B.flat] h m (λ_ h' m'=>HN (J (C8 B.layers.length B.layers).length) (λ_ _ _=>False) D h m (.bool true) h' m'):=by
 refine DO Tryz.func276 rfl λho=>?_;obtain⟨L,G⟩:∃L,L=B.layers:=⟨_,rfl⟩
 rw[<-G]at hL Y ⊢;have M0:Ju J D h m [] 0 D h m:=⟨qa _,hJ,by simp,λo g=>.inl g,λ_ _ _=>rfl⟩
 refine B5 0 [(0,.fn (.yield yl) [] []),(3,.imm 4 (L.map AM.enc) false)] h m ?_ (λm' d=>?_);rw[G];simp[go_sem,AF.flat,IO];subst d;refine AY ?_
 . refine BT 0 (α:=Nat×Nat×(Nat->Prop)×Hp) (λq=>[(0,.fn (.yield yl) [] []),(3,.imm 4 ((L.drop q.1).map AM.enc) false)]) (λq=>q.2.2.2) (λq m'=>q.1<=L.length/\q.2.1<=(C8 L.length L).length/\(C8 L.length L).drop q.2.1=C8 (L.drop q.1).length (L.drop q.1)/\Ju J D h m [] q.2.1 q.2.2.1 q.2.2.2 m') (λq=>L.length-q.1) (0,0,D,h) ⟨qg _,qg _,by simp,M0⟩ ?_ AC ?_;simp[go_sem,Ao,IO];rintro⟨i,k,D2,h2⟩ m2 ⟨hi,K,F,T⟩;dsimp only at hi K F T ⊢;obtain⟨a,C⟩:∃a,a=L.drop i:=⟨_,rfl⟩
   have O:a.length=L.length-i:=by rw[C,vf]
   rw[<-C]at F ⊢;by_cases u:a=[]
   . have s:(C8 L.length L).drop k=[]:=by rw[F,u];rfl
     have hk2:(C8 L.length L).length=k:=Nat.le_antisymm (List.drop_eq_nil_iff.1 s) K;refine AJ ?_;simp[go_sem,u];exact .inl (by rw[hk2];exact T.done)
   obtain⟨y,c,b⟩:=List.exists_cons_of_ne_nil u;have hll:a.length=c.length+1:=by rw[b];rfl
   have h0:a[0]'(by omega)=y:=by simp[b]
   obtain⟨t,ht⟩:∃t,t=(I7 y c).length:=⟨_,rfl⟩
   have htr:t<=c.length:=by rw[ht];exact(List.takeWhile_sublist _).length_le
   have I:∀n (h:n<a.length),1<=n->(n<t+1->(a[n]).key=y.key)/\(n=t+1->(a[n]).key≠y.key):=λn h h1=>by
    have e:a[n]=c[n-1]'(by omega):=by
     obtain⟨k,rfl⟩:∃k,n=k+1:=⟨n-1,by omega⟩
     simp[b]
    rw[e];have:=Zb y c (n-1) (by omega);exact⟨λg=>this.1 (by omega),λg=>this.2 (by omega)⟩
   have w:C8 a.length a=(a.take (t+1))::C8 (a.drop (t+1)).length (a.drop (t+1)):=by
    have hdl:(c.dropWhile λz=>decide (z.key=y.key)).length<=c.length:=(List.dropWhile_sublist _).length_le;rw[b,qJ,C8,kn,vi,ht,Uj,Ui,Lh _ _ hdl];rfl
   have hx:(C8 L.length L)[k]? = some (a.take (t+1)):=by
    have:=congrArg (·[0]?) F;rw[w]at this;simpa using this
   have M:k+1<=(C8 L.length L).length:=(qh.1 hx).1;have Z:(C8 L.length L).drop (k+1)=C8 (a.drop (t+1)).length (a.drop (t+1)):=by
    rw[<-vF,F,w];rfl
   have R:=λhb mb g=>Y.step k _ D2 hb mb hx g;have hge:Wk (a.take (t+1))=[AA y.key,.imm 4 ((a.take (t+1)).map AM.enc) false]:=by unfold Wk;rw[b];rfl
   rw[hge]at R;have Q:(0:Int)<a.length:=by omega
   have l:0<a.length:=by omega
   obtain⟨r,H⟩:∃r:SV,r=.fn (.yield yl) [] []:=⟨_,rfl⟩
   rw[<-H];refine CG 0 [(0,r),(3,.imm 4 (a.map AM.enc) false)] h2 m2 (AJ ?_) (λm' d=>?_);simp[go_sem,IO,u];subst d;refine AY ?_;refine B5 0 [(0,r),(3,.imm 4 (a.map AM.enc) false),(4,AA (1:Nat))] h2 m2 ?_ (λm' d=>?_);simp[go_sem,IO];subst d;refine AX 0 (α:=Unit) (λ_=>[(0,r),(3,.imm 4 (a.map AM.enc) false),(4,AA (t+1:Nat))]) (λ_=>h2) (λ_ m'=>m2=m') (AY ?_) (λ_ m' d=>?_);refine BT 0 (α:=Nat) (λn=>[(0,r),(3,.imm 4 (a.map AM.enc) false),(4,AA n)]) (λ_=>h2) (λn m'=>1<=n/\n<=t+1/\m2=m') (λn=>t+1-n) 1 ⟨qa _,by omega,rfl⟩ ?_ AC ?_;simp[go_sem,Ao,IO];rintro n m' ⟨P,hn2,d⟩;subst d;by_cases hnt:n<t+1;have p:n<a.length:=by omega
   have f:(n:Int)<a.length:=by omega
   obtain⟨z,S⟩:∃z,a[n]=z:=⟨_,rfl⟩
   have s:=(I n p P).1 hnt;rw[S]at s;have w1:=wS n (by omega);refine CG 0 [(0,r),(3,.imm 4 (a.map AM.enc) false),(4,AA n)] h2 m2 ?_ (λm' d=>?_);refine AX 0 (α:=Unit) (λ_=>[(0,r),(3,.imm 4 (a.map AM.enc) false),(4,AA n),(26,.bool true)]) (λ_=>h2) (λ_ m'=>m2=m') (CK Xa rfl (by kernel_rfl) (by kernel_rfl) ?_) (λ_ m' d=>?_);simp[go_sem,Xa,p,f,S,h0,l,AM.enc,s,IO];subst d;refine AJ ?_;simp[go_sem,IO];subst d;refine AJ ?_;simp[go_sem,IO,w1,-Int.natCast_add];exact⟨n+1,by omega,⟨by omega,by omega⟩,rfl⟩;have A:n=t+1:=by omega
   refine Bg 0 [] h2 (λ_=>False) ?_ (λ_ d=>d.elim);refine AX 0 (α:=Unit) (λ_=>[(0,r),(3,.imm 4 (a.map AM.enc) false),(4,AA n),(26,.bool false)]) (λ_=>h2) (λ_ m'=>m2=m') (CK Xa rfl (by kernel_rfl) (by kernel_rfl) ?_) (λ_ m' d=>?_);by_cases p:n<a.length;have f:(n:Int)<a.length:=by omega
   obtain⟨z,S⟩:∃z,a[n]=z:=⟨_,rfl⟩
   have s:=(I n p P).2 A;rw[S]at s;have s:(z.key==y.key)=false:=by simpa using s
   simp[go_sem,Xa,p,f,S,h0,l,AM.enc,s,IO];have f:¬(n:Int)<a.length:=by omega
   simp[go_sem,Xa,f,IO];subst d;refine AJ ?_;simp[go_sem,IO,A];subst d;have N:t+1<=a.length:=by omega
   have x:((t+1:Nat):Int)<=a.length:=by omega
   refine AX 0 (α:=(Nat->Prop)×Hp) (λ_=>[(0,r),(3,.imm 4 (a.map AM.enc) false),(4,AA (t+1:Nat))]) (λq=>q.2) (λq m'=>Ju J D h m [] (k+1) q.1 q.2 m') ?_ (λq m3 U=>?_);refine AX 0 (α:=(Nat->Prop)×Hp) (λ_=>[(0,r),(3,.imm 4 (a.map AM.enc) false),(4,AA (t+1:Nat)),(38,.bool false)]) (λq=>q.2) (λq m'=>Ju J D h m [] (k+1) q.1 q.2 m') (CK dO rfl (by kernel_rfl) (by kernel_rfl) ?_) (λq m3 U=>?_);rw[H];simp[go_sem,dO,l,h0,AM.enc,x,-Int.natCast_add,-List.map_take];have hy:=R _ _ T.j;rw[vp]at hy;refine FV.mono hy ?_;intro v X m3 W;rcases T.step (qa _) (λ_ _=>rfl) W with⟨rfl,V,M4⟩|⟨rfl,hX⟩
   simp[go_sem,IO,-Int.natCast_add];exact⟨V,X,M4,AC⟩;obtain⟨_,_,_,_,⟨g,_⟩|⟨_,g⟩⟩:=hX;cases g;exact g.elim;refine AJ ?_;simp[go_sem,IO,-Int.natCast_add];exact⟨q.1,q.2,U,AC⟩;obtain⟨V,X⟩:=q;dsimp only at U ⊢;refine AJ ?_;simp[go_sem,x,IO,-Int.natCast_add,-List.map_drop];have eL:L.drop (i+(t+1))=a.drop (t+1):=by rw[<-vF,<-C]
   have eN:L.length-(i+(t+1))=(a.drop (t+1)).length:=by rw[vf,O];omega
   have eM:List.drop (t+1) (List.take a.length (a.map AM.enc))=(a.drop (t+1)).map AM.enc:=by rw[qv (by simp),List.map_drop]
   refine⟨i+(t+1),by omega,k+1,V,X,⟨by omega,M,by rw[eL,eN];exact Z,U⟩,?_,AC⟩;rw[eL,eM];exact IO
end
theorem Vv {α:Type} (l:List α) (p:α->Bool):Jo (λi=>match l[i]? with|some x=>p x|none=>false) l.length=l.any p:=by
 unfold Jo;rcases Ei (λi=>match l[i]? with|some x=>p x|none=>false) l.length 0 with e|⟨i,_,h2,b,a⟩
 rw[e];symm;rw[show decide ((0:Int) ≤ -1)=false from rfl,List.any_eq_false];intro x c;obtain⟨i,hi,rfl⟩:=kY c;have:=HT e i (qg _) hi;rw[qe hi]at this;dsimp only at this;rw[this];simp;rw[b,decide_eq_true (by omega)];symm;rw[qe h2]at a;exact vo.2 ⟨_,qi h2,a⟩
abbrev Pg (p:Int×Bool):SV:=.agg [AA p.1,.bool p.2]
def EW (acc:Int->Bool):List AM->Nat
 | []=>0
 | y::l=>if l.any (λz=>acc z.rev)then EW acc l+1 else if acc y.rev then 1 else 0
theorem RV (acc:Int->Bool):∀l:List AM,EW acc l<=l.length
 | []=>qa _
 | y::l=>by
  have:=RV acc l;rw[EW,qJ];split;omega;split<;>omega
theorem IK (acc:Int->Bool):∀l:List AM,Fe acc l=l.drop (EW acc l)
 | []=>rfl
 | y::l=>by
  rw[Fe,EW];split;rw[vi];exact IK acc l;split;rfl;rfl
theorem Ny (acc:Int->Bool) (x:AM):∀l:List AM,EW acc (l++[x])=if acc x.rev then l.length+1 else EW acc l
 | []=>by
  rw[qE,EW,EW,if_neg (by simp)];rfl
 | y::l=>by
  rw[qx,EW,EW,Ny acc x l,List.any_append];by_cases c:acc x.rev=true;simp[c];have a:acc x.rev=false:=by simpa using c
  simp[a]
def Mi (g:List AM) (p:Int×Bool):List (Int×Bool):=g.map (λy=>(y.before,y.had))++[p]
theorem XV (g:List AM) (p:Int×Bool) (j:Nat) (h:j<=g.length):(Mi g p)[j]? = some (KZ p (g.drop j)):=by
 unfold Mi;by_cases c:j<g.length;rw[qZ (by rw[qf];exact c),qX,qe c,qQ c];rfl;have:j=g.length:=by omega
 subst this;rw[qT (by rw[qf];exact qa _),qf,vU,List.drop_length];rfl
theorem SB (g:List AM) (p:Int×Bool):(Mi g p).length=g.length+1:=by unfold Mi;rw[qq,qf];rfl
structure Tt (rej:Int->Bool) (p:Int×Bool) (g:List AM) (L0:List AM) (R:List AM×(Int×Bool)) (k:Nat) (L:List AM) (now:Int×Bool):Prop where
 lay:L++(GZ rej p (g.drop k) now).1=L0++R.1
 st:(GZ rej p (g.drop k) now).2=R.2
theorem Tt.start (acc rej:Int->Bool) (p:Int×Bool) (g a:List AM):Tt rej p g a (Du acc rej p g) (EW acc g) a (KZ p (g.drop (EW acc g))):=by
 refine⟨?_,?_⟩<;>rw[Du,IK]
theorem Tt.skip {rej:Int->Bool} {p:Int×Bool} {g c:List AM} {R:List AM×(Int×Bool)} {k:Nat} {L:List AM} {now:Int×Bool} (D:Tt rej p g c R k L now) (d:k<g.length) (h:rej g[k].rev=true):Tt rej p g c R (k+1) L now:=by
 obtain⟨a,b⟩:=D;rw[qQ d,GZ,if_pos h]at a b;exact⟨a,b⟩
theorem Tt.take {rej:Int->Bool} {p:Int×Bool} {g c:List AM} {R:List AM×(Int×Bool)} {k:Nat} {L:List AM} {now:Int×Bool} (D:Tt rej p g c R k L now) (d:k<g.length) (h:rej g[k].rev=false):
 Tt rej p g c R (k+1) (L++[⟨g[k].rev,g[k].key,now.1,now.2⟩]) (KZ p (g.drop (k+1))):=by
 obtain⟨a,b⟩:=D;rw[qQ d,GZ,if_neg (by rw[h];decide)]at a b;exact⟨by rw[qj];exact a,b⟩
theorem Tt.done {rej:Int->Bool} {p:Int×Bool} {g c:List AM} {R:List AM×(Int×Bool)} {L:List AM} {now:Int×Bool} (D:Tt rej p g c R g.length L now):L=c++R.1/\now=R.2:=by
 obtain⟨a,b⟩:=D;rw[List.drop_length,GZ]at a b;exact⟨by simpa using a,b⟩
theorem KJ:∀(f:Nat) (l:List AM),(C8 f l).length<=l.length
 | 0,_=>by simp[C8]
 | _+1,[]=>by simp[C8]
 | f+1,y::l=>by
  have h1:(l.dropWhile λz=>decide (z.key=y.key)).length<=l.length:=(List.dropWhile_sublist _).length_le;have:=KJ f (l.dropWhile λz=>decide (z.key=y.key));rw[C8,qJ,qJ];omega
theorem Lg:∀(f:Nat) (l:List AM),(C8 f l).flatten.length<=l.length
 | 0,_=>by simp[C8]
 | _+1,[]=>by simp[C8]
 | f+1,y::l=>by
  have h0:=List.takeWhile_append_dropWhile (p:=λz:AM=>decide (z.key=y.key)) (l:=l);have h1:(l.takeWhile λz=>decide (z.key=y.key)).length+(l.dropWhile λz=>decide (z.key=y.key)).length=l.length:=by rw[<-qq,h0]
  have:=Lg f (l.dropWhile λz=>decide (z.key=y.key));rw[C8,List.flatten_cons,qq,qJ,qJ];omega
theorem La {rej:Int->Bool} {p:Int×Bool}:∀{l:List AM} {now:Int×Bool},(GZ rej p l now).1.length<=l.length
 | [],_=>qa _
 | y::l,now=>by
  rw[GZ];split;have:=La (rej:=rej) (p:=p) (l:=l) (now:=now);rw[qJ];omega;have:=La (rej:=rej) (p:=p) (l:=l) (now:=KZ p l);simp only[qJ];omega
theorem Sv {acc rej:Int->Bool} {p:Int×Bool} {l:List AM}:(Du acc rej p l).1.length<=l.length:=by
 rw[Du,IK];have:=La (rej:=rej) (p:=p) (l:=l.drop (EW acc l)) (now:=KZ p (l.drop (EW acc l)));rw[vf]at this;omega
theorem TS (l:List Bi) (k:Int) (s:Int×Bool):(Hf l k s).length<=l.length+1:=by
 unfold Hf;split;unfold PX;split;rw[List.length_set];omega;rw[RQ _ _ _ (XB l k)];exact qa _;unfold Jc;split;have:=List.length_eraseIdx_le l (QH l k).1;omega;omega
theorem Ih {acc rej:Int->Bool} {ps:List Bi}:∀(G:List (List AM)) (o:List Bi×List AM),(G.foldl (CM acc rej ps) o).1.length<=o.1.length+G.length/\(G.foldl (CM acc rej ps) o).2.length<=o.2.length+G.flatten.length
 | [],_=>by simp
 | g :: G, o => by
  obtain⟨h1,h2⟩:=Ih (acc:=acc) (rej:=rej) (ps:=ps) G (CM acc rej ps o g);have e1:(CM acc rej ps o g).1.length<=o.1.length+1:=TS _ _ _;have e2:(CM acc rej ps o g).2.length<=o.2.length+g.length:=by
   show(o.2++(Du acc rej _ g).1).length<=_;have:=Sv (acc:=acc) (rej:=rej) (p:=Ix ps (g.headD ⟨0,0,0,false⟩).key) (l:=g);rw[qq];omega
  rw[jy,qJ,List.flatten_cons,qq];omega
structure Jp (h:AF):Prop where
 props:h.props.length+h.layers.length<=1048576
 dels:h.dels.length<=1048576
theorem fq (x:AF):PC 230 [x.enc] (.fn (.func 276) [] [.iptr x.flat]):=by
 intro h n;refine gq Tryz.func230 rfl λa=>?_;simp[go_sem,AF.enc,AF.flat];refine Dj 3 a (AR a (qa _) AC) ?_ (by simp[closed,closedL,Bi.E.closedL,Bs.E.closedL,AM.E.closedL]);exact .inr ⟨rfl,trivial,AZ (a.none (qa n)) (by simp[hset]),trivial⟩
theorem Uq {h H:Hp} {p:Nat} {es:List SV} {e:SV} {o:Option Nat} {v:SV} (hn:∀j,o=some j->h j=none) (c:∀j y,h j=some y->H j=some y):
 ∀j y,AV (some p) (es++[e]) h j=some y->(C5.app H p { val:=v,upd:=o.map λj=>(j,none),new:=some (.cells (es.flatMap SV.cells++e.cells)) }) j=some y:=by
 intro j y a;simp only[AV]at a;by_cases b:j=p;subst b;rw[AD]at a;simp only[C5.app,AD];rw[<-a];simp;rw[AE _ _ b]at a;have:=c j y a;cases o with
 | none=>simp[C5.app,AE _ _ b,this]
 | some k=>
  have d:j≠k:=λe=>by rw[e,hn k rfl]at a;cases a
  simp[C5.app,AE _ _ b,AE _ _ d,this]
theorem Qt {h H:Hp} {p q:Nat} {es:List SV} {new old:Option Bb} (a:p≠q) (hl:∀j y,AV (some q) es (hset h p old) j=some y->H j=some y):∀j y,AV (some q) es (hset h p new) j=some y->hset H p new j=some y:=λj y e=>by
 by_cases c:j=p;subst c;simp only[AV]at e;rw[AE _ _ a,AD]at e;rw[AD];exact e;rw[AE _ _ c];refine hl j y ?_;simp only[AV,hset]at e ⊢;by_cases d:j=q;rw[if_pos d]at e ⊢;exact e;rw[if_neg d,if_neg c]at e ⊢;exact e
theorem Q0 (n:Nat) (h:AF) (b:Bool):closed n (.tup [h.enc,.bool b])=true:=by simp[closed,closedL,AF.enc,AF.flat,Bi.E.closedL,Bs.E.closedL,AM.E.closedL]
structure Nw where
 p:Int×Bool
theorem TZ {E:CC} {N n:Nat} {R:LoopState->Option Code->Loop} {assign body:Code} {g:SV->Hp->Nat->Prop} {sa:SA} {h:Hp} {m:Nat} (fr:SA)
 (i:LP E Tryz.prog N assign (λe f h1 m1=>e=.normal/\h1=h/\m1=m/\∀p∈fr,Ao f p.1=p.2) sa h m) (hl:h n=some (.loop (R .ready none)))
 (j:Ic E Tryz.prog N body (Hg n R g) fr (hset h n (some (.loop (R .busy none)))) m):QL Tryz.prog E N n R assign body g sa h m:=
 GC (AJ i) λ_ _ _ _ ⟨a,b,c,d⟩=>by subst a;subst b;subst c;exact⟨rfl,hl,NG j d⟩
set_option maxHeartbeats 16000000 in
theorem Zp {g:FuncId} {a b:List SV} {acc rej:Int->Bool} (hv:VC g a b acc rej) (hd:AF) (hok:Jp hd):PC 162 [hd.enc,.fn (.func g) a b] (.tup [((CE acc rej hd).getD DN).enc,.bool (CE acc rej hd).isSome]):=by
 intro h n;refine cm Tryz.func162 rfl (by kernel_rfl) (by kernel_rfl) (by simp[go_sem]) λho B=>?_;have hHb:=ho.lt;obtain⟨hok1,hok2⟩:=hok;obtain⟨T3,hT3⟩:∃T3:SV,T3=.iptr [.fn (.func g) a b]:=⟨_,rfl⟩
 have k225:∀x,PC 225 [AA x,T3] (.bool (acc x)):=λx=>by rw[hT3];exact bi hv x
 have k226:∀x,PC 226 [AA x,T3] (.bool (rej x)):=λx=>by rw[hT3];exact fk hv x
 have k227:PC 227 [Ax hd.dels,.fn (.func 228) [] [.iptr [.fn (.func 225) [] [T3]]]] (.bool (hd.dels.any λx=>acc x.rev)):=by
  rw[<-Vv hd.dels λx=>acc x.rev,hT3];exact fo hd.dels hok2 228 [] [.iptr [.fn (.func 225) [] [.iptr [.fn (.func g) a b]]]] _ λi hi=>by rw[qe hi];exact fp hv _
 obtain⟨T6,hT6⟩:∃T6:SV,T6=.iptr [.fn (.func 225) [] [T3]]:=⟨_,rfl⟩
 obtain⟨T7,hT7⟩:∃T7:SV,T7=.iptr [.fn (.func 226) [] [T3]]:=⟨_,rfl⟩
 obtain⟨T2,hT2⟩:∃T2:SV,T2=.iptr hd.flat:=⟨_,rfl⟩
 obtain⟨T8,hT8⟩:∃T8:SV,T8=.iptr [AA hd.ins,AA hd.move,Ax hd.dels,Ai hd.layers]:=⟨_,rfl⟩
 obtain⟨zc,hzc⟩:∃zc:List SV,zc=[.imm 0 [] true,AA 0,AA 0,.imm 0 [] true,.imm 0 [] true]:=⟨_,rfl⟩
 refine B8 1 (α:=Nat) (λr=>[(2,T2),(3,T3),(4,.ptr r 0)]) (λr=>hset h r (some (.cells zc))) (λr m=>n<=r/\r<m) ?_ (λr m hm=>?_);rw[hT2,hT3,hzc];simp[go_sem,AF.enc,AF.flat,qu];refine⟨n+2,by omega,⟨AZ (by simp only[hset];rw[if_neg (by omega)];exact AS hHb (qa _)) (by simp[hset]),AZ (by simp only[hset];rw[if_neg (by omega)];exact AS hHb (by omega)) (by simp[hset]),IO⟩,λj y=>?_⟩;have:=hHb j y;simp only[hset];grind;obtain⟨G,hG⟩:∃G:Hp,G=hset h r (some (.cells zc)):=⟨_,rfl⟩
 rw[<-hG];have hGb:∀j y,G j=some y->j<r+1:=λj y e=>by
  rw[hG]at e;simp only[hset]at e;split at e;omega;have:=hHb j y e;omega
 have hGr:G r=some (.cells zc):=by rw[hG,AD]
 have hGk:∀j y,h j=some y->G j=some y:=λj y e=>by have:=hHb j y e;rw[hG,AE _ _ (by omega)];exact e
 refine By 1 [(2,T2),(3,T3),(4,.ptr r 0),(6,T6)] G (λm=>r<m) ?_ (λm hm=>?_);rw[hT6];simp[go_sem,IO,AD,Ah];exact⟨by omega,AZ (AS hGb (by omega)) (AD _ _ _),AL (λj z e=>by have:=hGb j z e;omega) AC⟩;refine By 1 [(2,T2),(4,.ptr r 0),(6,T6),(7,T7)] G (λm=>r<m) ?_ (λm hm=>?_);rw[hT7];simp[go_sem,IO,AD,Ah];exact⟨by omega,AZ (AS hGb (by omega)) (AD _ _ _),AL (λj z e=>by have:=hGb j z e;omega) AC⟩;refine By 1 [(2,T2),(4,.ptr r 0),(6,T6),(7,T7),(8,T8)] G (λm=>r<m) ?_ (λm hm=>?_);rw[hT2,hT8];simp[go_sem,IO,AF.flat,AD,Ah];exact⟨by omega,AZ (AS hGb (by omega)) (AD _ _ _),AL (λj z e=>by have:=hGb j z e;omega) AC⟩;obtain⟨B0,hB0⟩:∃B0,B0=((decide (hd.ins≠0)&&rej hd.ins)||hd.dels.any (λx=>acc x.rev)):=⟨_,rfl⟩
 refine Bg 0 [(2,T2),(4,.ptr r 0),(6,T6),(7,T7),(8,T8)] G (λm=>r<m/\B0=false) ?_ (λm hm=>?_);refine By 0 [(2,T2),(4,.ptr r 0),(6,T6),(7,T7),(8,T8),(40,.bool B0)] G (λm=>r<m) ?_ (λm hm=>?_);rw[hT6,hT7,hT8];obtain⟨bd,hbd⟩:∃bd,bd=hd.dels.any (λx=>acc x.rev):=⟨_,rfl⟩
 rw[<-hbd]at k227 hB0;by_cases z:hd.ins=0;have e:B0=bd:=by rw[hB0,z];simp
 simp[go_sem,z];refine k227.use ?_;simp[go_sem,IO,hm,e];have z':(hd.ins !=0)=true:=by simpa using z
 simp[go_sem,z'];refine(k226 hd.ins).use ?_;cases hr:rej hd.ins with
 | true=>
  have e:B0=true:=by rw[hB0,hr];simp[z]
  simp[go_sem,IO,hm,e]
 | false=>
  have e:B0=bd:=by rw[hB0,hr];simp
  simp[go_sem];refine k227.use ?_;simp[go_sem,IO,hm,e]
 refine AJ ?_;cases hb:B0 with
 | true=>
  have hdec:CE acc rej hd=none:=by unfold CE;rw[<-hB0,hb];rfl
  rw[hdec];simp[go_sem,hGr,hzc,AD];exact Dj 3 ho (AL (λj z e=>by have:=hHb j z e;omega) hGk) (.inr ⟨.inr ⟨Bj (by simp),IO,IO,Bj (by simp),Bj (by simp),trivial⟩,IO,trivial⟩) (by simp[closed,closedL,AF.enc,AF.flat,DN])
 | false=>simp[go_sem,IO,hm]
 obtain⟨hm,hB⟩:=hm;have hdec:CE acc rej hd=some { hd with props:=((C8 hd.layers.length hd.layers).foldl (CM acc rej hd.props) (hd.props,[])).1,ins:=if(decide (hd.ins≠0)&&acc hd.ins)=true then 0 else hd.ins,move:=if(decide (hd.ins≠0)&&acc hd.ins)=true then 0 else hd.move,dels:=hd.dels.filter (λx=>!rej x.rev),layers:=((C8 hd.layers.length hd.layers).foldl (CM acc rej hd.props) (hd.props,[])).2 }:=by
  unfold CE;rw[<-hB0,hB];rfl
 rw[hdec];clear hdec hB0 hB k227;obtain⟨b1,Me⟩:∃b1,b1=(decide (hd.ins≠0)&&acc hd.ins):=⟨_,rfl⟩
 rw[<-Me];obtain⟨i0,hi0⟩:∃i0,i0=if b1=true then 0 else hd.ins:=⟨_,rfl⟩
 obtain⟨v0,hv0⟩:∃v0,v0=if b1=true then 0 else hd.move:=⟨_,rfl⟩
 rw[<-hi0,<-hv0];refine B8 0 (α:=Nat) (λp=>[(2,T2),(4,.ptr r 0),(6,T6),(7,T7),(8,T8),(9,.ptr p 0)]) (λp=>hset G p (some (.cells [AU hd.props,AA hd.ins,AA hd.move,.imm 0 [] true,.imm 0 [] true]))) (λp m=>r<p/\p<m) ?_ (λp m hm=>?_)
 . rw[hT2,hT8];simp[go_sem,AF.flat]
   repeat first|refine nq ?_|refine sq ?_
   refine kc _ _ _ _ _ _ (bn hd.props (by omega)) ?_;simp[go_sem,IO,AD,Ah]
   repeat first|refine nq ?_|refine sq ?_
   exact⟨m,by omega,IO,AC⟩
 obtain⟨hrp,hpm⟩:=hm;have hrp':r≠p:=by omega
 refine Bg 0 [(2,T2),(4,.ptr r 0),(6,T6),(7,T7),(8,T8),(9,.ptr p 0)] (hset G p (some (.cells [AU hd.props,AA i0,AA v0,.imm 0 [] true,.imm 0 [] true]))) (λm=>p<m) ?_ (λm hm=>?_);refine By 0 [(2,T2),(4,.ptr r 0),(6,T6),(7,T7),(8,T8),(9,.ptr p 0),(59,.bool b1)] (hset G p (some (.cells [AU hd.props,AA hd.ins,AA hd.move,.imm 0 [] true,.imm 0 [] true]))) (λm=>p<m) ?_ (λm hm=>?_);rw[hT6,hT8];by_cases z:hd.ins=0;have e:b1=false:=by rw[Me,z];simp
 simp[go_sem,z,e,IO,hpm];have z':(hd.ins !=0)=true:=by simpa using z
 have e:b1=acc hd.ins:=by rw[Me];simp[z]
 simp[go_sem,z'];refine(k225 hd.ins).use ?_;simp[go_sem,e,IO,hpm];refine AJ ?_;rw[hi0,hv0];cases b1 with
 | true=>simp[go_sem,AD,Ah,IO,hm]
 | false=>simp[go_sem,IO,hm]
 obtain⟨Dk,hDk⟩:∃Dk:Nat->List SV,∀i,Dk i=((hd.dels.take i).filter λx=>!rej x.rev).map Bs.enc:=⟨_,λ_=>rfl⟩
 have hD0:Dk 0=[]:=by rw[hDk];rfl
 have hDs:∀i x,(hi:i<hd.dels.length)->hd.dels[i]=x->Dk (i+1)=Dk i++if rej x.rev then[]else[x.enc]:=λi x hi e=>by
  rw[hDk,hDk,qb hi,e,ku,qc];by_cases c:rej x.rev=true<;>simp[c]
 have hDl:Dk hd.dels.length=(hd.dels.filter λx=>!rej x.rev).map Bs.enc:=by rw[hDk,qm]
 have hDn:∀i,(Dk i).length<=i:=λi=>by
  rw[hDk,qf];exact qI (kr _ _) (vz i _)
 clear hDk;obtain⟨X,hX⟩:∃X:Option Nat->List SV->Hp,∀o D,X o D=hset G p (some (.cells [AU hd.props,AA i0,AA v0,AW 2 o D,.imm 0 [] true])):=⟨_,λ_ _=>rfl⟩
 have hXp:∀o D,X o D p=some (.cells [AU hd.props,AA i0,AA v0,AW 2 o D,.imm 0 [] true]):=λo D=>by rw[hX,AD]
 have hXb:∀o D j y,X o D j=some y->j<m:=λo D j y e=>by
  rw[hX]at e;simp only[hset]at e;split at e;omega;have:=hGb j y e;omega
 have hXs:∀o D o' D',hset (X o D) p (some (.cells [AU hd.props,AA i0,AA v0,AW 2 o' D',.imm 0 [] true]))=X o' D':=λo D o' D'=>by rw[hX,hX,Ah]
 refine AX 0 (α:=Option Nat) (λo=>[(2,T2),(4,.ptr r 0),(6,T6),(7,T7),(9,.ptr p 0)]) (λo=>AV o (Dk hd.dels.length) (X o (Dk hd.dels.length))) (λo m'=>m<=m'/\BR m m' 2 o (Dk hd.dels.length)) ?_ (λoD m2 hm2=>?_)
 . refine B5 0 [(2,T2),(4,.ptr r 0),(6,T6),(7,T7),(9,.ptr p 0),(65,Ax hd.dels),(66,AA hd.dels.length),(67,AA 0)] (X none []) m ?_ (λm' hm'=>?_);rw[hT8,hX];simp[go_sem,IO,AW];subst hm';refine AY (BT 0 (α:=Nat×Option Nat) (λq=>[(2,T2),(4,.ptr r 0),(6,T6),(7,T7),(9,.ptr p 0),(65,Ax hd.dels),(66,AA hd.dels.length),(67,AA q.1)]) (λq=>AV q.2 (Dk q.1) (X q.2 (Dk q.1))) (λq m'=>q.1<=hd.dels.length/\m<=m'/\BR m m' 2 q.2 (Dk q.1)) (λq=>hd.dels.length-q.1) (0,none) ⟨qg _,qa _,by simp only[hD0];exact vA _ _ _⟩ ?_ ?_ ?_);simp[go_sem,Ao,IO];simp only[hD0];exact AC;rintro⟨i,o⟩ m2 ⟨hi,hm2,hA⟩;dsimp only at hi hA ⊢;by_cases hlt:i<hd.dels.length
   . obtain⟨x,hx⟩:∃x,hd.dels[i]=x:=⟨_,rfl⟩
     have hst:=hDs i x hlt hx;have hEn:=hDn i;have w1:=wS i (by omega);generalize hE:Dk i=E at hA hst hEn ⊢;have hYb:∀j y,AV o E (X o E) j=some y->j<m2:=G0 (hXb o E) hm2 hA;refine B5 0 [(2,T2),(4,.ptr r 0),(6,T6),(7,T7),(9,.ptr p 0),(65,Ax hd.dels),(66,AA hd.dels.length),(67,AA i),(68,.bool true)] (AV o E (X o E)) m2 ?_ (λm' hm'=>?_);simp[go_sem,IO,hlt];subst hm';refine B5 0 [(2,T2),(4,.ptr r 0),(6,T6),(7,T7),(9,.ptr p 0),(65,Ax hd.dels),(66,AA hd.dels.length),(67,AA i)] (AV o E (X o E)) m2 ?_ (λm' hm'=>?_);simp[go_sem,IO];subst hm';refine AX 0 (α:=Option Nat) (λo=>[(2,T2),(4,.ptr r 0),(6,T6),(7,T7),(9,.ptr p 0),(65,Ax hd.dels),(66,AA hd.dels.length),(67,AA i)]) (λo=>AV o (Dk (i+1)) (X o (Dk (i+1)))) (λo m'=>m<=m'/\BR m m' 2 o (Dk (i+1))) (AY ?_) (λo m' hm'=>?_)
     . rw[hst];refine Aa 1 [(2,T2),(4,.ptr r 0),(6,T6),(7,T7),(9,.ptr p 0),(65,Ax hd.dels),(66,AA hd.dels.length),(67,AA i),(11,.iptr [AA x.rev,AA x.move])] (AV o E (X o E)) m2 ?_ (λm3 hm3=>?_);simp[go_sem,IO,hlt,hx,Bs.enc,AD];exact⟨AZ (AS hYb (qa _)) (AD _ _ _),AL hYb (AL hYb AC)⟩;refine Aa 0 [(2,T2),(4,.ptr r 0),(6,T6),(7,T7),(9,.ptr p 0),(65,Ax hd.dels),(66,AA hd.dels.length),(67,AA i),(11,.iptr [AA x.rev,AA x.move]),(75,.bool (!rej x.rev))] (AV o E (X o E)) m2 ?_ (λm4 hm4=>?_);rw[hT7];simp[go_sem];refine(k226 x.rev).use ?_;simp[go_sem,IO,hm3];have hop:o≠some p:=λe=>by have:=(hA.lt p e).1;omega
       have hap:AV o E (X o E) p=some (.cells [AU hd.props,AA i0,AA v0,AW 2 o E,.imm 0 [] true]):=by
        cases o with
        | none=>exact hXp _ _
        | some k=>simp only[AV];rw[AE _ _ (λe=>hop (by rw[e]))];exact hXp _ _
       cases hr:rej x.rev with
       | true=>
        refine AJ ?_;simp[go_sem,IO];exact⟨o,⟨by omega,hA.mono (by omega)⟩,AC⟩
       | false =>
        simp only[qn,if_false];refine AJ ?_;simp[go_sem,hap,IO];have hpush:=hA.push (j:=m4+1) (m':=m4+1+1) (e:=x.enc) (Bs.E.st _) (Bs.E.len _) (by omega) (by omega);rw[Fa (es:=E) (e:=x.enc) (o:=o) (t:=24) (t2:=24) (el:=166) (z:=2) (by simp[go_sem]) (by simp[go_sem]) (by simp[go_sem]) (by simp) (by simp[go_sem]) (by simp[go_sem]) (by simp[go_sem]) (by omega) hA (Bs.E.len _) ?a1 ?a2]
        case a1=>simp[AD,Bs.enc,SV.cells]
        case a2=>
         intro j e;have:=(hA.lt j e).2;rw[AE _ _ (by omega)];exact FX j e
        have hlive:=D7 (p:=m4+1) (v:=.sl (m4+1) 0 2 (E.length+1) false) (e:=x.enc) (hXb o E) (by omega) hA (H:=hset (AV o E (X o E)) m4 (some (.cells [AA x.rev,AA x.move]))) (AL (λj z e=>by have:=hXb o E j z e;omega) (Eb (hXb o E) hA));have hvv:AW 2 (some (m4+1)) (E++[x.enc])=.sl (m4+1) 0 2 (E.length+1) false:=by simp[AW]
        have hl2:∀j y,AV (some (m4+1)) (E++[x.enc]) (X (some (m4+1)) (E++[x.enc])) j=some y->hset (C5.app (hset (AV o E (X o E)) m4 (some (.cells [AA x.rev,AA x.move]))) (m4+1) { val:=.sl (m4+1) 0 2 (E.length+1) false,upd:=o.map λj=>(j,none),new:=some (.cells (E.flatMap SV.cells++x.enc.cells)) }) p (some (.cells [AU hd.props,AA i0,AA v0,.sl (m4+1) 0 2 (E.length+1) false,.imm 0 [] true])) j=some y:=by
         have e1:=hX (some (m4+1)) (E++[x.enc]);have e0:=hX o E;rw[e1,hvv];refine Qt (old:=some (.cells [AU hd.props,AA i0,AA v0,AW 2 o E,.imm 0 [] true])) (by omega) ?_;rw[<-e0];exact hlive
        have n1:p≠m4:=by omega
        have n2:p≠m4+1:=by omega
        cases o with
        | none=>
         have hap2:X none E p=some (.cells [AU hd.props,AA i0,AA v0,AW 2 none E,.imm 0 [] true]):=hXp _ _;simp[go_sem,AE,n1,n2,AV,hap2];exact⟨some (m4+1),⟨by omega,hpush⟩,by simpa[C5.app,SV.cells,AV,Bs.enc]using hl2⟩
        | some i=>
         have n3:p≠i:=λe=>hop (by rw[e]);have hap2:X (some i) E p=some (.cells [AU hd.props,AA i0,AA v0,AW 2 (some i) E,.imm 0 [] true]):=hXp _ _;simp[go_sem,AE,n1,n2,n3,AV,hap2];exact⟨some (m4+1),⟨by omega,hpush⟩,by simpa[C5.app,SV.cells,AV,Bs.enc]using hl2⟩
     refine AJ ?_;simp[go_sem,w1,IO,-Int.natCast_add];exact⟨i+1,by omega,o,⟨by omega,hm'.1,hm'.2⟩,rfl,AC⟩
   have:i=hd.dels.length:=by omega
   subst this;refine AJ ?_;simp[go_sem,IO];exact⟨o,⟨hm2,hA⟩,AC⟩
 obtain⟨hm2,hAD⟩:=hm2;generalize Dk hd.dels.length=D at hAD hDl ⊢;clear hD0 hDs hDn;obtain⟨Gs,hGs⟩:∃Gs,Gs=C8 hd.layers.length hd.layers:=⟨_,rfl⟩
 rw[<-hGs];obtain⟨O,hO⟩:∃O:Nat->List Bi×List AM,∀k,O k=(Gs.take k).foldl (CM acc rej hd.props) (hd.props,[]):=⟨_,λ_=>rfl⟩
 have hO0:O 0=(hd.props,[]):=by rw[hO];rfl
 have hOs:∀k gg,Gs[k]? = some gg->O (k+1)=CM acc rej hd.props (O k) gg:=λk gg e=>by
  obtain⟨hk,e⟩:=qh.1 e;rw[hO,hO,qb hk,jw,e];rfl
 have hOl:O Gs.length=Gs.foldl (CM acc rej hd.props) (hd.props,[]):=by rw[hO,qm]
 have hcnt:Gs.length<=hd.layers.length:=by rw[hGs];exact KJ _ _
 have hflat:Gs.flatten.length<=hd.layers.length:=by rw[hGs];exact Lg _ _
 have hOn:∀k gg,Gs[k]? = some gg->(O k).1.length<=1048576/\(O k).2.length+gg.length<=1048576:=λk gg e=>by
  obtain⟨hk,e⟩:=qh.1 e;obtain⟨f1,f2⟩:=Ih (acc:=acc) (rej:=rej) (ps:=hd.props) (Gs.take k) (hd.props,[]);rw[<-hO]at f1 f2;have e2:Gs.flatten.length=(Gs.take k).flatten.length+(gg.length+(Gs.drop (k+1)).flatten.length):=by
   conv=>lhs;rw[<-qM k Gs,qQ hk,e,List.flatten_append,qq,List.flatten_cons,qq]
  have:=vz k Gs;rw[vD]at f1;simp only[vI]at f2;dsimp only at f1;omega
 rw[<-hOl];clear hO;obtain⟨W,hW⟩:∃W:List Bi->Option Nat->List AM->List SV,∀ps o L,W ps o L=[AU ps,AA i0,AA v0,AW 2 oD D,AW 4 o (L.map AM.enc)]:=⟨_,λ_ _ _=>rfl⟩
 obtain⟨Hq,hHq⟩:∃Hq:Hp,Hq=AV oD D (X oD D):=⟨_,rfl⟩
 have hHqb:∀j y,Hq j=some y->j<m2:=by rw[hHq];exact G0 (hXb oD D) hm2 hAD
 have hDp:∀j,oD=some j->m<=j/\j<m2:=λj e=>hAD.lt j e;have hHqp:Hq p=some (.cells (W hd.props none [])):=by
  rw[hHq,hW];cases oD with
  | none=>exact hXp _ _
  | some k=>have:=hDp k rfl;simp only[AV];rw[AE _ _ (by omega)];exact hXp _ _
 have hHqr:Hq r=some (.cells zc):=by
  have:X oD D r=some (.cells zc):=by rw[hX,AE _ _ hrp'];exact hGr
  rw[hHq];cases oD with
  | none=>exact this
  | some k=>have:=hDp k rfl;simp only[AV];rw[AE _ _ (by omega)];assumption
 have hHqk:∀j y,AV oD D h j=some y->Hq j=some y:=λj y e=>by
  rw[hHq];have hx:∀j y,h j=some y->X oD D j=some y:=λj y e=>by have:=hHb j y e;rw[hX,AE _ _ (by omega)];exact hGk j y e
  cases oD with
  | none=>exact hx j y e
  | some k=>
   simp only[AV,hset]at e ⊢;split at e;rename_i c;rw[if_pos c];exact e;rename_i c;rw[if_neg c];exact hx j y e
 rw[<-hHq];obtain⟨Z,hZ⟩:∃Z:Option Nat->List Bi->List AM->Hp,∀o ps L,Z o ps L=AV o (L.map AM.enc) (hset Hq p (some (.cells (W ps o L)))):=⟨_,λ_ _ _=>rfl⟩
 refine AX 0 (α:=Option Nat) (λo=>[(4,.ptr r 0),(9,.ptr p 0)]) (λo=>Z o (O Gs.length).1 (O Gs.length).2) (λo m'=>m2<=m'/\BR m2 m' 4 o ((O Gs.length).2.map AM.enc)) ?_ (λo m3 hm3=>?_)
 . refine Aa 0 [(2,T2),(4,.ptr r 0),(6,T6),(7,T7),(9,.ptr p 0),(86,.fn (.func 276) [] [T2])] Hq m2 ?_ (λm3 hm3=>?_);rw[hT2];simp[go_sem,AF.flat];refine qz (by simpa[AF.enc,AF.flat]using fq hd) ?_;simp[go_sem,IO];refine AY ?_;refine Et rfl rfl rfl λE1 yl R hY=>?_;let J:Nat->(Nat->Prop)->Hp->Nat->Prop:=λk Dm hh mm=>∃o,Dm=(λj=>j=p\/j=m3\/o=some j)/\m3<mm/\hh p=some (.cells (W (O k).1 o (O k).2))/\hh m3=some (.loop (R .ready none))/\BR (m3+1) mm 4 o ((O k).2.map AM.enc)/\∀j,o=some j->hh j=some (.cells (((O k).2.map AM.enc).flatMap SV.cells));have Y:YJ E1 yl Wk Gs J (λ_ _ _=>False):=by
    refine⟨λk gg Dm hh mm hx hJ=>?_,?_,?_⟩
    . obtain⟨o,rfl,g0,g1,g2,g3,g4⟩:=hJ;have hst:=hOs k gg hx;obtain⟨hn1,hn2⟩:=hOn k gg hx;obtain⟨key,hkey⟩:∃key,key=(gg.headD ⟨0,0,0,false⟩).key:=⟨_,rfl⟩
      obtain⟨p0,hp0⟩:∃p0,p0=Ix hd.props key:=⟨_,rfl⟩
      have hst2:O (k+1)=(Hf (O k).1 key (Du acc rej p0 gg).2,(O k).2++(Du acc rej p0 gg).1):=by rw[hst,CM,<-hkey,<-hp0]
      clear hst;generalize hps:(O k).1=ps at g1 hn1 hst2;generalize hL0:(O k).2=L0 at g1 g3 g4 hn2 hst2;have hgE:Wk gg=[AA key,.imm 4 (gg.map AM.enc) false]:=by rw[hkey];rfl
      rw[hgE];refine hY _ _ _ _ g2 rfl (TZ [(2,T2),(6,T6),(7,T7),(9,.ptr p 0),(12,AA key),(13,.imm 4 (gg.map AM.enc) false)] ?_ g2 ?_);simp[go_sem,J0];have hmz:m3<mm:=g0;obtain⟨Bq,hBq⟩:∃Bq:Hp,Bq=λj=>if j=m3 then some (.loop (R .busy none))else if j<mm/\j≠p/\o≠some j then hh j else none:=⟨_,rfl⟩
      have hp3:p<m3:=by omega
      have hBqb:∀j y,Bq j=some y->j<mm:=λj y e=>by
       rw[hBq]at e;dsimp only at e;split at e;omega;split at e;rename_i c;exact c.1;cases e
      have hBq3:Bq m3=some (.loop (R .busy none)):=by rw[hBq];simp
      have hBqo:∀j,o=some j->j≠p/\j≠m3/\Bq j=none:=λj e=>by
       have:=g3.lt j e;refine⟨by omega,by omega,?_⟩;rw[hBq];dsimp only;rw[if_neg (by omega),if_neg λc=>c.2.2 e]
      have hBqk:∀j,j<mm->j≠p->j≠m3->o≠some j->Bq j=hh j:=λj c1 c2 c3 c4=>by rw[hBq];dsimp only;rw[if_neg c3,if_pos ⟨c1,c2,c4⟩]
      have done:∀(H2:Hp) (m':Nat) (sa:SA) (o':Option Nat) (L':List AM),mm<=m'->(∀j,j<mm->j≠p->j≠m3->o≠some j->H2 j=hh j)->H2 m3=some (.loop (R .busy none))->H2 p=some (.cells (W (Hf ps key (Du acc rej p0 gg).2) o' (L0++(Du acc rej p0 gg).1)))->BR (m3+1) m' 4 o' ((L0++(Du acc rej p0 gg).1).map AM.enc)->(∀j,o'=some j->H2 j=some (.cells (((L0++(Du acc rej p0 gg).1).map AM.enc).flatMap SV.cells)))->(∀j,o'=some j->o=some j\/mm<=j)->
       Hg m3 R (HN (J (k+1)) (λ_ _ _=>False) (λj=>j=p\/j=m3\/o=some j) hh mm) .normal sa H2 m':=by
       intro H2 m' sa o' L' q1 q2 q3 q4 q5 q6 q7;refine⟨q3,q1,λj=>j=p\/j=m3\/o'=some j,λj g=>?_,λj g c=>?_,.inl ⟨rfl,o',rfl,by omega,?_,AD _ _ _,by rw[hst2];exact q5,λj e=>?_⟩⟩;rcases g with g|g|g;exact .inl (.inl g);exact .inl (.inr (.inl g));rcases q7 j g with c|c;exact .inl (.inr (.inr c));exact .inr ⟨c,(q5.lt j g).2⟩;have c3:j≠m3:=λe=>g (.inr (.inl e));rw[AE _ _ c3];exact q2 j c (λe=>g (.inl e)) c3 λe=>g (.inr (.inr e));rw[AE _ _ (by omega),hst2];exact q4;have:=q5.lt j e;rw[AE _ _ (by omega),hst2];exact q6 j e
      obtain⟨V,hV⟩:∃V:Option Nat->List AM->Hp,∀o' L',V o' L'=AV o' (L'.map AM.enc) (hset Bq p (some (.cells (W ps o' L')))):=⟨_,λ_ _=>rfl⟩
      have hV0:∀j y,V o L0 j=some y->hset hh m3 (some (.loop (R .busy none))) j=some y:=λj y e=>by
       have hb:∀j y,hset Bq p (some (.cells (W ps o L0))) j=some y->hset hh m3 (some (.loop (R .busy none))) j=some y:=λj y e=>by
        by_cases c:j=p;subst c;rw[AD]at e;rw[AE _ _ (by omega),g1];exact e;rw[AE _ _ c]at e;by_cases c3:j=m3;subst c3;rw[AD,<-hBq3];exact e;rw[AE _ _ c3];rw[hBq]at e;dsimp only at e;rw[if_neg c3]at e;split at e;exact e;cases e
       rw[hV]at e;cases o with
       | none=>exact hb j y e
       | some i=>
        have:=g3.lt i rfl;simp only[AV,hset]at e;split at e;rename_i c;subst c;rw[AE _ _ (by omega),g4 _ rfl];exact e;exact hb j y e
      have hVb:∀j y,V o L0 j=some y->j<mm:=λj y e=>by
       rw[hV]at e;have hb:∀j y,hset Bq p (some (.cells (W ps o L0))) j=some y->j<mm:=λj y e=>by
        simp only[hset]at e;split at e;omega;exact hBqb j y e
       cases o with
       | none=>exact hb j y e
       | some i=>
        have:=g3.lt i rfl;simp only[AV,hset]at e;split at e;omega;exact hb j y e
      refine AY ?_;refine B5 0 [(2,T2),(6,T6),(7,T7),(9,.ptr p 0),(12,AA key),(13,.imm 4 (gg.map AM.enc) false),(14,.imm 0 [] true)] (V o L0) mm ?_ (λm' hm'=>?_);simp[go_sem,IO];exact hV0;subst hm';obtain⟨S,hS⟩:∃S:Nat->List SV,∀i,S i=(gg.take i).map λy=>Pg (y.before,y.had):=⟨_,λ_=>rfl⟩
      have hS0:S 0=[]:=by rw[hS];rfl
      have hSs:∀i y,(hi:i<gg.length)->gg[i]=y->S (i+1)=S i++[Pg (y.before,y.had)]:=λi y hi e=>by rw[hS,hS,qb hi,e,qc];rfl
      have hSl:S gg.length++[Pg p0]=(Mi gg p0).map Pg:=by rw[hS,qm];unfold Mi;rw[qc,ke];rfl
      have hSn:∀i,(S i).length<=i:=λi=>by rw[hS,qf];exact vz i _
      clear hS;have H5:∀q:Int×Bool,(Pg q).storable=true/\(Pg q).cells.length=2:=λq=>⟨by simp[SV.storable],by simp[SV.cells]⟩
      refine AX 0 (α:=Option Nat) (λos=>[(2,T2),(6,T6),(7,T7),(9,.ptr p 0),(12,AA key),(13,.imm 4 (gg.map AM.enc) false),(14,AW 2 os (S gg.length))]) (λos=>AV os (S gg.length) (V o L0)) (λos m'=>mm<=m'/\BR mm m' 2 os (S gg.length)) ?_ (λos m4 hm4=>?_)
      . refine B5 0 [(2,T2),(6,T6),(7,T7),(9,.ptr p 0),(12,AA key),(13,.imm 4 (gg.map AM.enc) false),(14,.imm 0 [] true),(89,.imm 4 (gg.map AM.enc) false),(90,AA gg.length),(91,AA 0)] (V o L0) mm ?_ (λm' hm'=>?_);simp[go_sem,IO];subst hm';refine AY (BT 0 (α:=Nat×Option Nat) (λq=>[(2,T2),(6,T6),(7,T7),(9,.ptr p 0),(12,AA key),(13,.imm 4 (gg.map AM.enc) false),(14,AW 2 q.2 (S q.1)),(89,.imm 4 (gg.map AM.enc) false),(90,AA gg.length),(91,AA q.1)]) (λq=>AV q.2 (S q.1) (V o L0)) (λq m'=>q.1<=gg.length/\mm<=m'/\BR mm m' 2 q.2 (S q.1)) (λq=>gg.length-q.1) (0,none) ⟨qg _,qa _,by simp only[hS0];exact vA _ _ _⟩ ?_ ?_ ?_);simp[go_sem,Ao,IO,AW];simp only[hS0];exact AC;rintro⟨i,os⟩ m4 ⟨hi,hm4,hA⟩;dsimp only at hi hA ⊢;by_cases hlt:i<gg.length
        . obtain⟨y,hy⟩:∃y,gg[i]=y:=⟨_,rfl⟩
          have hst:=hSs i y hlt hy;have hEn:=hSn i;have w1:=wS i (by omega);generalize hE:S i=E at hA hst hEn ⊢;have hYb:∀j y,AV os E (V o L0) j=some y->j<m4:=G0 hVb hm4 hA;refine B5 0 [(2,T2),(6,T6),(7,T7),(9,.ptr p 0),(12,AA key),(13,.imm 4 (gg.map AM.enc) false),(14,AW 2 os E),(89,.imm 4 (gg.map AM.enc) false),(90,AA gg.length),(91,AA i),(92,.bool true)] (AV os E (V o L0)) m4 ?_ (λm' hm'=>?_);simp[go_sem,IO,hlt];subst hm';refine B5 0 [(2,T2),(6,T6),(7,T7),(9,.ptr p 0),(12,AA key),(13,.imm 4 (gg.map AM.enc) false),(14,AW 2 os E),(89,.imm 4 (gg.map AM.enc) false),(90,AA gg.length),(91,AA i)] (AV os E (V o L0)) m4 ?_ (λm' hm'=>?_);simp[go_sem,IO];subst hm';refine AX 0 (α:=Option Nat) (λos=>[(2,T2),(6,T6),(7,T7),(9,.ptr p 0),(12,AA key),(13,.imm 4 (gg.map AM.enc) false),(14,AW 2 os (S (i+1))),(89,.imm 4 (gg.map AM.enc) false),(90,AA gg.length),(91,AA i)]) (λos=>AV os (S (i+1)) (V o L0)) (λos m'=>mm<=m'/\BR mm m' 2 os (S (i+1))) (AY ?_) (λos m5 hm5=>?_)
          . rw[hst];refine Aa 1 [(2,T2),(6,T6),(7,T7),(9,.ptr p 0),(12,AA key),(13,.imm 4 (gg.map AM.enc) false),(14,AW 2 os E),(89,.imm 4 (gg.map AM.enc) false),(90,AA gg.length),(91,AA i),(16,.iptr [AA y.rev,AA y.key,AA y.before,.bool y.had])] (AV os E (V o L0)) m4 ?_ (λm5 hm5=>?_);simp[go_sem,IO,hlt,hy,AM.enc,AD];exact⟨AZ (AS hYb (qa _)) (AD _ _ _),AL hYb (AL hYb AC)⟩;refine AJ ?_;simp[go_sem];refine qz (by simpa[AM.enc]using fu y) ?_;simp[go_sem];have hpush:=hA.push (j:=m5+1) (m':=m5+1+1) (e:=Pg (y.before,y.had)) (H5 _).1 (H5 _).2 (by omega) (by omega);rw[Fa (es:=E) (e:=Pg (y.before,y.had)) (o:=os) (t:=289) (t2:=289) (el:=291) (z:=2) (by simp[go_sem]) (by simp[go_sem]) (by simp[go_sem]) (by simp) (by simp[go_sem]) (by simp[go_sem]) (by simp[go_sem]) (by omega) hA (H5 _).2 ?a1 ?a2]
            case a1=>simp[AD,SV.cells]
            case a2=>
             intro j e;have:=(hA.lt j e).2;rw[AE _ _ (by omega)];exact FX j e
            have hlive:=D7 (p:=m5+1) (v:=.sl (m5+1) 0 2 (E.length+1) false) (e:=Pg (y.before,y.had)) hVb (by omega) hA (H:=hset (AV os E (V o L0)) m5 (some (.cells [AA y.before,.bool y.had]))) (AL (λj z e=>by have:=hVb j z e;omega) (Eb hVb hA));have hvv:AW 2 (some (m5+1)) (E++[Pg (y.before,y.had)])=.sl (m5+1) 0 2 (E.length+1) false:=by simp[AW]
            simp[go_sem];exact⟨some (m5+1),⟨by omega,hpush⟩,hvv.symm,by simpa[C5.app,SV.cells]using hlive⟩
          refine AJ ?_;simp[go_sem,w1,IO,-Int.natCast_add];exact⟨i+1,by omega,os,⟨by omega,hm5.1,hm5.2⟩,⟨rfl,rfl⟩,AC⟩
        have:i=gg.length:=by omega
        subst this;refine AJ ?_;simp[go_sem,IO];exact⟨os,⟨hm4,hA⟩,rfl,AC⟩
      obtain⟨hm4,hA⟩:=hm4;have hSn2:=hSn gg.length;generalize S gg.length=E at hA hSl hSn2 ⊢;clear hS0 hSs hSn;have hYb:∀j y,AV os E (V o L0) j=some y->j<m4:=G0 hVb hm4 hA;obtain⟨ST,hST⟩:∃ST:SV,ST=.imm 2 ((Mi gg p0).map Pg) false:=⟨_,rfl⟩
      refine Aa 1 [(6,T6),(7,T7),(9,.ptr p 0),(12,AA key),(13,.imm 4 (gg.map AM.enc) false),(14,ST)] (V o L0) mm ?_ (λm5 hm5=>?_)
      . rw[hT2];simp[go_sem,AF.flat];refine qz (fw hd.props (by omega) (AA hd.ins) (AA hd.move) (Ax hd.dels) (Ai hd.layers) key) ?_;rw[<-hp0];simp[go_sem];have hpush:=hA.push (j:=m4+1) (m':=m4+1+1) (e:=Pg p0) (H5 _).1 (H5 _).2 (by omega) (by omega);rw[Fa (es:=E) (e:=Pg p0) (o:=os) (t:=289) (t2:=289) (el:=291) (z:=2) (by simp[go_sem]) (by simp[go_sem]) (by simp[go_sem]) (by simp) (by simp[go_sem]) (by simp[go_sem]) (by simp[go_sem]) (by omega) hA (H5 _).2 ?a1 ?a2]
        case a1=>simp[AD,SV.cells]
        case a2=>
         intro j e;have:=(hA.lt j e).2;rw[AE _ _ (by omega)];exact FX j e
        have hlive:=D7 (p:=m4+1) (v:=.sl (m4+1) 0 2 (E.length+1) false) (e:=Pg p0) hVb (by omega) hA (H:=hset (AV os E (V o L0)) m4 (some (.cells [AA p0.1,.bool p0.2]))) (AL (λj z e=>by have:=hVb j z e;omega) (Eb hVb hA));have hvv:AW 2 (some (m4+1)) (E++[Pg p0])=.sl (m4+1) 0 2 (E.length+1) false:=by simp[AW]
        have hfz:=AW.fz' (h:=V o L0) (k:=0) (λj hj=>AS hVb hj) hpush hlive;have BV:=λj y e=>hlive j y (Eb hVb hpush j y e);rw[hvv,hSl,<-hST]at hfz;simp[go_sem];exact⟨by omega,by simpa[C5.app,SV.cells]using hfz,by simpa[C5.app,SV.cells]using BV⟩
      clear hA hYb hSl;have hgl:gg.length<=1048576:=by omega
      refine Aa 0 [(6,T6),(7,T7),(9,.ptr p 0),(12,AA key),(13,.imm 4 (gg.map AM.enc) false),(14,ST),(17,AA (0:Nat))] (V o L0) mm ?_ (λm6 hm6=>?_);simp[go_sem,IO,hm5];refine CW 0 [(7,T7),(9,.ptr p 0),(12,AA key),(13,.imm 4 (gg.map AM.enc) false),(14,ST),(17,AA (EW acc gg:Nat))] (V o L0) mm ?_ (λm7 hm7=>?_);refine Aa 0 [(6,T6),(7,T7),(9,.ptr p 0),(12,AA key),(13,.imm 4 (gg.map AM.enc) false),(14,ST),(17,AA (0:Nat)),(107,.imm 4 (gg.map AM.enc) false),(108,AA gg.length),(109,AA 0)] (V o L0) mm ?_ (λm7 hm7=>?_);simp[go_sem,IO,hm6];refine AY (BT 0 (α:=Nat) (λi=>[(6,T6),(7,T7),(9,.ptr p 0),(12,AA key),(13,.imm 4 (gg.map AM.enc) false),(14,ST),(17,AA (EW acc (gg.take i):Nat)),(107,.imm 4 (gg.map AM.enc) false),(108,AA gg.length),(109,AA i)]) (λ_=>V o L0) (λi m'=>i<=gg.length/\mm<=m') (λi=>gg.length-i) 0 ⟨qg _,hm7⟩ ?_ AC ?_);simp[go_sem,Ao,IO,EW];rintro i m8 ⟨hi,hm8⟩;by_cases hlt:i<gg.length;obtain⟨y,hy⟩:∃y,gg[i]=y:=⟨_,rfl⟩
      have w1:=wS i (by omega);have hst:EW acc (gg.take (i+1))=if acc y.rev then i+1 else EW acc (gg.take i):=by
       rw[qb hlt,hy,Ny,vD,kL (by omega)]
      generalize EW acc (gg.take i)=f0 at hst ⊢;obtain⟨f1,hf1⟩:∃f1,EW acc (gg.take (i+1))=f1:=⟨_,rfl⟩
      rw[hf1]at hst;refine Aa 0 [(6,T6),(7,T7),(9,.ptr p 0),(12,AA key),(13,.imm 4 (gg.map AM.enc) false),(14,ST),(17,AA (f0:Nat)),(107,.imm 4 (gg.map AM.enc) false),(108,AA gg.length),(109,AA i),(110,.bool true)] (V o L0) mm ?_ (λm9 hm9=>?_);simp[go_sem,IO,hm8,hlt];refine Aa 0 [(6,T6),(7,T7),(9,.ptr p 0),(12,AA key),(13,.imm 4 (gg.map AM.enc) false),(14,ST),(17,AA (f0:Nat)),(107,.imm 4 (gg.map AM.enc) false),(108,AA gg.length),(109,AA i)] (V o L0) mm ?_ (λm9 hm9=>?_);simp[go_sem,IO,hm9];refine AX 0 (α:=Unit) (λ_=>[(6,T6),(7,T7),(9,.ptr p 0),(12,AA key),(13,.imm 4 (gg.map AM.enc) false),(14,ST),(17,AA (f1:Nat)),(107,.imm 4 (gg.map AM.enc) false),(108,AA gg.length),(109,AA i)]) (λ_=>V o L0) (λ_ m'=>mm<=m') (AY ?_) (λ_ m10 hm10=>?_);refine Aa 1 [(6,T6),(7,T7),(9,.ptr p 0),(12,AA key),(13,.imm 4 (gg.map AM.enc) false),(14,ST),(17,AA (f0:Nat)),(107,.imm 4 (gg.map AM.enc) false),(108,AA gg.length),(109,AA i),(18,AA i),(19,.iptr [AA y.rev,AA y.key,AA y.before,.bool y.had])] (V o L0) mm ?_ (λm10 hm10=>?_);have hVm:∀j z,V o L0 j=some z->j<m9:=λj z e=>by have:=hVb j z e;omega
      simp[go_sem,IO,hlt,hy,AM.enc,AD];exact⟨by omega,AZ (AS hVm (qa _)) (AD _ _ _),AL hVm (AL hVm AC)⟩;refine AJ ?_;rw[hT6];simp[go_sem];refine(k225 y.rev).use ?_;cases ha:acc y.rev with
      | true=>
       rw[ha,if_pos rfl]at hst;subst hst;simp[go_sem,w1,IO,hm10,-Int.natCast_add]
      | false=>
       rw[ha,if_neg (by decide)]at hst;subst hst;simp[go_sem,IO,hm10]
      refine AJ ?_;simp[go_sem,w1,IO,-Int.natCast_add];exact⟨i+1,by omega,⟨by omega,hm10⟩,by rw[hf1];exact⟨rfl,rfl⟩⟩;have:i=gg.length:=by omega
      subst this;rw[qm];refine AJ ?_;simp[go_sem,IO,hm8];obtain⟨f,hf⟩:∃f,f=EW acc gg:=⟨_,rfl⟩
      have hfl:f<=gg.length:=by rw[hf];exact RV acc gg
      have D0:=Tt.start acc rej p0 gg L0;rw[<-hf]at D0 ⊢;have hSTg:∀j,j<=gg.length->∃hj:j<((Mi gg p0).map Pg).length,((Mi gg p0).map Pg)[j]=Pg (KZ p0 (gg.drop j)):=λj hj=>by
       have h1:j<(Mi gg p0).length:=by rw[SB];omega
       refine⟨by rw[qf];exact h1,?_⟩;rw[List.getElem_map];have:=XV gg p0 j hj;rw[qe h1]at this;rw[Option.some.inj this]
      have hSTl:((Mi gg p0).map Pg).length=gg.length+1:=by rw[qf,SB]
      generalize(Mi gg p0).map Pg=SL at hST hSTg hSTl;obtain⟨LE,hLE⟩:∃LE:SV,LE=.imm 4 (gg.map AM.enc) false:=⟨_,rfl⟩
      rw[<-hLE];refine B8 0 (α:=Nat) (λc=>[(7,T7),(9,.ptr p 0),(12,AA key),(13,LE),(14,ST),(17,AA f),(20,.ptr c 0)]) (λc=>hset (V o L0) c (some (.cells [AA (KZ p0 (gg.drop f)).1,.bool (KZ p0 (gg.drop f)).2]))) (λc m'=>mm<=c/\c<m') ?_ (λc m8 hm8=>?_);obtain⟨hj0,hg0⟩:=hSTg f hfl;rw[hST];simp[go_sem,hj0,hg0,IO,AD,Ah];exact⟨m7,by omega,IO,AC⟩;obtain⟨hc1,hc2⟩:=hm8;have hcp:c≠p:=by omega
      have hc3:c≠m3:=by omega
      obtain⟨U,hU⟩:∃U:Option Nat->List AM->Int×Bool->Hp,∀o' L' s,U o' L' s=AV o' (L'.map AM.enc) (hset (hset Bq c (some (.cells [AA s.1,.bool s.2]))) p (some (.cells (W ps o' L')))):=⟨_,λ_ _ _=>rfl⟩
      have hUV:∀s:Int×Bool,hset (V o L0) c (some (.cells [AA s.1,.bool s.2]))=U o L0 s:=λs=>by
       have hb:hset (hset Bq p (some (.cells (W ps o L0)))) c (some (.cells [AA s.1,.bool s.2]))=hset (hset Bq c (some (.cells [AA s.1,.bool s.2]))) p (some (.cells (W ps o L0))):=by
        funext j;simp only[hset];grind
       rw[hU,hV];cases o with
       | none=>exact hb
       | some i=>
        have:=g3.lt i rfl;simp only[AV];rw[<-hb];funext j;simp only[hset];grind
      rw[hUV];have okO:∀j,o=some j->j≠p/\j≠c/\j≠m3/\Bq j=none/\(o=some j\/mm<=j):=λj e=>by
       have:=g3.lt j e;obtain⟨a1,a2,a3⟩:=hBqo j e;exact⟨a1,by omega,a2,a3,.inl e⟩
      have hUp:∀o' L' s,(∀j,o'=some j->j≠p/\j≠c/\j≠m3/\Bq j=none/\(o=some j\/mm<=j))->U o' L' s p=some (.cells (W ps o' L'))/\U o' L' s c=some (.cells [AA s.1,.bool s.2])/\(∀s',hset (U o' L' s) c (some (.cells [AA s'.1,.bool s'.2]))=U o' L' s'):=λo' L' s ok=>by
       rw[hU];cases o' with
       | none=>
        refine⟨AD _ _ _,by simp only[AV];rw[AE _ _ hcp,AD],λs'=>?_⟩;rw[hU];simp only[AV];funext j;simp only[hset];grind
       | some i=>
        obtain⟨a1,a2,_⟩:=ok i rfl;refine⟨by simp only[AV];rw[AE _ _ (Ne.symm a1),AD],by simp only[AV];rw[AE _ _ (Ne.symm a2),AE _ _ hcp,AD],λs'=>?_⟩;rw[hU];simp only[AV];funext j;simp only[hset];grind
      refine AX 0 (α:=Option Nat×List AM×Nw) (λq=>[(9,.ptr p 0),(12,AA key),(20,.ptr c 0)]) (λq=>U q.1 q.2.1 q.2.2.p) (λq m'=>m8<=m'/\BR (m3+1) m' 4 q.1 (q.2.1.map AM.enc)/\(∀j,q.1=some j->j≠p/\j≠c/\j≠m3/\Bq j=none/\(o=some j\/mm<=j))/\Tt rej p0 gg L0 (Du acc rej p0 gg) gg.length q.2.1 q.2.2.p) ?_ (λq m9 hm9=>?_)
      . refine B5 0 [(7,T7),(9,.ptr p 0),(12,AA key),(13,LE),(14,ST),(20,.ptr c 0),(21,AA f)] (U o L0 (KZ p0 (gg.drop f))) m8 ?_ (λm' hm'=>?_);simp[go_sem,IO];subst hm';refine AY (BT 0 (α:=Nat×Option Nat×List AM×Nw) (λq=>[(7,T7),(9,.ptr p 0),(12,AA key),(13,LE),(14,ST),(20,.ptr c 0),(21,AA q.1)]) (λq=>U q.2.1 q.2.2.1 q.2.2.2.p) (λq m'=>q.1<=gg.length/\q.2.2.1.length<=L0.length+q.1/\m8<=m'/\BR (m3+1) m' 4 q.2.1 (q.2.2.1.map AM.enc)/\(∀j,q.2.1=some j->j≠p/\j≠c/\j≠m3/\Bq j=none/\(o=some j\/mm<=j))/\Tt rej p0 gg L0 (Du acc rej p0 gg) q.1 q.2.2.1 q.2.2.2.p) (λq=>gg.length-q.1) (f,o,L0,⟨KZ p0 (gg.drop f)⟩) ⟨hfl,Nat.le_add_right _ _,qa _,g3.mono (by omega),okO,D0⟩ ?_ AC ?_);simp[go_sem,Ao,IO];rintro⟨k,o',L',⟨s⟩⟩ m9 ⟨hk,hLn,hm9,hA,hok',hD'⟩;dsimp only at hk hLn hA hok' hD' ⊢;obtain⟨hUp1,hUc,hUs⟩:=hUp o' L' s hok';by_cases hlt:k<gg.length
        . obtain⟨y,hy⟩:∃y,gg[k]=y:=⟨_,rfl⟩
          have hlt':(k:Int)<gg.length:=by omega
          have w1:=wS k (by omega);refine CG 0 [(7,T7),(9,.ptr p 0),(12,AA key),(13,LE),(14,ST),(20,.ptr c 0),(21,AA k)] (U o' L' s) m9 (AJ ?_) (λm' hm'=>?_);rw[hLE];simp[go_sem,IO,hlt'];subst hm';refine AX 0 (α:=Option Nat×List AM×Nw) (λq=>[(7,T7),(9,.ptr p 0),(12,AA key),(13,LE),(14,ST),(20,.ptr c 0),(21,AA k)]) (λq=>U q.1 q.2.1 q.2.2.p) (λq m'=>q.2.1.length<=L0.length+(k+1)/\m8<=m'/\BR (m3+1) m' 4 q.1 (q.2.1.map AM.enc)/\(∀j,q.1=some j->j≠p/\j≠c/\j≠m3/\Bq j=none/\(o=some j\/mm<=j))/\Tt rej p0 gg L0 (Du acc rej p0 gg) (k+1) q.2.1 q.2.2.p) (AY ?_) (λq m10 hm10=>?_)
          . refine Bg 0 [(7,T7),(9,.ptr p 0),(12,AA key),(13,LE),(14,ST),(20,.ptr c 0),(21,AA k)] (U o' L' s) (λm'=>m9=m'/\rej y.rev=false) (AJ ?_) (λm' hm'=>?_)
            . rw[hLE,hT7];have k6:=k226 y.rev;cases hr:rej y.rev with
              | true=>
               rw[hr]at k6;simp[go_sem,hlt,hy,AM.enc]
               repeat first|refine nq ?_|refine sq ?_
               refine kc _ _ _ _ _ _ k6 ?_;simp[go_sem,IO];refine nd (by kernel_rfl) ?_;exact⟨o',L',⟨s⟩,⟨by omega,hm9,hA,hok',hD'.skip hlt (by rw[hy];exact hr)⟩,AC⟩
              | false=>
               rw[hr]at k6;simp[go_sem,hlt,hy,AM.enc]
               repeat first|refine nq ?_|refine sq ?_
               refine kc _ _ _ _ _ _ k6 ?_;simp[go_sem,IO];exact(nd (by kernel_rfl) trivial).1
            obtain⟨hm',hr⟩:=hm';subst hm';obtain⟨yn,hyn⟩:∃yn:AM,yn=⟨y.rev,y.key,s.1,s.2⟩:=⟨_,rfl⟩
            refine B8 0 (α:=Option Nat) (λo2=>[(9,.ptr p 0),(7,T7),(12,AA key),(13,LE),(14,ST),(20,.ptr c 0),(21,AA k)]) (λo2=>U o2 (L'++[yn]) s) (λo2 m'=>m9<=m'/\BR (m3+1) m' 4 o2 ((L'++[yn]).map AM.enc)/\(∀j,o2=some j->j≠p/\j≠c/\j≠m3/\Bq j=none/\(o=some j\/mm<=j))) ?_ (λo2 m10 hm10=>?_)
            . rw[hLE];rw[hW]at hUp1;simp[go_sem,hlt,hy,AM.enc,hUp1,hUc];have hpm9:p<m9:=by omega
              have hcm9:c<m9:=by omega
              repeat first|refine aq ?_|refine nd (by simp[Bo,DZ,CU,Aq,Region.binds]<;>omega) ?_|refine sq ?_
              refine kc _ _ _ _ _ _ (by simpa[AM.enc]using fx y s.1 s.2) ?_;simp[go_sem]
              repeat first|refine aq ?_|refine nd (by simp[Bo,DZ,CU,Aq,Region.binds]<;>omega) ?_|refine sq ?_
              have hLL:(L'.map AM.enc).length+1<=1073741824:=by rw[qf];omega
              rw[Fa (es:=L'.map AM.enc) (e:=yn.enc) (o:=o') (t:=25) (t2:=25) (el:=164) (z:=4) (by simp[go_sem]) (by simp[go_sem]) (by simp[go_sem]) (by simp) (by simp[go_sem]) (by simp[go_sem]) (by simp[go_sem]) hLL hA (AM.E.len _) ?a1 ?a2]
              case a1=>rw[AD,hyn];simp[AM.enc,SV.cells]
              case a2=>
               intro j e;have:=(hA.lt j e).2;rw[AE _ _ (by omega),hU,e];exact AD _ _ _
              have Me:∀j z,hset (hset Bq c (some (.cells [AA s.1,.bool s.2]))) p (some (.cells (W ps o' L'))) j=some z->j<m9/\U o' L' s j=some z:=λj z e=>by
               have hj:j<m9:=by
                simp only[hset]at e;split at e;omega;split at e;omega;have:=hBqb j z e;omega
               refine⟨hj,?_⟩;rw[hU];cases o' with
               | none=>exact e
               | some i=>
                obtain⟨a1,a2,_,a4,_⟩:=hok' i rfl;have:j≠i:=λc0=>by subst c0;rw[AE _ _ a1,AE _ _ a2,a4]at e;cases e
                simp only[AV];rw[AE _ _ this];exact e
              have hlv:=Uq (h:=hset (hset Bq c (some (.cells [AA s.1,.bool s.2]))) p (some (.cells (W ps o' L')))) (H:=hset (U o' L' s) m9 (some (.cells [AA y.rev,AA y.key,AA s.1,.bool s.2]))) (p:=m9+1) (es:=L'.map AM.enc) (e:=yn.enc) (o:=o') (v:=.sl (m9+1) 0 4 ((L'.map AM.enc).length+1) false)
               (λj e=>by obtain⟨a1,a2,_,a4,_⟩:=hok' j e;rw[AE _ _ a1,AE _ _ a2];exact a4) (λj z e=>by have:=Me j z e;rw[AE _ _ (by omega)];exact this.2)
              have hl2:∀j z,U (some (m9+1)) (L'++[yn]) s j=some z->hset (C5.app (hset (U o' L' s) m9 (some (.cells [AA y.rev,AA y.key,AA s.1,.bool s.2]))) (m9+1) { val:=.sl (m9+1) 0 4 ((L'.map AM.enc).length+1) false,upd:=o'.map λj=>(j,none),new:=some (.cells ((L'.map AM.enc).flatMap SV.cells++yn.enc.cells)) }) p (some (.cells [AU ps,AA i0,AA v0,AW 2 oD D,.sl (m9+1) 0 4 ((L'.map AM.enc).length+1) false])) j=some z:=by
               have e1:W ps (some (m9+1)) (L'++[yn])=[AU ps,AA i0,AA v0,AW 2 oD D,.sl (m9+1) 0 4 ((L'.map AM.enc).length+1) false]:=by rw[hW];simp[AW]
               rw[hU,qc,e1];exact Qt (by omega) hlv
              have hpush:=hA.push (j:=m9+1) (m':=m9+1+1) (e:=yn.enc) (AM.E.st _) (AM.E.len _) (by omega) (by omega);have hpush2:BR (m3+1) (m9+1+1) 4 (some (m9+1)) ((L'++[yn]).map AM.enc):=by rw[qc];exact hpush
              have n1:p≠m9:=by omega
              have n2:p≠m9+1:=by omega
              have hBn:Bq (m9+1)=none:=AS hBqb (by omega);clear hlv Me hpush;cases o' with
              | none=>
               simp[go_sem,AW,AE,n1,n2,hUp1]
               repeat first|refine aq ?_|refine nd (by simp[Bo,DZ,CU,Aq,Region.binds]<;>omega) ?_|refine sq ?_
               exact⟨some (m9+1),⟨by omega,by simpa[AM.enc]using hpush2,λj e=>by cases e;exact⟨by omega,by omega,by omega,hBn,.inr (by omega)⟩⟩,by simpa[C5.app,AW,Ah,SV.cells]using hl2⟩
              | some i=>
               have n3:p≠i:=λe=>(hok' i rfl).1 e.symm;obtain⟨i1,i2,i3,i4,i5⟩:=hok' i rfl;have hi9:=(hA.lt i rfl).2;simp[go_sem,AW,AE,n1,n2,n3,hUp1]
               repeat first|refine aq ?_|refine And.intro (by intro k e;omega) ?_|refine nd (by simp[Bo,DZ,CU,Aq,Region.binds]<;>omega) ?_|refine sq ?_
               exact⟨some (m9+1),⟨by omega,by simpa[AM.enc]using hpush2,λj e=>by cases e;exact⟨by omega,by omega,by omega,hBn,.inr (by omega)⟩⟩,by simpa[C5.app,AW,Ah,SV.cells]using hl2⟩
            obtain⟨q1,q2,q3⟩:=hm10;obtain⟨_,hUc2,hUs2⟩:=hUp o2 (L'++[yn]) s q3;obtain⟨hj1,hg1⟩:=hSTg (k+1) (by omega);have hDt:=hD'.take hlt (by rw[hy];exact hr);rw[hy,<-hyn]at hDt;refine AJ ?_;rw[hST];simp[go_sem,w1,hj1,hg1,hUc2,hUs2,IO,-Int.natCast_add];exact⟨o2,L'++[yn],⟨KZ p0 (gg.drop (k+1))⟩,⟨by rw[qq];simp;omega,by omega,q2,q3,hDt⟩,AC⟩
          obtain⟨b1,b2,b3,b4,b5⟩:=hm10;refine AJ ?_;simp[go_sem,w1,IO,-Int.natCast_add];exact⟨k+1,by omega,q.1,q.2.1,q.2.2,⟨by omega,b1,b2,b3,b4,b5⟩,rfl,AC⟩
        have:k=gg.length:=by omega
        subst this;refine Bg 0 [] h (λ_=>False) (AJ ?_) (λ_ hm=>hm.elim);rw[hLE];simp[go_sem,IO];exact⟨o',L',⟨s⟩,⟨hm9,hA,hok',hD'⟩,AC⟩
      obtain⟨o',L',⟨s⟩⟩:=q;obtain⟨hm9,hA,hok',hD'⟩:=hm9;dsimp only at hA hok' hD' ⊢;obtain⟨hUp1,hUc,hUs⟩:=hUp o' L' s hok';obtain⟨eL,eS⟩:=hD'.done;refine AJ ?_;rw[hW]at hUp1;simp[go_sem,hUp1,hUc];refine qP (iV ps hn1 (AA i0) (AA v0) (AW 2 oD D) (AW 4 o' (L'.map AM.enc)) key s.1 s.2) ?_;rintro w H' n' ⟨q1,q2,q3,rfl⟩;have hHp:=q2 p _ hUp1;simp[go_sem,hHp];have hUo:∀j,j<mm->j≠p->o≠some j->U o' L' s j=Bq j:=λj c1 c2 c4=>by
       have hb:hset (hset Bq c (some (.cells [AA s.1,.bool s.2]))) p (some (.cells (W ps o' L'))) j=Bq j:=by rw[AE _ _ c2,AE _ _ (by omega)]
       rw[hU];cases o' with
       | none=>exact hb
       | some i =>
        have:j≠i:=λe=>by
         rcases(hok' i rfl).2.2.2.2 with g|g;exact c4 (by rw[e];exact g);omega
        simp only[AV];rw[AE _ _ this];exact hb
      refine done _ _ _ o' L' (by omega) (λj c1 c2 c3 c4=>?_) ?_ ?_ (by rw[<-eL];exact hA.mono (by omega)) (λj e=>?_) λj e=>(hok' j e).2.2.2.2;rw[AE _ _ c2,q3 j (by omega),hUo j c1 c2 c4];exact hBqk j c1 c2 c3 c4;rw[AE _ _ (by omega),q3 m3 (by omega),hUo m3 hmz (by omega) (λe=>(hBqo m3 e).2.1 rfl)];exact hBq3;rw[AD,hW,<-eL,<-eS];obtain⟨a1,a2,a3,a4,a5⟩:=hok' j e;have:=hA.lt j e;rw[AE _ _ a1,q3 j this.2,hU,e,<-eL];exact AD _ _ _
    rintro k Dm hh mm h' m' ⟨o,rfl,g0,g1,g2,g3,g4⟩ hmm hD;exact⟨o,rfl,by omega,by rw[hD _ (.inl rfl)];exact g1,by rw[hD _ (.inr (.inl rfl))];exact g2,g3.mono hmm,λj e=>by rw[hD _ (.inr (.inr e))];exact g4 j e⟩;rintro k Dm hh mm ⟨o,rfl,g0,g1,g2,g3,g4⟩ j (rfl|rfl|e);omega;omega;exact(g3.lt j e).2
   have hp3:p≠m3:=by omega
   rw[hGs]at Y;rw[hT2];refine we (gY hd (by omega) Y (λj=>j=p\/j=m3\/none=some j) _ _ ⟨none,rfl,qY _,by rw[AE _ _ hp3,hO0];exact hHqp,AD _ _ _,by rw[hO0];exact vA _ _ _,by rintro j ⟨⟩⟩) ?_;rw[<-hGs];rintro v h' n' ⟨hle,D',hDD,BV,⟨_,o,rfl,g0,g1,g2,g3,g4⟩|⟨_,hx⟩⟩;refine⟨_,_,g2,by simp,?_⟩;simp[go_sem,IO];refine⟨o,⟨by omega,⟨g3.none,λj e=>by have:=g3.lt j e;omega,g3.size⟩⟩,λj y e=>?_⟩;have hb:∀j y,hset Hq p (some (.cells (W (O Gs.length).1 o (O Gs.length).2))) j=some y->hset h' m3 none j=some y:=λj y e=>by
    by_cases c:j=p;subst c;rw[AD]at e;rw[AE _ _ hp3,g1];exact e;rw[AE _ _ c]at e;have:=hHqb j y e;rw[AE _ _ (by omega),BV j (by rintro(g|g|g)<;>first|omega|cases g) (by omega),AE _ _ (by omega)];exact e
   rw[hZ]at e;cases o with
   | none=>exact hb j y e
   | some k=>
    have:=g3.lt k rfl;simp only[AV,hset]at e;split at e;rename_i c;subst c;rw[AE _ _ (by omega),g4 _ rfl];exact e;exact hb j y e
   exact hx.elim
 obtain⟨hm3,hA4⟩:=hm3;have hop:∀j,o=some j->m2<=j:=λj e=>(hA4.lt j e).1;have hZp:Z o (O Gs.length).1 (O Gs.length).2 p=some (.cells (W (O Gs.length).1 o (O Gs.length).2)):=by
  rw[hZ];cases o with
  | none=>exact AD _ _ _
  | some k=>have:=hop k rfl;simp only[AV];rw[AE _ _ (by omega),AD]
 have hZr:Z o (O Gs.length).1 (O Gs.length).2 r=some (.cells zc):=by
  rw[hZ];cases o with
  | none=>simp only[AV];rw[AE _ _ hrp'];exact hHqr
  | some k=>have:=hop k rfl;simp only[AV];rw[AE _ _ (by omega),AE _ _ hrp'];exact hHqr
 have hZk:∀j y,AV o ((O Gs.length).2.map AM.enc) (AV oD D h) j=some y->Z o (O Gs.length).1 (O Gs.length).2 j=some y:=λj y e=>by
  have hb:∀j y,AV oD D h j=some y->hset Hq p (some (.cells (W (O Gs.length).1 o (O Gs.length).2))) j=some y:=λj y e=>by
   have hj:j≠p:=λc=>by
    subst c;cases oD with
    | none=>have:=hHb _ _ e;omega
    | some k=>have:=hDp k rfl;simp only[AV]at e;rw[AE _ _ (by omega)]at e;have:=hHb _ _ e;omega
   rw[AE _ _ hj];exact hHqk j y e
  rw[hZ];cases o with
  | none=>exact hb j y e
  | some k=>
   simp only[AV,hset]at e ⊢;split at e;rename_i c;rw[if_pos c];exact e;rename_i c;rw[if_neg c];have:=hb j y (by simpa[AV,hset]using e);simpa[hset]using this
 generalize Z o (O Gs.length).1 (O Gs.length).2=ZZ at hZp hZr hZk ⊢;generalize(O Gs.length).1=ps at hZp ⊢;generalize(O Gs.length).2=L at hZp hA4 hZk ⊢;rw[hW]at hZp;refine AJ ?_;simp[go_sem,hZp,hZr,hzc,AD];have hoD:∀j y,AV oD D h j=some y->j<m2/\j≠r:=λj y e=>by
  cases oD with
  | none=>have:=hHb j y e;omega
  | some i=>
   have:=hDp i rfl;simp only[AV,hset]at e;split at e;omega;have:=hHb j y e;omega
 have hZ1:∀j y,AV oD D h j=some y->hset ZZ r (some (.cells [AU ps,AA i0,AA v0,AW 2 oD D,AW 4 o (L.map AM.enc)])) j=some y:=λj y e=>by
  have:=hoD j y e;rw[AE _ _ this.2];refine hZk j y ?_;cases o with
  | none=>exact e
  | some i=>have:=hop i rfl;simp only[AV];rw[AE _ _ (by omega)];simpa[AV]using e
 have hZ2:∀j y,h j=some y->AV oD D h j=some y:=λj y e=>by
  cases oD with
  | none=>exact e
  | some i=>have:=hDp i rfl;have:=hHb j y e;simp only[AV];rw[AE _ _ (by omega)];exact e
 have hZ3:∀j y,AV o (L.map AM.enc) h j=some y->hset ZZ r (some (.cells [AU ps,AA i0,AA v0,AW 2 oD D,AW 4 o (L.map AM.enc)])) j=some y:=λj y e=>by
  cases o with
  | none=>exact hZ1 j y (hZ2 j y e)
  | some i=>
   have:=hop i rfl;by_cases c:j=i;rw[AE _ _ (by omega)];refine hZk j y ?_;simp only[AV,hset]at e ⊢;rw[if_pos c]at e ⊢;exact e;refine hZ1 j y (hZ2 j y ?_);simp only[AV]at e
   rwa [AE _ _ c]at e
 have eh:AF.enc ⟨ps,i0,v0,hd.dels.filter λx=>!rej x.rev,L⟩=.agg [AU ps,AA i0,AA v0,.imm 2 D false,.imm 4 (L.map AM.enc) false]:=by rw[hDl];rfl
 have hcl:=Q0 n ⟨ps,i0,v0,hd.dels.filter λx=>!rej x.rev,L⟩ true;rw[eh]at hcl ⊢;exact Dj 3 ho (λj y e=>hZ1 j y (hZ2 j y e)) (.inr ⟨.inr ⟨IO,IO,IO,AW.fz' (λj hj=>AS hHb (by omega)) hAD hZ1,AW.fz' (λj hj=>AS hHb (by omega)) hA4 hZ3,trivial⟩,IO,trivial⟩) hcl
theorem Uu {p:Int->Bool} {id:Int} {acc rej acc' rej':Int->Bool} {l:List Bs} (hl:K4 l) (hp:(l.map (Ba p id)).Pairwise λa b=>a.rev≠b.rev)
 (h:∀x∈l,Jn (ED p id) acc rej acc' rej' x.rev) (k:∀x∈l,acc x.rev=false):
 (Co (l.map (Ba p id)) l.length).filter (λx=>!rej' x.rev)=l.filter (λx=>!rej x.rev):=by
 have e:l.length=(l.map (Ba p id)).length:=(qf ..).symm;rw[e];refine TG ((L3 hp).filter _) (hl.filter _) λy=>?_;rw[kD,kD,FP _ _ (qa _),ql];have same:∀x∈l,rej x.rev=false->Ba p id x=x:=λx f d=>by
  have g:ED p id x.rev=x.rev:=(h x f).n (k x f) d;unfold Ba;rw[g]
 constructor;rintro⟨⟨x,f,rfl⟩,d⟩;have j:rej' (Ba p id x).rev=rej x.rev:=(h x f).r;rw[j]at d;have c:rej x.rev=false:=by simpa using d
 rw[same x f c];exact⟨f,d⟩;rintro⟨i,d⟩;have c:rej y.rev=false:=by simpa using d
 refine⟨⟨y,i,same y i c⟩,?_⟩;have j:rej' (ED p id y.rev)=rej y.rev:=(h y i).r;rw[(h y i).n (k y i) c]at j;rw[j];exact d
theorem UC {p:Int->Bool} {id:Int} {acc rej acc' rej':Int->Bool} {h:AF} (j:id≠0) (hl:K4 h.dels) (hp:(h.dels.map (Ba p id)).Pairwise λa b=>a.rev≠b.rev)
 (hi:h.ins≠0->Jn (ED p id) acc rej acc' rej' h.ins) (i:∀x∈h.dels,Jn (ED p id) acc rej acc' rej' x.rev) (v:∀y∈h.layers,Jn (ED p id) acc rej acc' rej' y.rev):
 CE acc' rej' (E3 p id h)=CE acc rej h:=by
 have o:(E3 p id h).props=h.props:=rfl;have q:(E3 p id h).ins=B9 p id h.ins:=rfl;have s:(E3 p id h).dels=Co (h.dels.map (Ba p id)) h.dels.length:=rfl;have t:(E3 p id h).layers=h.layers.map (Qi (ED p id)):=rfl;have l:(B9 p id h.ins≠0↔h.ins≠0):=by
  unfold B9;split;rename_i c;exact⟨λ_=>c.1,λ_=>j⟩;exact Iff.rfl
 have f:h.ins≠0->B9 p id h.ins=ED p id h.ins:=λg=>by unfold B9 ED;by_cases c:p h.ins=true<;>simp[g,c]
 have a1:(decide (B9 p id h.ins≠0)&&rej' (B9 p id h.ins))=(decide (h.ins≠0)&&rej h.ins):=by
  by_cases g:h.ins=0;have:B9 p id h.ins=0:=by unfold B9;simp[g]
  rw[this,g];simp;rw[f g,(hi g).r];have:=l.2 g;rw[f g]at this;simp[g,this]
 have a2:(decide (B9 p id h.ins≠0)&&acc' (B9 p id h.ins))=(decide (h.ins≠0)&&acc h.ins):=by
  by_cases g:h.ins=0;have:B9 p id h.ins=0:=by unfold B9;simp[g]
  rw[this,g];simp;rw[f g,(hi g).a];have:=l.2 g;rw[f g]at this;simp[g,this]
 have a3:(Co (h.dels.map (Ba p id)) h.dels.length).any (λx=>acc' x.rev)=h.dels.any (λx=>acc x.rev):=by
  have e:h.dels.length=(h.dels.map (Ba p id)).length:=(qf ..).symm;rw[Bool.eq_iff_iff,vo,vo];constructor;rintro⟨y,m,c⟩;rw[e,FP _ _ (qa _),ql]at m;obtain⟨x,d,rfl⟩:=m;exact⟨x,d,by rw[<-(i x d).a];exact c⟩;rintro⟨x,d,c⟩;exact⟨Ba p id x,by rw[e,FP _ _ (qa _),ql];exact⟨x,d,rfl⟩,by rw[<-(i x d).a]at c;exact c⟩
 unfold CE;rw[o,q,s,t,a1,a2,a3];by_cases c:((decide (h.ins≠0)&&rej h.ins)||h.dels.any (λx=>acc x.rev))=true;rw[if_pos c,if_pos c];rw[if_neg c,if_neg c];rw[vJ,not_or]at c;have u:∀x∈h.dels,acc x.rev=false:=λx d=>by
  cases g:acc x.rev with
  | false=>rfl
  | true=>exact absurd (vo.2 ⟨x,d,g⟩) c.2
 rw[qf,Uw h.props (h.props,[]) h.layers.length h.layers v,Uu hl hp i u];cases g:(decide (h.ins≠0)&&acc h.ins)with
 | true=>rfl
 | false =>
  have k:B9 p id h.ins=h.ins:=by
   by_cases z:h.ins=0;unfold B9;simp[z];rw[f z];refine(hi z).n ?_ ?_;simpa[z]using g;have:=c.1;simpa[z]using this
  rw[k];rfl
section
variable {l : List Int} {L : List (Int × Int)} {to : Int} {T : List Int}
end
section
variable {l : List Int} {z : Int} {h : AF}
end
section
variable {m2 : List Int} {rev nx : Int} {h : AF} {l : List Int}
variable (hn : nx ∉ m2) (n0 : nx ≠ 0) (r0 : rev ≠ 0) (hl : ∀ y, jF l y = (y == rev || y == nx))
theorem XJ {h:AF} {a:Int} (H:K4 h.dels):E3 (P1 a) a h=h:=by
 have e:∀y:Int,ED (P1 a) a y=y:=λy=>by
  unfold ED P1;split;rename_i c;exact(by simpa using c:y=a).symm;rfl
 have b:B9 (P1 a) a h.ins=h.ins:=by
  unfold B9 P1;split;rename_i c;exact(by simpa using c.2:h.ins=a).symm;rfl
 have f:h.dels.map (Ba (P1 a) a)=h.dels:=by
  conv=>rhs;rw[<-vL h.dels]
  exact qL λd _=>by cases d;simp only[Ba,e,id]
 have g:h.layers.map (Bp (P1 a) a)=h.layers:=by
  conv=>rhs;rw[<-vL h.layers]
  exact qL λd _=>by cases d;simp only[Bp,e,id]
 unfold E3;rw[b,f,g,VX H]
end
def IP (a b:Int):List Int:=if b<a then[b,a]else[a,b]
theorem UX {a b y:Int}:y∈IP a b↔y=a\/y=b:=by unfold IP;split<;>simp<;>omega
section
variable {m2 : List Int} {N K : Nat} {d : AG} {rev : Int}
end
theorem K1 {U:List Int} (a:U.Pairwise (· ≤ ·)) {x:Int}:Dw U x=true↔x∈U:=⟨λh=>RX h,λh=>N0 a h⟩
theorem UW (a b:Int):(IP a b).Pairwise (· ≤ ·):=by unfold IP;split<;>simp<;>omega
theorem Rq {rev nx x:Int} (e:x≠nx) (b:Bool):Jn (ED (λy=>y==rev) nx) (if b then Dw [rev]else λ_=>false) (if b then λ_=>false else Dw [rev]) (if b then Dw (IP rev nx)else λ_=>false) (if b then λ_=>false else Dw (IP rev nx)) x:=by
 have h1:Dw [rev] x=decide (x=rev):=by rw[Bool.eq_iff_iff,K1 (by simp)];simp
 have h2:Dw (IP rev nx) (ED (λy=>y==rev) nx x)=decide (x=rev):=by
  rw[Bool.eq_iff_iff,K1 (UW _ _),UX,decide_eq_true_eq];unfold ED;by_cases c:x=rev;simp[c];simp[c,e]
 have d:x≠rev->ED (λy=>y==rev) nx x=x:=λc=>by unfold ED;simp[c]
 cases b with
 | true=>exact⟨by simp only[if_true];rw[h1,h2],rfl,λa _=>d (by simp only[if_true]at a;rw[h1]at a;simpa using a)⟩
 | false=>exact⟨rfl,by simp only[qn,if_false];rw[h1,h2],λ_ a=>d (by simp only[qn,if_false]at a;rw[h1]at a;simpa using a)⟩
theorem U6 {p:Int->Bool} {id:Int} {K K':Ck} (h0:K.m0=K'.m0) (h1:K.m1=K'.m1) {el:Int} {h:AF} (g:In K el h) (hm:∀x,x∈K.m2->ED p id x∈K'.m2) (hid:id≠0) (inc:K4 (E3 p id h).dels):In K' el (E3 p id h):=by
 have eR:Gg K=Gg K':=LF h0 h1;have i0:(B9 p id h.ins=0↔h.ins=0):=by
  unfold B9;split;rename_i c;exact⟨λe=>absurd e hid,λe=>absurd e c.1⟩;exact Iff.rfl
 have i1:h.ins≠0->B9 p id h.ins=ED p id h.ins:=λg=>by unfold B9 ED;by_cases c:p h.ins=true<;>simp[g,c]
 have e2:(E3 p id h).dels=Co (h.dels.map (Ba p id)) h.dels.length:=rfl;have el2:(E3 p id h).dels.length=h.dels.length:=by rw[e2,Gv,qf]
 refine⟨g.props,λj hj=>?_,?_,?_,by rw[el2];exact g.dlen,λj hj=>?_,?_,λj hj=>?_⟩;have:Ia K'=Ia K:=by funext a b;unfold Ia;rw[eR]
 rw[this];exact g.refs j hj;have:=g.ins;show(decide (B9 p id h.ins≠0) && !decide (B9 p id h.ins∈K'.m2))=false;by_cases z:h.ins=0;rw[i0.2 z];simp;have m:h.ins∈K.m2:=by simpa[Fc,z]using this
 rw[i1 z,decide_eq_true (hm _ m)];simp;have:=g.mv;unfold It at this ⊢;show(!decide (0<=h.move/\h.move<=1073741824)||(decide (h.move≠0)&&decide (B9 p id h.ins=0)))=false;rw[decide_eq_decide.2 i0];exact this;rw[G6 hj];have hmem:(E3 p id h).dels[j]∈(E3 p id h).dels:=qi hj;have all:∀y,y∈(E3 p id h).dels->∃x,x∈h.dels/\Ba p id x=y:=λy hy=>by
  rw[e2,show h.dels.length=(h.dels.map (Ba p id)).length from(qf ..).symm,FP _ _ (qa _),ql]at hy;exact hy
 have hmem2:=all _ hmem;obtain⟨x,hx,ex⟩:=hmem2;obtain⟨k,hk,rfl⟩:=kY hx;obtain⟨b1,_,b3⟩:=(G6 hk).1 (g.dels k hk);have ex':(E3 p id h).dels[j]=Ba p id h.dels[k]:=ex.symm;rw[ex'];refine⟨hm _ b1,λj0=>?_,b3⟩;have:=(kG.1 inc) (j-1) j (by omega) hj (by omega);rw[ex']at this;exact this;show(h.layers.map (Bp p id)).length<=64;rw[qf];exact g.llen
 . have hj':j<h.layers.length:=by have:(E3 p id h).layers.length=h.layers.length:=qf ..;omega
   have:=g.layers j hj';show Jr K' el (h.layers.map (Bp p id)) j=0;rw[Jr,qe hj']at this;rw[Jr,qX,qe hj',qO];dsimp only at this ⊢;by_cases a1:h.layers[j].rev∈K.m2
   case neg=>simp[a1]at this
   rw[decide_eq_true a1]at this;have r1:(Bp p id h.layers[j]).rev=ED p id h.layers[j].rev:=rfl;have r2:(Bp p id h.layers[j]).key=h.layers[j].key:=rfl;have r3:(Bp p id h.layers[j]).before=h.layers[j].before:=rfl;have r4:(Bp p id h.layers[j]).had=h.layers[j].had:=rfl;have r5:((h.layers.map (Bp p id)).getD (j-1) (Bp p id h.layers[j])).key=(h.layers.getD (j-1) h.layers[j]).key:=by
    by_cases q:j-1<h.layers.length;simp[List.getD,q,Bp];simp[List.getD,q,Bp]
   rw[r1,r2,r3,r4,r5,decide_eq_true (hm _ a1),<-eR];exact this
theorem G8 {x:AB} (k:x.kind=1):G7 x=0↔x.code=0/\x.id=0/\x.flow=[]/\x.rows=[]/\A5 x.text=true/\x.text.toList≠[]:=by
 have a1:P6 x=false:=by simp[P6,Wa,k]
 have a2:Ni x=false↔x.code=0/\x.id=0/\x.flow=[]/\x.rows=[]:=by
  simp[Ni,ZK,ZJ,cX,k];constructor;rintro⟨⟨⟨b1,a⟩,b⟩,c⟩;exact⟨b1,a,b,c⟩;rintro⟨b1,a,b,c⟩;exact⟨⟨⟨b1,a⟩,b⟩,c⟩
 have a3:IU x=false↔x.text.toList≠[]:=by simp[IU,k]
 have a4:Kv x=false:=by simp[Kv,k]
 have a5:(U2 x && !Fb x.text)=false:=by simp[U2,k]
 unfold G7;rw[a1,a4,a5];cases c2:Ni x<;>cases c3:A5 x.text<;>cases c4:IU x<;>simp_all
def C2 (δ:AF->Option AF) (d:AG):AG:=⟨AB.rlL δ d.flow,(δ d.«end»).getD DN,d.revs,d.settings⟩
theorem Lb {rej:Int->Bool} {p:Int×Bool}:∀{l:List AM} {now:Int×Bool} {y:AM},y∈(GZ rej p l now).1->∃x∈l,x.rev=y.rev
 | [],_,_,h=>by cases h
 | x::l,now,y,h=>by
  rw[GZ]at h;split at h;obtain⟨z,a,e⟩:=Lb h;exact⟨z,qC _ a,e⟩;rcases qt.1 h with e|e;exact⟨x,qV ..,by rw[e]⟩;obtain⟨z,a,e⟩:=Lb e;exact⟨z,qC _ a,e⟩
theorem Ii {acc rej:Int->Bool} {ps:List Bi}:∀{G:List (List AM)} {o:List Bi×List AM} {y:AM},y∈(G.foldl (CM acc rej ps) o).2->y∈o.2\/∃g∈G,∃x∈g,x.rev=y.rev
 | [],_,_,h=>.inl h
 | g::G,o,y,h=>by
  rw[jy]at h;rcases Ii h with e|⟨k,c,x,a,e⟩
  have e:y∈o.2++(Du acc rej (Ix ps (g.headD ⟨0,0,0,false⟩).key) g).1:=e;rcases qd.1 e with e|e;exact .inl e;obtain⟨x,a,b⟩:=Lb e;exact .inr ⟨g,qV ..,x,(HW a).1,b⟩;exact .inr ⟨k,qC _ c,x,a,e⟩
theorem UD {acc rej:Int->Bool} {h h':AF} (e:CE acc rej h=some h') {y:Int} (h0:y≠0) (b:y∈h'.all):y∈h.all:=by
 unfold CE at e;split at e;cases e;cases e;rw[JZ]at b ⊢;rcases b with g|⟨d,a,g⟩|⟨d,a,g⟩
 left;have g:y=if(decide (h.ins≠0)&&acc h.ins)=true then 0 else h.ins:=g
 split at g;exact absurd g h0;exact g;exact .inr (.inl ⟨d,(kD.1 (show d∈h.dels.filter _ from a)).1,g⟩);rcases Ii (show d∈((C8 h.layers.length h.layers).foldl (CM acc rej h.props) (h.props,[])).2 from a)with q|⟨k,c,x,f,q⟩
 cases q;exact .inr (.inr ⟨x,K0 c f,q.trans g⟩)
theorem Rm {a id:Int} {h:AF} (R:Vs a id h):(h.dels.map (Ba (P1 a) id)).Pairwise λa b=>a.rev≠b.rev:=XI (TH R.inc) R.dels
theorem UP {m2:List Int} {h:AF} (H:Hd m2 h) {y:Int} (h0:y≠0) (b:y∈h.all):y∈m2:=by
 rcases JZ.1 b with e|⟨d,a,e⟩|⟨d,a,e⟩
 exact H.ins.elim (λg=>absurd (e.trans g) h0) λg=>e▸g;exact e▸H.dels d a;exact e▸H.layers d a
section
variable {m2 : List Int} {N K : Nat} {d : AG} {rev : Int} {acc rej acc' rej' : Int → Bool}
theorem WK {nx:Int} (hn:nx∉m2) (n0:nx≠0) (b:∀x,x≠nx->Jn (ED (P1 rev) nx) acc rej acc' rej' x) (hb:∀x,x≠nx->acc' x=acc x/\rej' x=rej x) (mid:Bool) {h:AF} (H:jJ m2 h):CE acc' rej' (gR rev nx mid h)=CE acc rej h:=by
 have hi:h.ins≠0->h.ins≠nx:=λz e=>H.2.ins.elim z λg=>hn (e▸g);have c:∀x∈h.dels,x.rev≠nx:=λx a e=>hn (e▸H.2.dels x a);have d:∀x∈h.layers,x.rev≠nx:=λx a e=>hn (e▸H.2.layers x a);have inc:K4 h.dels:=Wo H.2.inc;cases mid with
 | true=>exact UC (p:=P1 rev) n0 inc (Rm (OA (.inr hn) n0 H.2)) (λz=>b _ (hi z)) (λx a=>b _ (c x a)) λx a=>b _ (d x a)
 | false =>
  show CE acc' rej' h=_;have e:∀x,x≠nx->Jn (ED (P1 nx) nx) acc rej acc' rej' x:=λx a=>by
   have:ED (P1 nx) nx x=x:=by unfold ED P1;split<;>simp_all
   exact⟨by rw[this];exact(hb x a).1,by rw[this];exact(hb x a).2,λ_ _=>this⟩
  have k:=UC (p:=P1 nx) (id:=nx) n0 inc (Rm (OA (.inl rfl) n0 H.2)) (λz=>e _ (hi z)) (λx a=>e _ (c x a)) λx a=>e _ (d x a)
  rwa [XJ inc]at k
theorem YO (c:m2=BU [] (d.revs.map (·.id))) (j:Re N d) (hl:Dq (HK m2) K N d.flow) (U:HK m2 d.«end») (sc:BH) {nx:BC} (h1:Cn nx=0) (h2:(CT d.revs nx.id).2=false) (z:d.revs.length<256)
 (T:∀x,x≠nx.id->Jn (ED (P1 rev) nx.id) acc rej acc' rej' x) (hb:∀x,x≠nx.id->acc' x=acc x/\rej' x=rej x):
 (C2 (CE acc' rej') (Dl N d rev sc nx).normal).normal=(C2 (CE acc rej) d).normal:=by
 have ht:=Jb j;have n0:nx.id≠0:=by have:=OC h1;omega
 have k:=P4 h2;have hn:nx.id∉m2:=λg=>by
  obtain⟨r,f,e⟩:=(Wz c).1 g;exact k r f e
 obtain⟨D,o⟩:∃D,D=Dl N d rev sc nx:=⟨_,rfl⟩
 rw[<-o];have B:D.flow=(AT (gF (gR rev nx.id)) sc N 0 d.flow false ()).1:=by rw[o];unfold Dl BM;rw[Hw]
 have I:D.«end» = d.«end»:=by rw[o];unfold Dl BM;rw[Hw];rfl
 have v:D.revs=FB d.revs (I5 d nx) nx:=by rw[o];rfl
 have J:D.settings=d.settings:=by rw[o];rfl
 have A:SK D.revs:=by
  rw[v];exact(UQ ht k).2.2 z h1
 obtain⟨S,m⟩:∃S,S=D.normal:=⟨_,rfl⟩
 rw[<-m];have p:SK S.revs:=by rw[m];exact IS A _
 have C:S.flow=AO D.flow:=by rw[m];rfl
 have L:S.«end» = d.«end»:=by rw[m];show D.«end» = _;rw[I]
 have M:S.settings=d.settings:=by rw[m];show D.settings=_;rw[J]
 have E:∀r:BC,r.id≠0->(r∈S.revs↔r∈D.revs/\r.id∈AB.usL S.flow++S.«end».all):=λr f=>by rw[m,IM f];rfl
 have W:=Rf c j hl;have w:Dp N d.flow:=Iu (c▸j.flow) hl;have Q:wf (λ_=>True) (λi=>i ≠ -1) N D.flow:=by rw[B];exact LO (λ_ _ _=>trivial) sc N 0 d.flow false W
 have F:wf (λ_=>True) (λi=>i ≠ -1) N S.flow:=by rw[C];exact Jl Q
 have hc:∀mid h,jJ m2 h->CE acc' rej' (gR rev nx.id mid h)=CE acc rej h:=λmid h H=>WK hn n0 T hb mid H;have R:CE acc' rej' d.«end» = CE acc rej d.«end»:=hc false _ ⟨U,c▸j.end⟩;have u:AO (C2 (CE acc' rej') S).flow=AO (C2 (CE acc rej) d).flow:=by
  show AO (AB.rlL _ S.flow)=AO (AB.rlL _ d.flow);rw[(Ub F).normal,(Ub W).normal,C,(LZ _ _).normal,B];exact(NU hc sc N 0 d.flow false W w).normal
 have t:(C2 (CE acc' rej') S).«end» = (C2 (CE acc rej) d).«end»:=by
  show(CE acc' rej' S.«end»).getD DN=_;rw[L,R];rfl
 have n:∀{a r:Int->Bool} {h:AF} {y:Int},y≠0->y∈((CE a r h).getD DN).all->y∈h.all:=fun {a r h y} h0 g=>by
  cases e:CE a r h with
  | none=>
   rw[e]at g;rw[JZ]at g;rcases g with g|⟨d,j,_⟩|⟨d,j,_⟩
   exact absurd g h0;cases j;cases j
  | some h'=>rw[e]at g;exact UD e h0 g
 have l:∀{a r:Int->Bool} {P:AG} {y:Int},wf (λ_=>True) (λi=>i ≠ -1) N P.flow->y≠0->y∈AB.usL (AO (C2 (CE a r) P).flow)++(C2 (CE a r) P).«end».all->y∈AB.usL P.flow++P.«end».all:=fun {a r P y} WP h0 g=>by
  rcases qd.1 g with g|g;exact qD _ (Xh (λh h' e=>UD e h0) WP (MA (Xi (hp':=λ_=>True) (λ_ _ _ _=>trivial) WP) g));exact qB _ (n h0 g)
 have O:wf (λ_=>True) (λi=>i ≠ -1) N d.flow:=Qa (λ_ _=>trivial) (λ_ g=>g) W;refine Z3 u t ?_ M;refine XL (IS p _).2.2 (IS ht _).2.2 λr=>?_;show r∈(C2 (CE acc' rej') S).normal.revs↔r∈(C2 (CE acc rej) d).normal.revs;by_cases b:r.id=0;constructor;intro f;exact absurd b (Tl p (kD.1 f).1);intro f;exact absurd b (Tl ht (kD.1 f).1);rw[IM b,IM b,u,t];refine and_congr_left λs=>?_;show r∈S.revs↔r∈d.revs;have q:=s;rw[<-u,<-t]at q;have V:=l F b q;have G:=l O b s;constructor;intro f;have:=((E r b).1 f).1;rw[v,HD]at this;rcases this with e|e;exfalso;rw[e]at G;rcases qd.1 G with g|g;exact QY (P:=False) (λh H g=>hn (UP H.2 n0 g)) W g;exact hn (UP (c▸j.end) n0 g);exact e;intro f;exact(E r b).2 ⟨by rw[v,HD];exact .inr f,V⟩
end
theorem ID (n:Nat) (h:AF) (b:Bool):closed n (.tup [h.enc,.bool b])=true:=by simp[closed,closedL,AF.enc,AF.flat,Bi.E.closedL,Bs.E.closedL,AM.E.closedL]
theorem Nb (n:Nat) (X:AG):closed n X.enc=true:=by
 have:=Fy n X 0;simp only[closed,closedL,qo]at this;exact this.1
set_option maxHeartbeats 1000000 in
theorem fb {f g:SV} {A R:List Int} (i:IL f A) (l:IL g R) (h:AF) (q:Jp h):PC 206 [h.enc,.agg [f,g]] (.tup [((CE (Dw A) (Dw R) h).getD DN).enc,.bool (CE (Dw A) (Dw R) h).isSome]):=by
 have k:=Zp (de i l) h q;obtain⟨d,c⟩:∃d,CE (Dw A) (Dw R) h=d:=⟨_,rfl⟩
 rw[c]at k ⊢;generalize d.getD DN=x at k ⊢;generalize d.isSome=b at k ⊢;intro hp n;refine DO Tryz.func206 rfl λo=>?_;have a:∀j y,hp j=some y->j<n:=λj y e=>(o j y e).1;refine B8 1 (α:=Nat) (λp=>[(2,.iptr h.flat),(3,.iptr [f,g]),(4,.ptr p 0)]) (λp=>hset hp p (some (.cells [.imm 0 [] true,AA 0,AA 0,.imm 0 [] true,.imm 0 [] true]))) (λp m=>n<=p/\p<m) ?_ (λp m hm=>?_)
 . cases i<;>cases l<;>simp[go_sem,AF.enc,AF.flat,qu]
   all_goals
    refine⟨n+2,by omega,⟨AZ (by simp only[hset];rw[if_neg (by omega)];exact AS a (qa _)) (by simp[hset]),AZ (by simp only[hset];rw[if_neg (by omega)];exact AS a (by omega)) (by simp[hset]),IO⟩,λj y=>?_⟩;have:=a j y;simp only[hset];grind
 refine AJ ?_;simp[go_sem,AF.flat];refine qz (by simpa[AF.enc,AF.flat]using k) ?_;simp[go_sem,AF.enc,AF.flat,AD,Ah];exact A3 o (AL (λj z e=>by have:=a j z e;omega) AC) (by simp[]) (ID n x b)
set_option maxHeartbeats 1000000 in
theorem c89 (h:AF) (g:Jp h):PC 89 [h.enc] (.tup [((CE (λ_=>false) (λ_=>true) h).getD DN).enc,.bool (CE (λ_=>false) (λ_=>true) h).isSome]):=by
 have k:=Zp js h g;obtain⟨d,c⟩:∃d,CE (λ_=>false) (λ_=>true) h=d:=⟨_,rfl⟩
 rw[c]at k ⊢;generalize d.getD DN=x at k ⊢;generalize d.isSome=b at k ⊢;intro hp n;refine DO Tryz.func89 rfl λf=>?_;have a:∀j y,hp j=some y->j<n:=λj y e=>(f j y e).1;refine B8 1 (α:=Nat) (λp=>[(1,.iptr h.flat),(2,.ptr p 0)]) (λp=>hset hp p (some (.cells [.imm 0 [] true,AA 0,AA 0,.imm 0 [] true,.imm 0 [] true]))) (λp m=>n<=p/\p<m) ?_ (λp m hm=>?_);simp[go_sem,AF.enc,AF.flat,qu];refine⟨n+1,by omega,⟨AZ (by simp only[hset];rw[if_neg (by omega)];exact AS a (qa _)) (by simp[hset]),IO⟩,λj y=>?_⟩;have:=a j y;simp only[hset];grind;refine AJ ?_;simp[go_sem,AF.flat];refine qz (by simpa[AF.enc,AF.flat]using k) ?_;simp[go_sem,AF.enc,AF.flat,AD,Ah];exact A3 f (AL (λj z e=>by have:=a j z e;omega) AC) (by simp[]) (ID n x b)
set_option maxHeartbeats 1000000 in
theorem c91 (h:AF) (g:Jp h):PC 91 [h.enc] (.tup [((CE (λ_=>true) (λ_=>false) h).getD DN).enc,.bool (CE (λ_=>true) (λ_=>false) h).isSome]):=by
 have k:=Zp jt h g;obtain⟨d,c⟩:∃d,CE (λ_=>true) (λ_=>false) h=d:=⟨_,rfl⟩
 rw[c]at k ⊢;generalize d.getD DN=x at k ⊢;generalize d.isSome=b at k ⊢;intro hp n;refine DO Tryz.func91 rfl λf=>?_;have a:∀j y,hp j=some y->j<n:=λj y e=>(f j y e).1;refine B8 1 (α:=Nat) (λp=>[(1,.iptr h.flat),(2,.ptr p 0)]) (λp=>hset hp p (some (.cells [.imm 0 [] true,AA 0,AA 0,.imm 0 [] true,.imm 0 [] true]))) (λp m=>n<=p/\p<m) ?_ (λp m hm=>?_);simp[go_sem,AF.enc,AF.flat,qu];refine⟨n+1,by omega,⟨AZ (by simp only[hset];rw[if_neg (by omega)];exact AS a (qa _)) (by simp[hset]),IO⟩,λj y=>?_⟩;have:=a j y;simp only[hset];grind;refine AJ ?_;simp[go_sem,AF.flat];refine qz (by simpa[AF.enc,AF.flat]using k) ?_;simp[go_sem,AF.enc,AF.flat,AD,Ah];exact A3 f (AL (λj z e=>by have:=a j z e;omega) AC) (by simp[]) (ID n x b)
set_option maxHeartbeats 1000000 in
theorem bg {f g:SV} {A R:List Int} (l:IL f A) (o:IL g R) (h:AF) (q:Jp h):PC 205 [h.enc,.iptr [f,g]] (.tup [((CE (Dw A) (Dw R) h).getD DN).enc,.bool (CE (Dw A) (Dw R) h).isSome]):=by
 have k:=fb l o h q;obtain⟨d,c⟩:∃d,CE (Dw A) (Dw R) h=d:=⟨_,rfl⟩
 rw[c]at k ⊢;generalize d.getD DN=x at k ⊢;generalize d.isSome=b at k ⊢;intro hp n;refine DO Tryz.func205 rfl λi=>?_;have a:∀j y,hp j=some y->j<n:=λj y e=>(i j y e).1;refine B8 1 (α:=Nat) (λp=>[(2,.iptr h.flat),(1,.iptr [f,g]),(3,.ptr p 0)]) (λp=>hset hp p (some (.cells [.imm 0 [] true,AA 0,AA 0,.imm 0 [] true,.imm 0 [] true]))) (λp m=>n<=p/\p<m) ?_ (λp m hm=>?_);simp[go_sem,IO,AF.enc,AF.flat,qu];refine⟨n+1,by omega,⟨AZ (by simp only[hset];rw[if_neg (by omega)];exact AS a (qa _)) (by simp[hset]),IO⟩,λj y=>?_⟩;have:=a j y;simp only[hset];grind;refine AJ ?_;simp[go_sem,AF.flat];refine qz (by simpa[AF.enc,AF.flat]using k) ?_;simp[go_sem,AF.enc,AF.flat,AD,Ah];exact A3 i (AL (λj z e=>by have:=a j z e;omega) AC) (by simp[]) (ID n x b)
set_option maxHeartbeats 2000000 in
theorem c90 {g:FuncId} {a b:List SV} {δ:AF->Option AF} {ok:AF->Prop} (F:Xu g a b δ ok) (d:AG) (H:ok d.«end») (c:PC 164 [.fn (.func g) a b,AK d.flow] (AK (AB.rlL δ d.flow))) (f:PC 21 [(C2 δ d).enc] (C2 δ d).normal.enc):
 PC 90 [.fn (.func g) a b,d.enc] (C2 δ d).normal.enc:=by
 have r:=F _ H;obtain⟨Y,B⟩:∃Y,Y=(C2 δ d).normal:=⟨_,rfl⟩
 rw[<-B]at f ⊢;have y:(C2 δ d).flow=AB.rlL δ d.flow:=rfl;have A:(C2 δ d).«end» = (δ d.«end»).getD DN:=rfl;have t:(C2 δ d).revs=d.revs/\(C2 δ d).settings=d.settings:=⟨rfl,rfl⟩
 simp only[AG.enc,y,A,t.1,t.2]at f;generalize(δ d.«end»).getD DN=en at r f;generalize(δ d.«end»).isSome=bb at r;generalize AB.rlL δ d.flow=q at c f;clear y A t B;intro h n;refine DO Tryz.func90 rfl λC=>?_;have p:=C.lt;obtain⟨G,k⟩:∃G:List AB->AF->Hp,∀l x,G l x=hset (hset h n (some (.cells ([AK l]++x.flat++[BE d.revs]++d.settings.flat)))) (n+1) (some (.cells Cq)):=⟨_,λ_ _=>rfl⟩
 have i:∀l x,G l x n=some (.cells ([AK l]++x.flat++[BE d.revs]++d.settings.flat)):=λl x=>by rw[k,AE _ _ (by omega),AD]
 have D:∀l x,G l x (n+1)=some (.cells Cq):=λl x=>by rw[k,AD]
 have u:∀l x v w,hset (G l x) n (some (.cells ([AK v]++w.flat++[BE d.revs]++d.settings.flat)))=G v w:=λl x v w=>by
  rw[k,k];funext j;simp only[hset];grind
 have E:∀l x j z,h j=some z->G l x j=some z:=λl x j z e=>by have:=p j z e;rw[k];simp only[hset];grind
 obtain⟨FN,o⟩:∃FN:SV,FN=.fn (.func g) a b:=⟨_,rfl⟩
 rw[<-o]at c ⊢;refine By 0 [(0,FN),(3,.ptr n 0),(4,.ptr (n+1) 0)] (G d.flow d.«end») (λm=>n+1<m) ?_ (λm s=>?_);rw[k];simp[go_sem,IO,AG.enc,AF.flat,AI.flat,Cq];simp only[AF.flat,AI.flat,qx,qE]at i u;refine By 0 [(0,FN),(3,.ptr n 0),(4,.ptr (n+1) 0)] (G q d.«end») (λm=>n+1<m) ?_ (λm s=>?_);simp[go_sem,i];refine qz c ?_;simp[go_sem,i,u,IO,s];refine By 0 [(3,.ptr n 0),(4,.ptr (n+1) 0)] (G q en) (λm=>n+1<m) ?_ (λm s=>?_);rw[o];simp only[AF.enc,AF.flat,qx,qE,qj]at r;simp[go_sem,i];refine qz r ?_;simp[go_sem,i,u,IO,s];refine AJ ?_;simp[go_sem,i];refine qz (by simpa[AF.flat,AI.flat]using f) ?_;simp[go_sem,D,Cq,AG.enc,AF.flat,AI.flat,AD];exact A3 C (AL (λj z e=>by have:=p j z e;omega) (E _ _)) (by simp[]) (Nb n Y)
set_option maxHeartbeats 2000000 in
theorem c25 (d X:AG) (k:PC 90 [.fn (.func 89) [] [],d.enc] X.enc):PC 25 [d.enc] X.enc:=by
 intro h n;refine DO Tryz.func25 rfl λb=>?_;have a:=b.lt;refine B8 1 (α:=Nat) (λp=>[(1,.iptr ([AK d.flow]++d.«end».flat++[BE d.revs]++d.settings.flat)),(2,.ptr p 0)]) (λp=>hset h p (some (.cells Cq))) (λp m=>n<=p/\p<m) ?_ (λp m hm=>?_);simp[go_sem,AG.enc,AF.flat,AI.flat,Cq,qu];refine⟨n+1,by omega,⟨AZ (by simp only[hset];rw[if_neg (by omega)];exact AS a (qa _)) (by simp[hset]),IO⟩,λj y=>?_⟩;have:=a j y;simp only[hset];grind;refine AJ ?_;simp[go_sem,AF.flat,AI.flat];refine qz (by simpa[AG.enc,AF.flat,AI.flat]using k) ?_;simp[go_sem,Cq,AG.enc,AF.flat,AI.flat,AD,Ah];exact A3 b (AL (λj z e=>by have:=a j z e;omega) AC) (by simp[]) (Nb n X)
set_option maxHeartbeats 2000000 in
theorem c26 (d X:AG) (k:PC 90 [.fn (.func 91) [] [],d.enc] X.enc):PC 26 [d.enc] X.enc:=by
 intro h n;refine DO Tryz.func26 rfl λb=>?_;have a:=b.lt;refine B8 1 (α:=Nat) (λp=>[(1,.iptr ([AK d.flow]++d.«end».flat++[BE d.revs]++d.settings.flat)),(2,.ptr p 0)]) (λp=>hset h p (some (.cells Cq))) (λp m=>n<=p/\p<m) ?_ (λp m hm=>?_);simp[go_sem,AG.enc,AF.flat,AI.flat,Cq,qu];refine⟨n+1,by omega,⟨AZ (by simp only[hset];rw[if_neg (by omega)];exact AS a (qa _)) (by simp[hset]),IO⟩,λj y=>?_⟩;have:=a j y;simp only[hset];grind;refine AJ ?_;simp[go_sem,AF.flat,AI.flat];refine qz (by simpa[AG.enc,AF.flat,AI.flat]using k) ?_;simp[go_sem,Cq,AG.enc,AF.flat,AI.flat,AD,Ah];exact A3 b (AL (λj z e=>by have:=a j z e;omega) AC) (by simp[]) (Nb n X)
set_option maxHeartbeats 2000000 in
theorem bV {c f:SV} {A R:List Int} (g:IL c A) (l:IL f R) (r:Xq A) (gR:Xq R) (s:A=[]\/R=[]) (d X:AG) (k:PC 90 [.fn (.func 205) [] [.iptr [c,f]],d.enc] X.enc):PC 145 [d.enc,.agg [c,f]] (.tup [X.enc,AA 0]):=by
 have b:=fa g l r gR s;intro h n;refine DO Tryz.func145 rfl λq=>?_;have a:=q.lt;obtain⟨D,i⟩:∃D:SV,D=.iptr ([AK d.flow]++d.«end».flat++[BE d.revs]++d.settings.flat):=⟨_,rfl⟩
 refine B8 1 (α:=Nat) (λp=>[(2,D),(3,.iptr [c,f]),(4,.ptr p 0)]) (λp=>hset h p (some (.cells Cq))) (λp m=>n<=p/\p<m) ?_ (λp m o=>?_)
 . rw[i];cases g<;>cases l<;>simp[go_sem,AG.enc,AF.flat,AI.flat,Cq,qu]
   all_goals
    refine⟨n+2,by omega,⟨AZ (by simp only[hset];rw[if_neg (by omega)];exact AS a (qa _)) (by simp[hset]),AZ (by simp only[hset];rw[if_neg (by omega)];exact AS a (by omega)) (by simp[hset]),IO⟩,λj y=>?_⟩;have:=a j y;simp only[hset];grind
 refine Bg 0 [(2,D),(3,.iptr [c,f]),(4,.ptr p 0)] (hset h p (some (.cells Cq))) (λm=>p<m) (AJ ?_) (λm o=>?_);simp[go_sem];refine qz b ?_;simp[go_sem,IO,o];refine AJ ?_;rw[i];simp[go_sem,AF.flat,AI.flat];refine qz (by simpa[AG.enc,AF.flat,AI.flat]using k) ?_;simp[go_sem,Cq,AG.enc,AF.flat,AI.flat,AD,Ah];exact A3 q (AL (λj z e=>by have:=a j z e;omega) AC) (by simp[]) (Fy n X 0)
set_option maxHeartbeats 2000000 in
theorem c80 (d X:AG) (v:SV) (l:List Int) (c:v=.imm 1 (l.map AA) false) (k:PC 145 [d.enc,.agg [v,.imm 0 [] true]] (.tup [X.enc,AA 0])):PC 80 [d.enc,v] (.tup [X.enc,AA 0]):=by
 subst c;intro h n;refine DO Tryz.func80 rfl λb=>?_;have a:=b.lt;refine B8 1 (α:=Nat) (λp=>[(1,.imm 1 (l.map AA) false),(2,.iptr ([AK d.flow]++d.«end».flat++[BE d.revs]++d.settings.flat)),(4,.ptr p 0)]) (λp=>hset h p (some (.cells Cq))) (λp m=>n<=p/\p<m) ?_ (λp m hm=>?_);simp[go_sem,IO,AG.enc,AF.flat,AI.flat,Cq,qu];refine⟨n+1,by omega,⟨AZ (by simp only[hset];rw[if_neg (by omega)];exact AS a (qa _)) (by simp[hset]),IO⟩,λj y=>?_⟩;have:=a j y;simp only[hset];grind;refine AJ ?_;simp[go_sem,AF.flat,AI.flat];refine qz (by simpa[AG.enc,AF.flat,AI.flat]using k) ?_;simp[go_sem,Cq,AG.enc,AF.flat,AI.flat,AD,Ah];exact A3 b (AL (λj z e=>by have:=a j z e;omega) AC) (by simp[]) (Fy n X 0)
set_option maxHeartbeats 2000000 in
theorem c81 (d X:AG) (v:SV) (l:List Int) (c:v=.imm 1 (l.map AA) false) (k:PC 145 [d.enc,.agg [.imm 0 [] true,v]] (.tup [X.enc,AA 0])):PC 81 [d.enc,v] (.tup [X.enc,AA 0]):=by
 subst c;intro h n;refine DO Tryz.func81 rfl λb=>?_;have a:=b.lt;refine B8 1 (α:=Nat) (λp=>[(1,.imm 1 (l.map AA) false),(2,.iptr ([AK d.flow]++d.«end».flat++[BE d.revs]++d.settings.flat)),(4,.ptr p 0)]) (λp=>hset h p (some (.cells Cq))) (λp m=>n<=p/\p<m) ?_ (λp m hm=>?_);simp[go_sem,IO,AG.enc,AF.flat,AI.flat,Cq,qu];refine⟨n+1,by omega,⟨AZ (by simp only[hset];rw[if_neg (by omega)];exact AS a (qa _)) (by simp[hset]),IO⟩,λj y=>?_⟩;have:=a j y;simp only[hset];grind;refine AJ ?_;simp[go_sem,AF.flat,AI.flat];refine qz (by simpa[AG.enc,AF.flat,AI.flat]using k) ?_;simp[go_sem,Cq,AG.enc,AF.flat,AI.flat,AD,Ah];exact A3 b (AL (λj z e=>by have:=a j z e;omega) AC) (by simp[]) (Fy n X 0)
theorem jD:(Bt Tryz.prog 42).map (λf=>(f.name == "_",f.type,f.offset))=[(false,3,0),(false,9,1),(false,3,2)]:=by kernel_rfl
theorem cV (x:BC):CS Tryz.prog [AA x.id,.str x.author,AA x.time] [AA x.id,.str x.author,AA x.time] (Bt Tryz.prog 42)=some true:=by
 rw[Ch,jD];cases x;simp[DG,DX,go_sem]
theorem cZ:(Bt Tryz.prog 115).map (λf=>(f.name == "_",f.type,f.offset))=[(false,3,0),(false,3,1),(false,9,2),(false,3,3),(false,9,4),(false,4,5)]:=by kernel_rfl
theorem Z6 (x:A9):CS Tryz.prog [AA x.id,AA x.parent,.str x.author,AA x.time,.str x.text,.bool x.done] [AA x.id,AA x.parent,.str x.author,AA x.time,.str x.text,.bool x.done] (Bt Tryz.prog 115)=some true:=by
 rw[Ch,cZ];cases x;simp[DG,DX,go_sem]
theorem cb:(Bt Tryz.prog 118).map (λf=>(f.name == "_",f.type,f.offset))=[(false,9,0),(false,9,1)]:=by kernel_rfl
theorem Z7 (x:GY):CS Tryz.prog [.str x.name,.str x.value] [.str x.name,.str x.value] (Bt Tryz.prog 118)=some true:=by
 rw[Ch,cb];cases x;simp[DG,DX,go_sem]
theorem cY:(Bt Tryz.prog 106).map (λf=>(f.name == "_",f.type,f.offset))=[(false,3,0),(false,3,1),(false,9,2),(false,3,3)]:=by kernel_rfl
theorem Z5 (x:Ce):CS Tryz.prog [AA x.format,AA x.start,.str x.template,AA x.restart] [AA x.format,AA x.start,.str x.template,AA x.restart] (Bt Tryz.prog 106)=some true:=by
 rw[Ch,cY];cases x;simp[DG,DX,go_sem]
theorem q59 (l:List BC) (hl:l.length<=1048576):PC 59 [.imm 3 (l.map BC.enc) false,.imm 3 (l.map BC.enc) false] (.bool true):=by
 intro h n;refine gq Tryz.func59 rfl λc=>?_;simp[go_sem];refine Av 1 (α:=Nat) (λk=>[(0,.imm 3 (l.map BC.enc) false),(1,.imm 3 (l.map BC.enc) false),(12,AA l.length),(13,AA k)]) (λ_=>h) (λk m=>k<=l.length/\n<=m) (λk=>l.length-k) 0 ?_ ?_ AC ?_;simp;simp[Ao];rintro k m ⟨hk,b⟩;by_cases a:k<l.length
 . have w1:=wS k (by omega);obtain⟨x,d⟩:∃x,l[k]=x:=⟨_,rfl⟩
   simp[go_sem,a,d,BC.enc]
   repeat first|refine nq ?_|refine sq ?_|refine aq ?_
   refine⟨_,Dx rfl (.inr rfl) (by kernel_rfl) (by kernel_rfl) (by kernel_rfl) rfl rfl (cV x),?_⟩;simp[go_sem]
   repeat first|refine nq ?_|refine sq ?_|refine aq ?_
   simp[go_sem,w1,-Int.natCast_add];exact⟨k+1,by omega,⟨by omega,b⟩,IO⟩
 simp[go_sem,a];exact As c rfl rfl
theorem q62 (l:List A9) (hl:l.length<=1048576):PC 62 [.imm 6 (l.map A9.enc) false,.imm 6 (l.map A9.enc) false] (.bool true):=by
 intro h n;refine gq Tryz.func62 rfl λc=>?_;simp[go_sem];refine Av 1 (α:=Nat) (λk=>[(0,.imm 6 (l.map A9.enc) false),(1,.imm 6 (l.map A9.enc) false),(12,AA l.length),(13,AA k)]) (λ_=>h) (λk m=>k<=l.length/\n<=m) (λk=>l.length-k) 0 ?_ ?_ AC ?_;simp;simp[Ao];rintro k m ⟨hk,b⟩;by_cases a:k<l.length
 . have w1:=wS k (by omega);obtain⟨x,d⟩:∃x,l[k]=x:=⟨_,rfl⟩
   simp[go_sem,a,d,A9.enc]
   repeat first|refine nq ?_|refine sq ?_|refine aq ?_
   refine⟨_,Dx rfl (.inr rfl) (by kernel_rfl) (by kernel_rfl) (by kernel_rfl) rfl rfl (Z6 x),?_⟩;simp[go_sem]
   repeat first|refine nq ?_|refine sq ?_|refine aq ?_
   simp[go_sem,w1,-Int.natCast_add];exact⟨k+1,by omega,⟨by omega,b⟩,IO⟩
 simp[go_sem,a];exact As c rfl rfl
theorem q63 (l:List GY) (hl:l.length<=1048576):PC 63 [.imm 2 (l.map GY.enc) false,.imm 2 (l.map GY.enc) false] (.bool true):=by
 intro h n;refine gq Tryz.func63 rfl λc=>?_;simp[go_sem];refine Av 1 (α:=Nat) (λk=>[(0,.imm 2 (l.map GY.enc) false),(1,.imm 2 (l.map GY.enc) false),(12,AA l.length),(13,AA k)]) (λ_=>h) (λk m=>k<=l.length/\n<=m) (λk=>l.length-k) 0 ?_ ?_ AC ?_;simp;simp[Ao];rintro k m ⟨hk,b⟩;by_cases a:k<l.length
 . have w1:=wS k (by omega);obtain⟨x,d⟩:∃x,l[k]=x:=⟨_,rfl⟩
   simp[go_sem,a,d,GY.enc]
   repeat first|refine nq ?_|refine sq ?_|refine aq ?_
   refine⟨_,Dx rfl (.inr rfl) (by kernel_rfl) (by kernel_rfl) (by kernel_rfl) rfl rfl (Z7 x),?_⟩;simp[go_sem]
   repeat first|refine nq ?_|refine sq ?_|refine aq ?_
   simp[go_sem,w1,-Int.natCast_add];exact⟨k+1,by omega,⟨by omega,b⟩,IO⟩
 simp[go_sem,a];exact As c rfl rfl
theorem q56 (l:List Ce) (hl:l.length<=1048576):PC 56 [.imm 4 (l.map Ce.enc) false,.imm 4 (l.map Ce.enc) false] (.bool true):=by
 intro h n;refine gq Tryz.func56 rfl λc=>?_;simp[go_sem];refine Av 1 (α:=Nat) (λk=>[(0,.imm 4 (l.map Ce.enc) false),(1,.imm 4 (l.map Ce.enc) false),(12,AA l.length),(13,AA k)]) (λ_=>h) (λk m=>k<=l.length/\n<=m) (λk=>l.length-k) 0 ?_ ?_ AC ?_;simp;simp[Ao];rintro k m ⟨hk,b⟩;by_cases a:k<l.length
 . have w1:=wS k (by omega);obtain⟨x,d⟩:∃x,l[k]=x:=⟨_,rfl⟩
   simp[go_sem,a,d,Ce.enc]
   repeat first|refine nq ?_|refine sq ?_|refine aq ?_
   refine⟨_,Dx rfl (.inr rfl) (by kernel_rfl) (by kernel_rfl) (by kernel_rfl) rfl rfl (Z5 x),?_⟩;simp[go_sem]
   repeat first|refine nq ?_|refine sq ?_|refine aq ?_
   simp[go_sem,w1,-Int.natCast_add];exact⟨k+1,by omega,⟨by omega,b⟩,IO⟩
 simp[go_sem,a];exact As c rfl rfl
theorem q61 (l:List GQ) (hl:l.length<=1048576) (g:FuncId) (hg:∀x∈l,PC g [x.enc,x.enc] (.bool true)):PC 61 [.imm 2 (l.map GQ.enc) false,.imm 2 (l.map GQ.enc) false,.fn (.func g) [] []] (.bool true):=by
 intro h n;refine gq Tryz.func61 rfl λb=>?_;simp[go_sem];refine Av 1 (α:=Nat) (λk=>[(1,.imm 2 (l.map GQ.enc) false),(2,.fn (.func g) [] []),(15,.imm 2 (l.map GQ.enc) false),(16,AA l.length),(17,AA k)]) (λ_=>h) (λk m=>k<=l.length/\n<=m) (λk=>l.length-k) 0 ?_ ?_ AC ?_;simp;simp[Ao];rintro k m ⟨hk,hnm⟩;by_cases a:k<l.length
 . have w1:=wS k (by omega);obtain⟨x,c⟩:∃x,l[k]=x:=⟨_,rfl⟩
   have H:=hg x (by rw[<-c];exact qi a);rw[GQ.enc]at H;simp[go_sem,a,c,GQ.enc,AD,AE];refine qz H ?_;simp[go_sem,w1,-Int.natCast_add];exact⟨k+1,by omega,⟨by omega,by omega⟩,IO,by repeat(first|exact AC|refine AR b (by omega) ?_)⟩
 simp[go_sem,a];exact As b rfl rfl
theorem ja (l:List A7) (hl:l.length<=1048576) (g:FuncId) (hg:∀x∈l,PC g [x.enc,x.enc] (.bool true)):PC 128 [.imm 6 (l.map A7.enc) false,.imm 6 (l.map A7.enc) false,.fn (.func g) [] []] (.bool true):=by
 intro h n;refine gq Tryz.func128 rfl λb=>?_;simp[go_sem];refine Av 1 (α:=Nat) (λk=>[(1,.imm 6 (l.map A7.enc) false),(2,.fn (.func g) [] []),(15,.imm 6 (l.map A7.enc) false),(16,AA l.length),(17,AA k)]) (λ_=>h) (λk m=>k<=l.length/\n<=m) (λk=>l.length-k) 0 ?_ ?_ AC ?_;simp;simp[Ao];rintro k m ⟨hk,hnm⟩;by_cases a:k<l.length
 . have w1:=wS k (by omega);obtain⟨x,c⟩:∃x,l[k]=x:=⟨_,rfl⟩
   have H:=hg x (by rw[<-c];exact qi a);rw[A7.enc]at H;simp[go_sem,a,c,A7.enc,AD,AE];refine qz H ?_;simp[go_sem,w1,-Int.natCast_add];exact⟨k+1,by omega,⟨by omega,by omega⟩,IO,by repeat(first|exact AC|refine AR b (by omega) ?_)⟩
 simp[go_sem,a];exact As b rfl rfl
theorem jX (l:List AB) (hl:l.length<=1048576) (g:FuncId) (hg:∀x∈l,PC g [x.enc,x.enc] (.bool true)):PC 123 [.imm 11 (l.map AB.enc) false,.imm 11 (l.map AB.enc) false,.fn (.func g) [] []] (.bool true):=by
 intro h n;refine gq Tryz.func123 rfl λb=>?_;simp[go_sem];refine Av 1 (α:=Nat) (λk=>[(1,.imm 11 (l.map AB.enc) false),(2,.fn (.func g) [] []),(15,.imm 11 (l.map AB.enc) false),(16,AA l.length),(17,AA k)]) (λ_=>h) (λk m=>k<=l.length/\n<=m) (λk=>l.length-k) 0 ?_ ?_ AC ?_;simp;simp[Ao];rintro k m ⟨hk,hnm⟩;by_cases a:k<l.length
 . have w1:=wS k (by omega);obtain⟨x,c⟩:∃x,l[k]=x:=⟨_,rfl⟩
   have H:=hg x (by rw[<-c];exact qi a);rw[qw]at H;simp[go_sem,a,c,qw,AD,AE];refine qz H ?_;simp[go_sem,w1,-Int.natCast_add];exact⟨k+1,by omega,⟨by omega,by omega⟩,IO,by repeat(first|exact AC|refine AR b (by omega) ?_)⟩
 simp[go_sem,a];exact As b rfl rfl
theorem jd (l:List AP) (hl:l.length<=1048576) (g:FuncId) (hg:∀x∈l,PC g [x.enc,x.enc] (.bool true)):PC 191 [.imm 6 (l.map AP.enc) false,.imm 6 (l.map AP.enc) false,.fn (.func g) [] []] (.bool true):=by
 intro h n;refine gq Tryz.func191 rfl λb=>?_;simp[go_sem];refine Av 1 (α:=Nat) (λk=>[(1,.imm 6 (l.map AP.enc) false),(2,.fn (.func g) [] []),(15,.imm 6 (l.map AP.enc) false),(16,AA l.length),(17,AA k)]) (λ_=>h) (λk m=>k<=l.length/\n<=m) (λk=>l.length-k) 0 ?_ ?_ AC ?_;simp;simp[Ao];rintro k m ⟨hk,hnm⟩;by_cases a:k<l.length
 . have w1:=wS k (by omega);obtain⟨x,c⟩:∃x,l[k]=x:=⟨_,rfl⟩
   have H:=hg x (by rw[<-c];exact qi a);rw[kl]at H;simp[go_sem,a,c,kl,AD,AE];refine qz H ?_;simp[go_sem,w1,-Int.natCast_add];exact⟨k+1,by omega,⟨by omega,by omega⟩,IO,by repeat(first|exact AC|refine AR b (by omega) ?_)⟩
 simp[go_sem,a];exact As b rfl rfl
theorem jf (l:List AH) (hl:l.length<=1048576) (g:FuncId) (hg:∀x∈l,PC g [x.enc,x.enc] (.bool true)):PC 258 [.imm 7 (l.map AH.enc) false,.imm 7 (l.map AH.enc) false,.fn (.func g) [] []] (.bool true):=by
 intro h n;refine gq Tryz.func258 rfl λb=>?_;simp[go_sem];refine Av 1 (α:=Nat) (λk=>[(1,.imm 7 (l.map AH.enc) false),(2,.fn (.func g) [] []),(15,.imm 7 (l.map AH.enc) false),(16,AA l.length),(17,AA k)]) (λ_=>h) (λk m=>k<=l.length/\n<=m) (λk=>l.length-k) 0 ?_ ?_ AC ?_;simp;simp[Ao];rintro k m ⟨hk,hnm⟩;by_cases a:k<l.length
 . have w1:=wS k (by omega);obtain⟨x,c⟩:∃x,l[k]=x:=⟨_,rfl⟩
   have H:=hg x (by rw[<-c];exact qi a);rw[kO]at H;simp[go_sem,a,c,kO,AD,AE];refine qz H ?_;simp[go_sem,w1,-Int.natCast_add];exact⟨k+1,by omega,⟨by omega,by omega⟩,IO,by repeat(first|exact AC|refine AR b (by omega) ?_)⟩
 simp[go_sem,a];exact As b rfl rfl
end Go.Proofs.YtgakninlhfkkmaaGreat.Sh
