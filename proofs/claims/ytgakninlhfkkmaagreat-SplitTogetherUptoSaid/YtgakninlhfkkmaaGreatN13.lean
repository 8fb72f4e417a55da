/- A part of the proof (part 13 of 18). -/
import Derived.Test.YtgakninlhfkkmaaGreatN12
namespace Go.Proofs.YtgakninlhfkkmaaGreat.Sh
open Go.Proofs.Tryz
abbrev S3:=@AP.dc_eq
abbrev TB:=@cr.qF
abbrev TP:=@cr.dc_eq
abbrev TX:=@cr.qG
abbrev Ti:=@AB.qG
abbrev vP:=@AP.qF
abbrev wg:=@AB.nrm_mk
open Proofs
def Gh(h h2:Hp)(n:Nat):Prop:=∀c,CF h c->Fr n c->∃c':Cx,c'.w=c.w/\EH c c'/\CF h2 c'/\Fr n c'/\∀j,j<n->c'.ρ j=c.ρ j
theorem Gh.pack{h:Hp}{n p q z:Nat}{es:List SV}{full:Bool}{ty ty2:Option TypeId}(hp:h p=some (.cells [.sl q 0 z es.length full] ty))(d:h q=some (.cells (es.flatMap SV.cells) ty2))(a:es≠[])(b:p≠q):Gh h (h_ (h_ h p (some (.list z es))) q none) n:=
 λ_ R F=>let⟨c',e1,e2,X,R'⟩:=R.pack hp d a b;⟨c',e1,X,R',λj c=>by rw[e2];exact F j c,λj _=>by rw[e2]⟩
theorem Gh.pack0{h:Hp}{n p z:Nat}{ty:Option TypeId}(hp:h p=some (.cells [.i 0 [] true] ty)):Gh h (h_ h p (some (.list z []))) n:=
 λ_ R F=>let⟨c',e1,e2,X,R'⟩:=R.pack0 hp;⟨c',e1,X,R',λj a=>by rw[e2];exact F j a,λj _=>by rw[e2]⟩
section
variable{E:CC}{P:Program}{N:Nat}{code:Code}{Q:Cu}{sa:SA}{h:Hp}{n:Nat}
theorem nN(H:Ic E P N code (λe b h' n'=>∃h2,Gh h' h2 n'/\Q e b h2 n') sa h n):Ic E P N code Q sa h n:=by
 intro t c a I R F A;refine wpIn_mono (H t c a I R F A) ?_;rintro e a' w' ⟨b,h',n',r,⟨h2,g,q⟩,hw,o,l,k,X⟩;obtain⟨s,d,f,p,m,hρ2⟩:=g r o l;refine⟨b,h2,n',s,q,?_,p,m,k.ext f,⟨X.ext.trans f,X.le,λj i=>(hρ2 j (Wm i X.le)).trans (X.same j i)⟩⟩;rw[d];exact hw
end
section
variable{P:Program}
end
set_option maxRecDepth 10000
set_option maxHeartbeats 4000000
def j9:List (Int×Int)->Int×Int->Int->Int
 | [],_,_=>0
 | y::l,x,k=>if y=x then k+1 else j9 l x (k+1)
section
variable(l:List Int)(L:List (Int×Int))(to:Int)
end
section
variable{E:CC}{evs:Operand->SV}{o:Oper}{h:Hp}{n:Nat}{K:SV->Hp->Nat->Prop}
theorem ki{m x:Operand}{q:Nat}{a b:Int}{es:List (SV×SV)}{r:Option (Nat×SV)}(C:o.op=.lookup 155 m x false)(S:evs m=.map q)(T:h q=some (.map es))(U:evs x=.agg [.int .i64 a,.int .i64 b])
 {v:SV} (G:(match r with|some p=>p.2|none=>BK prog 3)=v) (Q:Ga prog 89 [.int .i64 a,.int .i64 b] es 0=some r) (M:K v h n):DS E prog evs o h n K:=by
 subst G;refine⟨by rw[C];simp,λc ev _ _ R F N=>?_⟩;have y:=N m;have k:=N x;rw[S,V]at y;obtain⟨O,hρ,s⟩:=y;rw[U]at k;have u:=Zk k;obtain⟨b',d,f,L,P,g3,_⟩:=R.obj _ _ T;rw[hρ]at L;cases L;have t:(getObj O).run prog c.w=.ok (.map d f) c.w:=by simp[getObj,Sem.run,P]
 have e:prog.underlying 155=some (.map 89 3):=Tryz.underlying155;have l:∀B,(Instr.checkKey B 10000 89 (ev x)).run prog c.w=.ok () c.w:=λB=>by rw[u];exact NR B a b c.w
 have D:(BK prog 3).B=true:=by simp[go_sem]
 obtain⟨i,z,hi,J,I⟩:=CB D;have A:=C3 c z;rw[<-I]at A;rcases Ld ZO k c.w es d.toList 0 r g3 Q with⟨rfl,hg⟩|⟨j,W,X,e2,ds,rfl,hg,H,_,_⟩
 have g:=Gi Tryz.underlying89 hg;refine⟨z,BK prog 3,h,n,c,?_,A,R,F,vm n c,M⟩;simp[execOp,C,Instr.lookup,AN e,s,t,l,g,Ff hi J];have g:=Gi Tryz.underlying89 hg;refine⟨X,W,h,n,c,?_,H,R,F,vm n c,M⟩;simp[execOp,C,Instr.lookup,AN e,s,t,l,g]
theorem lI{m y x:Operand}{q:Nat}{a b:Int}{es:List (SV×SV)}{r:Option (Nat×SV)}(ho:o.op=.mapUpdate 155 m y x)(hm:evs m=.map q)(hq:h q=some (.map es))(hy:evs y=.agg [.int .i64 a,.int .i64 b])(Q:∀p∈es,ZM p)
 {es2:List (SV×SV)} (N:(match r with|some p=>JA es p.1 (.agg [.int .i64 a,.int .i64 b]) (evs x)|none=>es++[(.agg [.int .i64 a,.int .i64 b],evs x)])=es2) (S:Ga prog 89 [.int .i64 a,.int .i64 b] es 0=some r)
 (hk:K (.tup []) (h_ h q (some (.map es2))) n):bL E prog evs o h n K:=by
 subst N;refine⟨by rw[ho];simp,λc ev _ _ R F W=>?_⟩;have B:=W m;have k:=W y;have C:=W x;rw[hm,V]at B;obtain⟨D,hρ,z⟩:=B;rw[hy]at k;have s:=Zk k;obtain⟨Y,g,d,Z,J,g3,hB⟩:=R.obj _ _ hq;rw[hρ]at Z;cases Z;have A:(getObj D).run prog c.w=.ok (.map g d) c.w:=by simp[getObj,Sem.run,J]
 have t:prog.underlying 155=some (.map 89 3):=Tryz.underlying155;have v:∀I,(Instr.checkKey I 10000 89 (ev y)).run prog c.w=.ok () c.w:=λI=>by rw[s];exact NR I a b c.w
 have i:∀X:Obj,(setObj D X).run prog c.w=.ok () { c.w with heap:=c.w.heap.setIfInBounds D X }:=λX=>by
  simp[setObj,Sem.run,J]
 have fin:∀(u:List (SV×SV))(f:Array MapEntry)(clock':Nat),Ag (λ(p:SV×SV)(e:MapEntry)=>V c p.1 e.key/\V c p.2 e.val) u f.toList->IZ f.toList clock'->
  (Instr.mapUpdate 155 (ev m) (ev y) (ev x)).run prog c.w=.ok () { c.w with heap:=c.w.heap.setIfInBounds D (.map f clock') }->K (.tup []) (h_ h q (some (.map u))) n->
  ∃h' n' c',(execOp ev o).run prog c.w=.ok .skip c'.w/\CF h' c'/\Fr n' c'/\GB n c n' c'/\K (.tup []) h' n':=λu f clock' he L hr hK=>by
  obtain⟨R',E'⟩:=Ll (clock':=clock') R hq hρ J he L;exact⟨_,n,_,by simp[execOp,ho,hr],R',F,⟨E',qa n,λ_ _=>rfl⟩,hK⟩
 rcases Ld ZO k c.w es g.toList 0 r g3 S with⟨rfl,hg⟩|⟨j,x2,y2,e2,ds,rfl,hg,hxy,hj,hds,hfe⟩
 have l:=Gi Tryz.underlying89 hg;refine fin _ (g.push { key:=ev y,val:=ev x,born:=d }) (d+1) (by rw[Array.toList_push];exact vh g3 (as':=[(_,evs x)]) ⟨⟨k,C⟩,trivial⟩) (by rw[Array.toList_push];exact hB.push _ rfl) ?_ hk;simp[Instr.mapUpdate,AN t,z,A,v,l,i];have l:=Gi Tryz.underlying89 hg;rw[qU]at S l;obtain⟨G,v',k1,k2⟩:=RG es 0 j x2 (by rw[qU];exact S);obtain⟨a',Y,k3⟩:=Q _ (U1 k1);have M:G=[.int .i64 a',.int .i64 Y]:=by simpa using k3
 have hs:=ac (by rw[M];rfl) k2;obtain⟨H,k4,k5,_⟩:=Ag.get g3 k1;have O:H=e2:=by rw[hj]at k4;exact(Option.some.inj k4).symm
 subst O;simp only[hs]at k5;have P:=Zk k5;have T:g[j]? = some H:=by simpa using hj
 have U:Instr.sameBits 10000 H.key (ev y)=true:=by
  rw[P,s];have:∀n,Instr.sameBits (n+1) (.agg #[.int .i64 a,.int .i64 b]) (.agg #[.int .i64 a,.int .i64 b])=true:=λn=>by simp[Instr.sameBits]
  exact this 9999
 refine fin _ _ d (RE j k C g3) (IZ.modify hB j _ λ_=>rfl) ?_ (by simpa using hk);simp[Instr.mapUpdate,AN t,z,A,v,l,Instr.keyThatStays,T,U,i]
end
def ci:List (Int×Int)->Int->List (SV×SV)
 | [],_=>[]
 | x::l,k=>(Gf x,AA (k+1))::ci l (k+1)
theorem lG(x:Int×Int):∀(L:List (Int×Int))(k:Int)(i:Nat),∃r,Ga prog 89 [.int .i64 x.1,.int .i64 x.2] (ci L k) i=some r/\(match r with|some p=>p.2|none=>BK prog 3)=AA (j9 L x k)
 | [],k,i=>⟨none,rfl,by simp[j9,go_sem]⟩
 | y::L,k,i=>by
  simp only[ci,Ga,Gf,jC,j9];by_cases e:y=x;subst e;rw[if_pos rfl];have a:(y.1==y.1&&y.2==y.2)=true:=by simp
  rw[a];exact⟨_,rfl,rfl⟩;have a:(x.1==y.1&&x.2==y.2)=false:=by
   cases h1:(x.1==y.1)<;>cases h2:(x.2==y.2)<;>simp;exact e (Prod.ext (by simpa using h1:x.1=y.1).symm (by simpa using h2:x.2=y.2).symm)
  rw[a,if_neg e];exact lG x L (k+1) (i+1)
section
variable(l:List Int)(L:List (Int×Int))
def kO(q:List Bs×Bool)(d:Bs):List Bs×Bool:=if jF l d.rev then(if q.2 then q.1++[⟨d.rev,j9 L (d.rev,d.move) 0⟩]else q.1,false)else(q.1++[d],q.2)
def gF(ds:List Bs):List Bs:=(ds.foldl (kO l L) ([],true)).1
def cf(Y:List AM):Nat->List AM
 | 0=>[]
 | i+1=>match Y[i]? with
  | none=>cf Y i
  | some y=>if 0<i/\jF l y.rev=true/\(∀z,Y[i-1]? = some z->jF l z.rev=true/\z.key=y.key)then cf Y i else cf Y i++[y]
def bp(x:AF):AF:={ x with move:=if jF l x.I then j9 L (x.I,x.move) 0 else x.move,Y:=gF l L x.Y,Z:=cf l x.Z x.Z.length }
def jx(to:Int)(x:AF):AF×Bool:=if jF l x.I&&x.Y.any (λd=>jF l d.rev)then(DN,false)else(E3 (jF l) to (bp l L x),true)
theorem kW:∀(a:List Bs)(q:List Bs×Bool),(a.foldl (kO l L) q).1.length<=q.1.length+a.length
 | [],q=>by simp
 | d :: a, q => by
  have h:=kW a (kO l L q d);have h2:(kO l L q d).1.length<=q.1.length+1:=by
   unfold kO;split;split<;>simp;simp
  simp only[J5,qJ];omega
theorem lC(Y:List AM):∀i,(cf l Y i).length<=i
 | 0=>qa _
 | i+1=>by
  have:=lC Y i;rw[cf];split;omega;split;omega;simp;omega
end
def kA(l:List Int)(s:Int×Bool)(d:Bs):Int×Bool:=if jF l d.rev then(s.1+1,s.2||(d.move !=0))else s
def ke(l:List Int)(h:AF):Int×Bool:=if jF l h.I then(1,h.move !=0)else(0,false)
def lY(l:List Int)(h:AF):Bool:=decide (1<(h.Y.foldl (kA l) (ke l h)).1)&&(h.Y.foldl (kA l) (ke l h)).2
theorem om(l:List Int):∀(a:List Bs)(s:Int×Bool),s.1<=(a.foldl (kA l) s).1/\(a.foldl (kA l) s).1<=s.1+a.length
 | [],s=>by simp
 | d::a,s=>by
  have h:=om l a (kA l s d);have h2:s.1<=(kA l s d).1/\(kA l s d).1<=s.1+1:=by unfold kA;split<;>constructor<;>omega
  simp only[J5,qJ];omega
theorem c94(l:List Int)(hl:l.length<=1073741824)(full:Bool)(x:AF)(hx:x.Y.length<=1048576):PC 94 [.i 1 (l.map AA) full,x.e] (.bool (lY l x)):=by
 intro h n;refine DO func94 rfl λk=>?_;have b:=k.lt;obtain⟨I,hI⟩:∃I:SV,I=.i 1 (l.map AA) full:=⟨_,rfl⟩
 have v:=λy=>pZ l hl y full;rw[<-hI]at v ⊢;refine Aa 1 [(0,I),(3,.q x.g)] h n ?_ (λm a=>?_);simp[go_sem,AF.e,AF.g,IO];exact⟨AZ (k.none (by omega)) (by simp[h_]),λj y e=>by have:=b j y e;simp only[h_];grind⟩;refine Aa 0 [(0,I),(3,.q x.g),(5,AA 0),(6,.bool false)] h n ?_ (λm a=>?_);simp[go_sem,IO,a];refine CW 0 [(0,I),(3,.q x.g),(5,AA (ke l x).1),(6,.bool (ke l x).2)] h n (AJ ?_) (λm a=>?_)
 . simp[go_sem,AF.g];refine qz (v x.I) ?_;cases e:jF l x.I with
   | false=>simp[go_sem,ke,e,IO,a]
   | true=>
    simp[go_sem,ke,e]
    repeat first|refine nq ?_|refine sq ?_|refine aq ?_
    simp[go_sem,a]
 obtain⟨S,f⟩:∃S:Nat->Int×Bool,∀i,S i=(x.Y.take i).foldl (kA l) (ke l x):=⟨_,λ_=>rfl⟩
 have o:S 0=ke l x:=by rw[f];rfl
 have s:∀i d,(h:i<x.Y.length)->x.Y[i]=d->S (i+1)=kA l (S i) d:=λi d h g=>by rw[f,f,KH _ _ _ _ _ h g]
 have r:S x.Y.length=x.Y.foldl (kA l) (ke l x):=by rw[f,qm]
 have p:∀i,0<=(S i).1/\(S i).1<=1+i:=λi=>by
  have:=om l (x.Y.take i) (ke l x);have h2:0<=(ke l x).1/\(ke l x).1<=1:=by unfold ke;split<;>simp
  rw[f];have h3:(x.Y.take i).length<=i:=vz _ _;omega
 clear f;refine CW 0 [(5,AA (S x.Y.length).1),(6,.bool (S x.Y.length).2)] h n ?_ (λm a=>?_)
 . refine Aa 0 [(0,I),(5,AA (ke l x).1),(6,.bool (ke l x).2),(20,Ax x.Y),(21,AA x.Y.length),(22,AA 0)] h n ?_ (λm a=>?_);simp[go_sem,AF.g,IO,a];refine AY (BT 0 (α:=Nat) (λi=>[(0,I),(5,AA (S i).1),(6,.bool (S i).2),(20,Ax x.Y),(21,AA x.Y.length),(22,AA i)]) (λ_=>h) (λi m=>i<=x.Y.length/\n<=m) (λi=>x.Y.length-i) 0 ⟨by omega,a⟩ ?_ AC ?_);simp[Ao,o,IO];rintro i m2 ⟨hi,t⟩;by_cases c:i<x.Y.length
   . have w1:=wS i (by omega);have w2:IntKind.i64.wrap ((S i).1+1)=(S i).1+1:=by have:=p i;rw[DA]<;>omega
     obtain⟨d,g⟩:∃d,x.Y[i]=d:=⟨_,rfl⟩
     have u:=s i d c g;refine B5 0 [(0,I),(5,AA (S i).1),(6,.bool (S i).2),(20,Ax x.Y),(21,AA x.Y.length),(22,AA i),(23,.bool true)] h m2 ?_ (λm a=>?_);simp[go_sem,IO,c];subst a;refine B5 0 [(0,I),(5,AA (S i).1),(6,.bool (S i).2),(20,Ax x.Y),(21,AA x.Y.length),(22,AA i)] h m2 ?_ (λm a=>?_);simp[go_sem,IO];subst a;refine AX 0 (α:=Unit) (λ_=>[(0,I),(5,AA (S (i+1)).1),(6,.bool (S (i+1)).2),(20,Ax x.Y),(21,AA x.Y.length),(22,AA i)]) (λ_=>h) (λ_ m=>n<=m) (AY (AJ ?_)) (λ_ m a=>?_)
     . simp[go_sem,c,g,Bs.e,AD,Ah];refine qz (v d.rev) ?_;rw[u,kA];cases e:jF l d.rev with
       | false=>
        simp[go_sem,IO];exact⟨by omega,AL (λj y e=>by have:=b j y e;omega) AC⟩
       | true =>
        have w:∀y,∀j z,h j=some z->h_ h m2 y j=some z:=λy=>AL (λj y e=>by have:=b j y e;omega) AC;cases hb:(S i).2 with
        | false=>
         simp[go_sem]
         repeat first|refine nq ?_|refine sq ?_|refine aq ?_
         simp[go_sem,AD,w2,IO]
         repeat first|refine nq ?_|refine sq ?_|refine aq ?_
         exact w _
        | true=>
         simp[go_sem]
         repeat first|refine nq ?_|refine sq ?_|refine aq ?_
         simp[go_sem,w2,IO]
         repeat first|refine nq ?_|refine sq ?_|refine aq ?_
         exact w _
     refine AJ ?_;simp[go_sem,w1,IO,-Int.natCast_add];exact⟨i+1,by omega,⟨by omega,a⟩,IO,IO,IO⟩
   have:i=x.Y.length:=by omega
   subst this;refine AJ ?_;simp[go_sem,IO,t]
 refine AJ ?_;rw[r];unfold lY;generalize x.Y.foldl (kA l) (ke l x)=q;by_cases e:1<q.1;simp[go_sem,e];exact As k rfl (by simp[]);simp[go_sem,e];exact As k rfl (by simp[])
structure lw(l:List Int)(to:Int)(h:AF):Prop where
 inc:K4 h.Y
 nz:(0:Int)∉l
 Y:∀d∈h.Y,d.rev∉l->d.rev≠to
section
variable{l:List Int}{L:List (Int×Int)}{to:Int}
theorem nE(nz:(0:Int)∉l)(y:Int):jF l y=decide (y∈l):=by
 unfold jF;by_cases c:y∈l;have:y≠0:=λe=>nz (e▸c);simp[c,this];simp[c]
def kD(l:List Int)(ds:List Bs):List Bs:=ds.filter λd=>!jF l d.rev
def lK(l:List Int)(L:List (Int×Int))(to:Int)(ds:List Bs):List Bs:=(ds.filter λd=>jF l d.rev).map λd=>⟨to,j9 L (d.rev,d.move) 0⟩
def kc(l:List Int)(L:List (Int×Int)):List Bs->Bool->List Bs
 | [],_=>[]
 | d::ds,f=>if jF l d.rev=true then(if f then⟨d.rev,j9 L (d.rev,d.move) 0⟩::kc l L ds false else kc l L ds false)else d::kc l L ds f
theorem l9:∀(a:List Bs)(q:List Bs×Bool),(a.foldl (kO l L) q).1=q.1++kc l L a q.2
 | [],q=>by simp[kc]
 | d::a,q=>by
  rw[J5,l9 a,kc];unfold kO;by_cases c:jF l d.rev=true;rw[if_pos c,if_pos c];cases q.2<;>simp;rw[if_neg c,if_neg c];simp
theorem lB:∀ds,kc l L ds false=kD l ds
 | []=>rfl
 | d::ds=>by
  rw[kc,kD,List.filter_cons];by_cases c:jF l d.rev=true;simp[c,lB ds,kD];have c:jF l d.rev=false:=by simpa using c
  simp[c,lB ds,kD]
theorem nw:∀a,(kD l a).map (Ba (jF l) to)=kD l a:=λa=>by
 have:∀d∈kD l a,Ba (jF l) to d=d:=λd b=>by
  have:=(Kq.1 b).2;have c:jF l d.rev=false:=by simpa using this
  unfold Ba ED;rw[c];rfl
 rw[qL this,List.map_id']
theorem mA:∀ds:List Bs,(ds.Pairwise λa b=>a.rev≠b.rev)->(∀d∈ds,jF l d.rev=false->d.rev≠to)->
 (((kc l L ds true).map (Ba (jF l) to)).Pairwise λa b=>a.rev≠b.rev)/\∀y,y∈(kc l L ds true).map (Ba (jF l) to)↔y∈kD l ds++(lK l L to ds).take 1
 | [],_,_=>by simp[kc,kD,lK]
 | d::ds,hp,hd=>by
  obtain⟨o,m⟩:=ve.1 hp;have j:∀y∈kD l ds,y∈ds/\jF l y.rev=false:=λy f=>⟨(Kq.1 f).1,by simpa using(Kq.1 f).2⟩
  by_cases c:jF l d.rev=true;have e:Ba (jF l) to ⟨d.rev,j9 L (d.rev,d.move) 0⟩=⟨to,j9 L (d.rev,d.move) 0⟩:=by unfold Ba ED;rw[if_pos c]
  have h:kD l (d::ds)=kD l ds:=by simp[kD,c]
  have i:(lK l L to (d::ds)).take 1=[⟨to,j9 L (d.rev,d.move) 0⟩]:=by simp[lK,c]
  rw[kc,if_pos c,if_pos rfl,qr,e,lB,nw,h,i];refine⟨ve.2 ⟨λy f=>?_,m.sublist List.filter_sublist⟩,λy=>?_⟩;obtain⟨a,b⟩:=j y f;exact λg=>hd y (Q9 _ a) b g.symm;rw[qt,qd,qy];exact Or.comm;have c:jF l d.rev=false:=by simpa using c
  obtain⟨n,k⟩:=mA ds m λy f=>hd y (Q9 _ f);have e:Ba (jF l) to d=d:=by unfold Ba ED;rw[c];rfl
  have h:kD l (d::ds)=d::kD l ds:=by simp[kD,c]
  have i:lK l L to (d::ds)=lK l L to ds:=by simp[lK,c]
  rw[kc,if_neg (by simp[c]),qr,e,h,i];refine⟨ve.2 ⟨λy f=>?_,n⟩,λy=>?_⟩;rw[k,qd]at f;rcases f with f|f;exact o y (j y f).1;have:=qS f;unfold lK at this;obtain⟨z,_,rfl⟩:=ql.1 this;exact hd d (qV ..) c;rw[qt,k,qx,qt]
end
theorem oI{X:Hp}{n m:Nat}{o:Option Nat}{es:List SV}(H:BR n m 2 o es)(k:∀j,o=some j->X j=some (.cells (es.flatMap SV.cells)))(xs:List (Int×Int))(hroom:es.length+xs.length<=1073741824)(p:Nat):
 (xs=[]/\Al prog X p .append [86,86] [AW 2 o es,.i 2 (xs.map Gf) false]=some { val:=AW 2 o es })\/
 (xs≠[]/\Al prog X p .append [86,86] [AW 2 o es,.i 2 (xs.map Gf) false]=some { val:=.sl p 0 2 (es.length+xs.length) false,upd:=o.map λj=>(j,none),new:=some (.cells (es.flatMap SV.cells++(xs.map Gf).flatMap SV.cells)) }):=by
 have d:BA prog 86=some 89:=by simp[go_sem]
 have e:Br prog 89=2:=by simp[go_sem]
 have f:(BK prog 89).B=true:=by simp[go_sem]
 have g:(BK prog 89).cells.length=2:=by simp[go_sem]
 have i:Bw prog 89<=65536:=by simp[go_sem]
 have h:Ib 89=none:=by rfl
 by_cases c:xs=[];subst c;refine .inl ⟨rfl,?_⟩;simp only[Al,d,vG,if_true,Ec,e,f,g];cases o<;>simp[AW,LT,GW,flat,E8];refine .inr ⟨c,?_⟩;have a:xs.length≠0:=by cases xs<;>simp at c ⊢
 have b:EF (es.length+xs.length) (Bw prog 89)=true:=by simp only[EF,qo,decide_eq_true_eq];exact⟨by omega,i⟩
 simp only[Al,d,vG,if_true,Ec,e,f,g];cases o with
 | none=>
  have l:=H.none rfl;subst l;simp only[vI,qU]at b;simp[AW,LT,GW,flat,a,b,h]
 | some j=>
  have q:=k j rfl;have hl:=BO H.size;simp[AW,LT,GW,flat,q,a,b,Kb h,Bz,hl];rw[qv (by omega)]
theorem oy{G:Hp}{n p z:Nat}{es:List SV}{o:Option Nat}{k m':Nat}(d:BR k m' z o es)(f:∀j y,G j=some y->j<k)(hpk:p<k)(l:es=[]->o=none):Gh (AV o es (h_ G p (some (.cells [AW z o es])))) (h_ G p (some (.list z es))) n:=by
 cases o with
 | none=>
  have i:=d.none rfl;subst i;have:=Gh.pack0 (h:=h_ G p (some (.cells [AW z none []]))) (n:=n) (z:=z) (p:=p) (ty:=none) (AD _ _ _);rw[Ah]at this;exact this
 | some j =>
  have hj:=(d.lt j rfl).1;have c:es≠[]:=λg=>by cases l g
  have a:p≠j:=by omega
  have:=Gh.pack (h:=AV (some j) es (h_ G p (some (.cells [AW z (some j) es])))) (n:=n) (p:=p) (q:=j) (z:=z) (es:=es) (full:=false) (ty:=none) (ty2:=none) (by simp only[AV];rw[AE _ _ a,AD];rfl) (AD _ _ _) c a;have e:h_ (h_ (AV (some j) es (h_ G p (some (.cells [AW z (some j) es])))) p (some (.list z es))) j none=h_ G p (some (.list z es)):=by
   funext q;have m:=f q;simp only[AV,h_];by_cases h1:q=j;have hp:q≠p:=by omega
   rw[if_pos h1,if_neg hp];cases b:G q with
   | none=>rfl
   | some y=>have:=m y b;omega
   rw[if_neg h1,if_neg h1];by_cases h2:q=p;rw[if_pos h2,if_pos h2];rw[if_neg h2,if_neg h2,if_neg h2]
  rw[e]at this;exact this
def me(l:List Int)(s:Bool×List (Int×Int))(x:CI):Bool×List (Int×Int):=(s.1||lY l x.H,s.2++x.H.moves)
def lJ(p q:Nat)(s:Bool×List (Int×Int))(o:Nat):Option Bb:=if o=p then some (.cells [.bool s.1])else if o=q then some (.list 2 (s.2.map Gf))else none
theorem mX{p q n0:Nat}(hp:p<n0)(hq:q<n0)(s:Bool×List (Int×Int)){H:Hp}{n:Nat}(hn:n0<=n)(c:Gm H n):Gm (BD (lJ p q) s H) n:=λo y e=>by
 simp only[BD,lJ]at e;by_cases a:o=p;rw[if_pos a]at e;cases e;exact⟨by omega,rfl⟩;by_cases b:o=q;rw[if_neg a,if_pos b]at e;cases e;exact⟨by omega,lH n s.2⟩;rw[if_neg a,if_neg b]at e;exact c o y e
theorem v93{p q n0:Nat}(w:p≠q)(hp:p<n0)(hq:q<n0)(l:List Int)(hl:l.length<=1073741824)(full:Bool):Zj (lJ p q) n0 93 [] [.ptr p 0,.q [.i 1 (l.map AA) full],.ptr q 0] (me l) (λh=>h.D) (λs=>s.2.length) 1073741824 where
 up s x:=by simp only[me,qq];omega
 lt s o h:=by simp only[lJ];rw[if_neg (by omega),if_neg (by omega)]
 dom s s' o h:=by
  simp only[lJ]at h ⊢;by_cases N:o=p;rw[if_pos N]at h;cases h;by_cases Y:o=q;rw[if_neg N,if_pos Y]at h;cases h;rw[if_neg N,if_neg Y]
 cl s o y h:=by
  have:=mX hp hq s (H:=λ_=>none) (qa n0) (λ_ _ e=>by cases e) o y (by simp only[BD,h]);exact this.2
 call s x H n hx ht hn hs:=by
  refine DO func93 rfl λU=>?_;have C:=U.lt;have c:H p=some (.cells [.bool s.1]):=hs p _ (by simp[lJ]);have Q:H q=some (.list 2 (s.2.map Gf)):=hs q _ (by simp[lJ,w.symm]);obtain⟨X,S⟩:∃X:SV,X=.q (x.H.g++[.bool x.mid,AA x.units]):=⟨_,rfl⟩
  obtain⟨G,Z⟩:∃G:SV,G=.q [.i 1 (l.map AA) full]:=⟨_,rfl⟩
  rw[<-Z];refine Aa 1 [(1,.ptr p 0),(2,G),(3,.ptr q 0),(4,X)] H n ?_ (λm T=>?_);rw[S];simp[go_sem,CI.e,AF.g,IO];exact⟨AZ (U.none (by omega)) (by simp[h_]),AL C AC⟩;obtain⟨b,hb⟩:∃b,b=(s.1||lY l x.H):=⟨_,rfl⟩
  have D:=c94 l hl full x.H hx.Y;refine Aa 0 [(3,.ptr q 0),(4,X)] (h_ H p (some (.cells [.bool b]))) n ?_ (λm T=>?_);cases r:s.1 with
  | true=>
   rw[r]at c;simp[go_sem,c];exact⟨T,by rw[hb,r];exact AC⟩
  | false=>
   rw[r]at c;rw[S,Z];simp[go_sem,c,AF.g];refine qz (by simpa[AF.e,AF.g]using D) ?_;simp[go_sem,c];exact⟨T,by rw[hb,r];exact AC⟩
  obtain⟨B,z⟩:∃B:Hp,B=h_ H p (some (.cells [.bool b])):=⟨_,rfl⟩
  rw[<-z];have u:∀j y,B j=some y->j<n:=λj y e=>by
   rw[z]at e;by_cases h:j=p;omega;rw[AE _ _ h]at e;exact C j y e
  obtain⟨A,k⟩:∃A:List SV,A=s.2.map Gf:=⟨_,rfl⟩
  obtain⟨M,R⟩:∃M:List (Int×Int),M=x.H.moves:=⟨_,rfl⟩
  have P:B q=some (.list 2 A):=by rw[z,AE _ _ w.symm,k];exact Q
  have E:A.length+M.length<=1073741824:=by
   simp only[me,qq]at ht;rw[k,R,qf];omega
  have hc:=iI x.H hx;rw[<-R]at hc;refine mn q (by rw[k];exact kB _) P λo m1 hm1 t V=>?_;refine nN ?_;have hCb:∀v j y,h_ B q (some (.cells [v])) j=some y->j<m:=λv j y e=>by
   by_cases h:j=q;omega;rw[AE _ _ h]at e;have:=u j y e;omega
  have I:∀j,o=some j->q≠j:=λj e=>by have:=(t.lt j e).1;omega
  have fin:∀(h':Hp)(n':Nat),Gh h' (h_ B q (some (.list 2 (A++M.map Gf)))) n'->∃h2,Gh h' h2 n'/\CO n h2 n' (.tup []) (λv h' n'=>v=.tup []/\h'=BD (lJ p q) (me l s x) H/\n'=n):=λh' n' hg=>by
   refine⟨_,hg,?_⟩;have W:me l s x=(b,s.2++M):=by rw[hb,R];rfl
   rw[W];refine DK (mX hp hq (b,s.2++M) hn U) (by simp[cc,ca]) (λj y e=>?_);simp only[BD,lJ]at e;by_cases c1:j=p;subst c1;rw[if_pos rfl]at e;rw[AE _ _ w,z,AD];exact e;by_cases L:j=q;subst L;rw[if_neg c1,if_pos rfl,qc,<-k]at e;rw[AD];exact e;rw[if_neg c1,if_neg L]at e;rw[AE _ _ L,z,AE _ _ c1];exact e
  have K:∀(J:Option Nat)(m' m2:Nat),BR m m' 2 J (A++M.map Gf)->(A++M.map Gf=[]->J=none)->Gh (AV J (A++M.map Gf) (h_ B q (some (.cells [AW 2 J (A++M.map Gf)])))) (h_ B q (some (.list 2 (A++M.map Gf)))) m2:=λJ m' m2 h1 h2=>oy h1 (λj y e=>by have:=u j y e;omega) (by omega) h2;refine CK oC rfl (by kernel_rfl) (by kernel_rfl) ?_;rw[S];rcases oI t (X:=AV o A (h_ B q (some (.cells [AW 2 o A])))) (λj e=>FX j e) M E m1 with⟨a,b1⟩|⟨a,b1⟩
  cases o with
  | none=>
   simp only[AV,AW]at b1;simp[go_sem,oC,AF.g,AV,AW,AD];refine⟨?_,?_⟩ <;>
   . refine qz (by simpa[AF.e,AF.g]using hc) ?_;simp[go_sem,b1,AD,Ah];have:=K none m1 m1 (by simpa[a]using t) (λ_=>rfl);simp only[AV,AW]at this;exact fin _ _ this
  | some j=>
   have d:=I j rfl;have hj:=(t.lt j rfl).1;simp only[AV,AW]at b1;simp[go_sem,oC,AF.g,AV,AW,AD,AE _ _ d];refine⟨?_,?_⟩ <;>
   . refine qz (by simpa[AF.e,AF.g]using hc) ?_;simp[go_sem,b1,AD,AE _ _ d];have:=K (some j) m1 m1 (by simpa[a]using t) (λg=>V (by simpa[a]using g));simp only[AV,AW,a,Yo,JP]at this;have e:h_ (h_ (h_ B q (some (.cells [.sl j 0 2 A.length false]))) j (some (.cells (A.flatMap SV.cells)))) q (some (.cells [.sl j 0 2 A.length false]))=h_ (h_ B q (some (.cells [.sl j 0 2 A.length false]))) j (some (.cells (A.flatMap SV.cells))):=by
      funext i;simp only[h_];grind
     rw[e];exact fin _ _ (by simpa[a]using this)
  have F:q≠m1:=by omega
  have f:BR m (m1+1) 2 (some m1) (A++M.map Gf):=⟨by simp,λj e=>by cases e;omega,λe he=>(qd.1 he).elim (t.size e) (kB M e)⟩
  cases o with
  | none=>
   simp only[AV,AW]at b1;simp[go_sem,oC,AF.g,AV,AW,AD];refine⟨?_,?_⟩ <;>
   . refine qz (by simpa[AF.e,AF.g]using hc) ?_;simp[go_sem,b1,AD,AE _ _ F];have:=K (some m1) (m1+1) (m1+1) f (λg=>by simp[a]at g);simp only[AV,AW,Jk,qq,qf]at this;have e:h_ (h_ (h_ B q (some (.cells [.i 0 [] true]))) m1 (some (.cells (A.flatMap SV.cells++(M.map Gf).flatMap SV.cells)))) q (some (.cells [.sl m1 0 2 (A.length+M.length) false]))=h_ (h_ B q (some (.cells [.sl m1 0 2 (A.length+M.length) false]))) m1 (some (.cells (A.flatMap SV.cells++(M.map Gf).flatMap SV.cells))):=by
      funext i;simp only[h_];grind
     rw[e];exact fin _ _ this
  | some j=>
   have d:=I j rfl;have hj:=(t.lt j rfl).1;simp only[AV,AW]at b1;simp[go_sem,oC,AF.g,AV,AW,AD,AE _ _ d];refine⟨?_,?_⟩ <;>
   . refine qz (by simpa[AF.e,AF.g]using hc) ?_;simp[go_sem,b1,AD,Ah,AE _ _ F,AE _ _ d];have:=K (some m1) (m1+1) (m1+1) f (λg=>by simp[a]at g);simp only[AV,AW,Jk,qq,qf]at this;have hBj:B j=none:=by
      cases O:B j with
      | none=>rfl
      | some y=>have:=u j y O;omega
     have e:h_ (h_ (h_ (h_ B q (some (.cells [.sl j 0 2 A.length false]))) j none) m1 (some (.cells (A.flatMap SV.cells++(M.map Gf).flatMap SV.cells)))) q (some (.cells [.sl m1 0 2 (A.length+M.length) false]))=h_ (h_ B q (some (.cells [.sl m1 0 2 (A.length+M.length) false]))) m1 (some (.cells (A.flatMap SV.cells++(M.map Gf).flatMap SV.cells))):=by
      funext i;simp only[h_];grind
     rw[e];exact fin _ _ this
def ot:Tr:=.pure 0<|.pure 1<|.pure 2<|.pure 3<|.pure 4<|.pure 6<|.pure 7<|.pure 8<|.two 5 9 (.one 9<|.one 10<|.one 11<|.pure 12<|.pure 13<|.one 14 .nil) (.one 5<|.one 10<|.one 11<|.pure 12<|.pure 13<|.one 14 .nil)
def oc:Tr:=.pure 0<|.pure 1<|.pure 2<|.pure 3<|.pure 4<|.pure 5<|.one 6<|.pure 7<|.pure 8<|.pure 9<|.pure 10<|.pure 11<|.pure 12<|.pure 13<|.pure 14<|.pure 15<|.pure 16<|.pure 17<|.pure 18<|.one 19<|.pure 20<|.pure 21<|.pure 22<|.pure 23<|.pure 24<|.pure 25<|.pure 26<|.pure 27<|.pure 28<|.pure 29<|.pure 30<|.pure 31<|.pure 32<|.pure 33<|.pure 34 .nil
def pW:Tr:=.pure 0<|.pure 1<|.pure 2<|.pure 3<|.pure 4<|.pure 5<|.one 6<|.pure 7<|.pure 8<|.pure 9<|.pure 10<|.pure 11<|.pure 12<|.pure 14<|.pure 15<|.one 13<|.pure 16<|.pure 17<|.one 18<|.one 19<|.pure 20<|.pure 21<|.pure 22<|.pure 23<|.pure 24<|.pure 25<|.pure 26<|.pure 27<|.pure 28<|.pure 29<|.pure 30<|.pure 31<|.pure 32<|.pure 33<|.pure 34 .nil
def pX:Tr:=.pure 0<|.pure 1<|.pure 2<|.pure 3<|.pure 4<|.pure 5<|.one 6<|.pure 7<|.pure 8<|.pure 9<|.pure 10<|.pure 11<|.pure 12<|.pure 14<|.pure 15<|.one 13<|.pure 16<|.pure 17<|.one 18<|.one 19<|.pure 20<|.pure 21<|.pure 22<|.pure 23<|.pure 24<|.pure 26<|.pure 27<|.pure 31<|.two 25 32 (.pure 28<|.pure 29<|.two 30 32 (.one 32<|.pure 33<|.pure 34 .nil) (.one 30<|.pure 33<|.pure 34 .nil)) (.one 25<|.pure 28<|.pure 29<|.one 30<|.pure 33<|.pure 34 .nil)
def oY(l:List Int)(own:Bool)(ds:List Bs):Prop:=(own&&ds.any (λd=>jF l d.rev))=false
def mK:List SV:=[.i 0 [] true,AA 0,AA 0,.i 0 [] true,.i 0 [] true]
theorem p6(l:List Int)(hl:l.length<=1073741824)(full:Bool)(L:List (Int×Int))(x:AF)(hs:x.D)(hd:x.Y.length<20)(to:Int){H:Hp}{n k:Nat}(hk:H k=some (.map (ci L 0))):
 BL prog 103 [.i 1 (l.map AA) full,x.e,AA to,.map k] H n (λv h' n'=>v=.tup [(jx l L to x).1.e,.bool (jx l L to x).2]/\h'=H/\n'=n):=by
 refine DO func103 rfl λho=>?_;have V:=ho.lt;have hkn:=V k _ hk;have q1:n≠n+1:=by omega
 obtain⟨I,hI⟩:∃I:SV,I=.i 1 (l.map AA) full:=⟨_,rfl⟩
 have Z:=λy=>pZ l hl y full;rw[<-hI]at Z ⊢;obtain⟨W,hW⟩:∃W:Int->SV->SV->Hp,∀mv g ys,W mv g ys=h_ (h_ H n (some (.cells [AU x.Q,AA x.I,AA mv,g,ys]))) (n+1) (some (.cells mK)):=⟨_,λ_ _ _=>rfl⟩
 have B:∀mv g ys,W mv g ys n=some (.cells [AU x.Q,AA x.I,AA mv,g,ys]):=λmv g ys=>by rw[hW,AE _ _ q1,AD]
 have hWz:∀mv g ys,W mv g ys (n+1)=some (.cells mK):=λmv g ys=>by rw[hW,AD]
 have hWk:∀mv g ys,W mv g ys k=some (.map (ci L 0)):=λmv g ys=>by rw[hW,AE _ _ (by omega),AE _ _ (by omega)];exact hk
 have hWs:∀mv g ys mv' ds' ys',h_ (W mv g ys) n (some (.cells [AU x.Q,AA x.I,AA mv',ds',ys']))=W mv' ds' ys':=λmv g ys mv' ds' ys'=>by
  rw[hW,hW];funext j;simp only[h_];grind
 have s:∀mv g ys j y,W mv g ys j=some y->j<n+2:=λmv g ys j y e=>by
  rw[hW]at e;simp only[h_]at e;split at e;omega;split at e;omega;have:=V j y e;omega
 have hWH:∀mv g ys j y,H j=some y->W mv g ys j=some y:=λmv g ys j y e=>by
  have:=V j y e;rw[hW,AE _ _ (by omega),AE _ _ (by omega)];exact e
 refine By 0 [(0,I),(2,AA to),(3,.map k),(5,.ptr n 0),(8,.ptr (n+1) 0)] (W x.move (Ax x.Y) (Ai x.Z)) (λm=>n+2=m) ?_ (λm f=>?_);rw[hW];simp[go_sem,AF.e,AF.g,IO,mK];subst f;refine By 0 [(0,I),(2,AA to),(3,.map k),(5,.ptr n 0),(8,.ptr (n+1) 0)] (W x.move (Ax x.Y) (Ai x.Z)) (λm=>n+2<=m) ?_ (λm f=>?_);simp[go_sem,B];refine qz (by simpa[AF.e,AF.g]using So x hs) ?_;simp[go_sem,B,hWs,IO];refine By 0 [(0,I),(2,AA to),(3,.map k),(5,.ptr n 0),(8,.ptr (n+1) 0),(10,.ptr n 1)] (W x.move (Ax x.Y) (Ai x.Z)) (λm=>n+2<=m) ?_ (λm f=>?_);simp[go_sem,IO,f];obtain⟨own,O⟩:∃own,own=jF l x.I:=⟨_,rfl⟩
 refine By 0 [(0,I),(2,AA to),(3,.map k),(5,.ptr n 0),(8,.ptr (n+1) 0),(10,.ptr n 1),(11,.bool own)] (W x.move (Ax x.Y) (Ai x.Z)) (λm=>n+2<=m) ?_ (λm f=>?_);simp[go_sem,B];refine qz (Z x.I) ?_;rw[<-O];simp[go_sem,IO,f];obtain⟨mv,R⟩:∃mv,mv=if own then j9 L (x.I,x.move) 0 else x.move:=⟨_,rfl⟩
 refine Bg 0 [(0,I),(2,AA to),(3,.map k),(5,.ptr n 0),(8,.ptr (n+1) 0),(10,.ptr n 1),(11,.bool own)] (W mv (Ax x.Y) (Ai x.Z)) (λm=>n+2<=m) ?_ (λm f=>?_);cases T:own with
 | false=>
  rw[T]at R;refine AJ ?_;simp[go_sem,IO,f,R]
 | true=>
  rw[T]at R;obtain⟨r,hr1,hr2⟩:=lG (x.I,x.move) L 0 0;refine By 0 [(0,I),(2,AA to),(3,.map k),(5,.ptr n 0),(8,.ptr (n+1) 0),(10,.ptr n 1),(11,.bool true),(28,.bool true)] (W x.move (Ax x.Y) (Ai x.Z)) (λm=>n+2<=m) ?_ (λm f=>?_);simp[go_sem,IO,f];refine Au (b:=true) (by simp[go_sem]) ?_;rw[if_pos rfl];refine CK ot rfl (by kernel_rfl) (by kernel_rfl) ?_;simp[go_sem,ot,B,Cc];rw[if_pos rfl]at R;refine⟨?_,?_⟩ <;>
  . refine ki (q:=k) (a:=x.I) (b:=x.move) rfl (by simp[go_sem]) (hWk _ _ _) (by simp[go_sem]) hr2 hr1 ?_;rw[<-R];simp[go_sem,B,hWs,IO];omega
 obtain⟨S,hS⟩:∃S:Nat->List Bs×Bool,∀i,S i=(x.Y.take i).foldl (kO l L) ([],true):=⟨_,λ_=>rfl⟩
 have hS0:S 0=([],true):=by rw[hS];rfl
 have hSs:∀i d,(h:i<x.Y.length)->x.Y[i]=d->S (i+1)=kO l L (S i) d:=λi d h hd=>by rw[hS,hS,KH _ _ _ _ _ h hd]
 have hSl:(S x.Y.length).1=gF l L x.Y:=by rw[hS,qm];rfl
 have hSn:∀i,(S i).1.length<=i:=λi=>by
  rw[hS];have h1:=kW l L (x.Y.take i) ([],true);have h2:(x.Y.take i).length<=i:=vz _ _;simp at h1;omega
 clear hS;refine By 0 [(0,I),(2,AA to),(3,.map k),(5,.ptr n 0),(8,.ptr (n+1) 0),(10,.ptr n 1),(11,.bool own),(12,.i 0 [] true)] (W mv (Ax x.Y) (Ai x.Z)) (λm=>n+2<=m) ?_ (λm f=>?_);simp[go_sem,IO,f];refine By 0 [(0,I),(2,AA to),(3,.map k),(5,.ptr n 0),(8,.ptr (n+1) 0),(10,.ptr n 1),(11,.bool own),(12,.i 0 [] true),(13,.bool true)] (W mv (Ax x.Y) (Ai x.Z)) (λm=>n+2<=m) ?_ (λm f=>?_);simp[go_sem,IO,f];refine Bg 1 [(0,I),(2,AA to),(5,.ptr n 0),(8,.ptr (n+1) 0),(10,.ptr n 1),(12,Ax (gF l L x.Y))] (W mv (Ax x.Y) (Ai x.Z)) (λm=>n+2<=m/\oY l own x.Y) ?_ (λm f=>?_);refine By 0 [(0,I),(2,AA to),(3,.map k),(5,.ptr n 0),(8,.ptr (n+1) 0),(10,.ptr n 1),(11,.bool own),(12,.i 0 [] true),(13,.bool true),(46,Ax x.Y),(47,AA x.Y.length),(48,AA 0)] (W mv (Ax x.Y) (Ai x.Z)) (λm=>n+2<=m) ?_ (λm f=>?_);simp[go_sem,B,IO,f];refine AY (BT 0 (α:=Nat×Option Nat) (λq=>[(0,I),(2,AA to),(3,.map k),(5,.ptr n 0),(8,.ptr (n+1) 0),(10,.ptr n 1),(11,.bool own),(12,AW 2 q.2 ((S q.1).1.map Bs.e)),(13,.bool (S q.1).2),(46,Ax x.Y),(47,AA x.Y.length),(48,AA q.1)])
  (λq=>AV q.2 ((S q.1).1.map Bs.e) (W mv (Ax x.Y) (Ai x.Z))) (λq m=>q.1<=x.Y.length/\n+2<=m/\BR (n+2) m 2 q.2 ((S q.1).1.map Bs.e)/\oY l own (x.Y.take q.1)) (λq=>x.Y.length-q.1) (0,none) ⟨by omega,f,by simp only[hS0];exact vA _ _ _,by simp[oY]⟩ ?_ ?_ ?_)
 simp[Ao,hS0,AW,IO];simp only[hS0];exact AC;clear f m;rintro⟨i,o⟩ m ⟨hi,f,A,K⟩;dsimp only at hi A K ⊢;have hEn:((S i).1.map Bs.e).length<=i:=by rw[qf];exact hSn i
 by_cases C:i<x.Y.length;have w1:=wS i (by omega);obtain⟨d,hd'⟩:∃d,x.Y[i]=d:=⟨_,rfl⟩
 have U:=hSs i d C hd';have htk:(x.Y.take (i+1)).any (λd=>jF l d.rev)=((x.Y.take i).any (λd=>jF l d.rev)||jF l d.rev):=by
  rw[qb C,hd'];simp
 generalize Q:(S i).1.map Bs.e=E at A hEn ⊢;have J:∀j y,AV o E (W mv (Ax x.Y) (Ai x.Z)) j=some y->j<m:=G0 (s _ _ _) f A;refine B5 0 [(0,I),(2,AA to),(3,.map k),(5,.ptr n 0),(8,.ptr (n+1) 0),(10,.ptr n 1),(11,.bool own),(12,AW 2 o E),(13,.bool (S i).2),(46,Ax x.Y),(47,AA x.Y.length),(48,AA i),(49,.bool true)] (AV o E (W mv (Ax x.Y) (Ai x.Z))) m ?_ (λm' D=>?_);simp[go_sem,IO,C];subst D;refine B5 0 [(0,I),(2,AA to),(3,.map k),(5,.ptr n 0),(8,.ptr (n+1) 0),(10,.ptr n 1),(11,.bool own),(12,AW 2 o E),(13,.bool (S i).2),(46,Ax x.Y),(47,AA x.Y.length),(48,AA i)] (AV o E (W mv (Ax x.Y) (Ai x.Z))) m ?_ (λm' D=>?_);simp[go_sem,IO];subst D;refine AX 0 (α:=Option Nat) (λo=>[(0,I),(2,AA to),(3,.map k),(5,.ptr n 0),(8,.ptr (n+1) 0),(10,.ptr n 1),(11,.bool own),(12,AW 2 o ((S (i+1)).1.map Bs.e)),(13,.bool (S (i+1)).2),(46,Ax x.Y),(47,AA x.Y.length),(48,AA i)]) (λo=>AV o ((S (i+1)).1.map Bs.e) (W mv (Ax x.Y) (Ai x.Z)))
  (λo m=>n+2<=m/\BR (n+2) m 2 o ((S (i+1)).1.map Bs.e)/\oY l own (x.Y.take (i+1))) ?_ (λo m f=>?_)
 refine AY ?_;refine B8 0 (α:=Nat) (λp=>[(0,I),(2,AA to),(3,.map k),(5,.ptr n 0),(8,.ptr (n+1) 0),(10,.ptr n 1),(11,.bool own),(12,AW 2 o E),(13,.bool (S i).2),(46,Ax x.Y),(47,AA x.Y.length),(48,AA i),(15,.ptr p 0)]) (λp=>h_ (AV o E (W mv (Ax x.Y) (Ai x.Z))) p (some (.cells [AA d.rev,AA d.move]))) (λp m'=>m<=p/\p+1=m') ?_ (λp m' D=>?_);simp[go_sem,IO,C,hd',Bs.e,AD,Ah];exact⟨m,by omega,rfl,AC⟩;obtain⟨hmp,rfl⟩:=D;have push:∀(e:Bs)(q r:Nat)(X:Hp),m<=q->q<r->(∀j y,AV o E (W mv (Ax x.Y) (Ai x.Z)) j=some y->X j=some y)->X q=some (.cells e.e.cells)->
  ∃out,Al prog X r .append [24,24] [AW 2 o E,.sl q 0 2 1 true]=some out/\∃o',BR (n+2) (if out.new.isSome=true then r+1 else r) 2 o' (E++[e.e])/\out.val=AW 2 o' (E++[e.e])/\∀(j:Nat)(y:Bb),AV o' (E++[e.e]) (W mv (Ax x.Y) (Ai x.Z)) j=some y->(C5.app X r out) j=some y:=λe q r X h1 h2 h3 h4=>by
  refine⟨_,Fa (P:=prog) (es:=E) (e:=e.e) (o:=o) (t:=24) (t2:=24) (el:=166) (z:=2) (by simp[go_sem]) (by simp[go_sem]) (by simp[go_sem]) (by simp) (by simp[go_sem]) (by simp[go_sem]) (by simp[go_sem]) (by omega) A rfl h4 (λj e=>h3 j _ (FX j e)) r,some r,?_,?_,?_⟩;simpa using A.push (j:=r) (m':=r+1) (e:=e.e) (by rfl) (by rfl) (by omega) (by omega);simp[AW];exact D7 (p:=r) (v:=.sl r 0 2 (E.length+1) false) (e:=e.e) (s mv (Ax x.Y) (Ai x.Z)) (by omega) A (H:=X) (λj y e=>h3 j y (Eb (s _ _ _) A j y e))
 cases e:jF l d.rev with
 | false=>
  have u:S (i+1)=((S i).1++[d],(S i).2):=by rw[U,kO,e];rfl
  simp only[u,qc,Q,qr,Yo];refine AJ ?_;simp[go_sem,AD];refine qz (Z d.rev) ?_;rw[e];simp[go_sem,AD];have N:oY l own (x.Y.take (i+1)):=by unfold oY at K ⊢;rw[htk,e,Bool.or_false];exact K
  have kp:∀y z,∀j w,AV o E (W mv (Ax x.Y) (Ai x.Z)) j=some w->h_ (h_ (AV o E (W mv (Ax x.Y) (Ai x.Z))) p y) (p+1) z j=some w:=λy z j w e=>by have:=J j w e;rw[AE _ _ (by omega),AE _ _ (by omega)];exact e
  obtain⟨out,b1,o',b2,b3,b4⟩:=push d (p+1) (p+1+1) (h_ (h_ (AV o E (W mv (Ax x.Y) (Ai x.Z))) p (some (.cells [AA d.rev,AA d.move]))) (p+1) (some (.cells [AA d.rev,AA d.move]))) (by omega) (by omega) (kp _ _) (by simp[AD,Bs.e,SV.cells]);simp[go_sem,b1,b3];exact⟨o',⟨by split<;>omega,b2,N⟩,rfl,b4⟩
 | true =>
  have hrd:jF l d.rev=true:=e;refine Bg 0 [(0,I),(2,AA to),(3,.map k),(5,.ptr n 0),(8,.ptr (n+1) 0),(10,.ptr n 1),(11,.bool own),(12,AW 2 o E),(13,.bool (S i).2),(46,Ax x.Y),(47,AA x.Y.length),(48,AA i),(15,.ptr p 0)] (h_ (AV o E (W mv (Ax x.Y) (Ai x.Z))) p (some (.cells [AA d.rev,AA d.move]))) (λm'=>p+1<=m') (AJ ?_) (λm1 F=>?_);simp[go_sem,AD];refine qz (Z d.rev) ?_;rw[e];simp[go_sem,IO];refine Bg 0 [(0,I),(2,AA to),(3,.map k),(5,.ptr n 0),(8,.ptr (n+1) 0),(10,.ptr n 1),(11,.bool own),(12,AW 2 o E),(13,.bool (S i).2),(46,Ax x.Y),(47,AA x.Y.length),(48,AA i),(15,.ptr p 0)] (h_ (AV o E (W mv (Ax x.Y) (Ai x.Z))) p (some (.cells [AA d.rev,AA d.move]))) (λm'=>p+1<=m'/\own=false) (AJ ?_) (λm1 F=>?_);cases T:own with
  | false=>simp[go_sem,IO,F]
  | true =>
   have hz:h_ (AV o E (W mv (Ax x.Y) (Ai x.Z))) p (some (.cells [AA d.rev,AA d.move])) (n+1)=some (.cells mK):=by
    rw[AE _ _ (by omega)];exact Eb (s _ _ _) A _ _ (hWz _ _ _)
   simp[go_sem,hz,mK,AD];have hc:jx l L to x=(DN,false):=by
    have hx:x.Y.any (λd=>jF l d.rev)=true:=vo.2 ⟨d,by rw[<-hd'];exact qi C,hrd⟩;unfold jx;rw[<-O,T,hx];rfl
   rw[hc];refine oa (h:=H) (r:=.tup [DN.e,.bool false]) 3 ho (.inr ⟨.inr ⟨Bj (by simp),IO,IO,Bj (by simp),Bj (by simp),trivial⟩,IO,trivial⟩) (by simp[cc,ca,AF.e,AF.g,DN]) (λj y e=>?_);have:=V j y e;rw[AE _ _ (by omega),AE _ _ (by omega)];exact Eb (s _ _ _) A _ _ (hWH _ _ _ j y e)
  obtain⟨F,T⟩:=F;have N:oY l own (x.Y.take (i+1)):=by rw[oY,T];rfl
  cases hf:(S i).2 with
  | false=>
   have u:S (i+1)=((S i).1,false):=by rw[U,kO,e,if_pos rfl,hf];rfl
   simp only[u,Q];refine AJ ?_;simp[go_sem,IO];exact⟨o,⟨by omega,A.mono (by omega),N⟩,IO,AL (λj y e=>by have:=J j y e;omega) AC⟩
  | true =>
   have u:S (i+1)=((S i).1++[⟨d.rev,j9 L (d.rev,d.move) 0⟩],false):=by rw[U,kO,e,if_pos rfl,hf];rfl
   simp only[u,qc,Q,qr,Yo];obtain⟨r,hr1,hr2⟩:=lG (d.rev,d.move) L 0 0;have hmk:h_ (AV o E (W mv (Ax x.Y) (Ai x.Z))) p (some (.cells [AA d.rev,AA d.move])) k=some (.map (ci L 0)):=by
    rw[AE _ _ (by omega)];exact Eb (s _ _ _) A _ _ (hWk _ _ _)
   refine AJ ?_;simp[go_sem,AD,Cc];refine ki (q:=k) (a:=d.rev) (b:=d.move) rfl (by simp[go_sem]) hmk (by simp[go_sem]) hr2 hr1 ?_;simp[go_sem,AD,Ah];have kp:∀y z,∀j w,AV o E (W mv (Ax x.Y) (Ai x.Z)) j=some w->h_ (h_ (AV o E (W mv (Ax x.Y) (Ai x.Z))) p y) m1 z j=some w:=λy z j w e=>by have:=J j w e;rw[AE _ _ (by omega),AE _ _ (by omega)];exact e
   obtain⟨out,b1,o',b2,b3,b4⟩:=push ⟨d.rev,j9 L (d.rev,d.move) 0⟩ m1 (m1+1) (h_ (h_ (AV o E (W mv (Ax x.Y) (Ai x.Z))) p (some (.cells [AA d.rev,AA (j9 L (d.rev,d.move) 0)]))) m1 (some (.cells [AA d.rev,AA (j9 L (d.rev,d.move) 0)]))) (by omega) (by omega) (kp _ _) (by simp[AD,Bs.e,SV.cells]);simp[go_sem,b1,b3];exact⟨o',⟨by split<;>omega,b2,N⟩,rfl,b4⟩
 refine AJ ?_;simp[go_sem,w1,IO,-Int.natCast_add];exact⟨i+1,by omega,o,⟨by omega,f.1,f.2.1,f.2.2⟩,⟨rfl,rfl,rfl⟩,AC⟩;have:i=x.Y.length:=by omega
 subst this;rw[qm]at K;rw[hSl]at A ⊢;refine AJ ?_;simp[go_sem,IO];exact⟨⟨f,K⟩,AW.fz' (λj hj=>AS (s _ _ _) hj) A AC,Eb (s _ _ _) A⟩;obtain⟨f,K⟩:=f;obtain⟨g,hds⟩:∃g,g=gF l L x.Y:=⟨_,rfl⟩
 rw[<-hds];refine By 0 [(0,I),(2,AA to),(5,.ptr n 0),(8,.ptr (n+1) 0),(10,.ptr n 1)] (W mv (Ax g) (Ai x.Z)) (λm=>n+2<=m) ?_ (λm f=>?_);simp[go_sem,B,hWs,IO,f];refine By 0 [(0,I),(2,AA to),(5,.ptr n 0),(8,.ptr (n+1) 0),(10,.ptr n 1),(16,.i 0 [] true)] (W mv (Ax g) (Ai x.Z)) (λm=>n+2<=m) ?_ (λm f=>?_);simp[go_sem,IO,f];have hYn:=lC l x.Z;refine Bg 1 [(0,I),(2,AA to),(5,.ptr n 0),(8,.ptr (n+1) 0),(10,.ptr n 1),(16,Ai (cf l x.Z x.Z.length))] (W mv (Ax g) (Ai x.Z)) (λm=>n+2<=m) ?_ (λm f=>?_);refine By 0 [(0,I),(2,AA to),(5,.ptr n 0),(8,.ptr (n+1) 0),(10,.ptr n 1),(16,.i 0 [] true),(84,Ai x.Z),(85,AA x.Z.length),(86,AA 0)] (W mv (Ax g) (Ai x.Z)) (λm=>n+2<=m) ?_ (λm f=>?_);simp[go_sem,B,IO,f];refine AY (BT 0 (α:=Nat×Option Nat) (λq=>[(0,I),(2,AA to),(5,.ptr n 0),(8,.ptr (n+1) 0),(10,.ptr n 1),(16,AW 4 q.2 ((cf l x.Z q.1).map AM.e)),(84,Ai x.Z),(85,AA x.Z.length),(86,AA q.1)])
  (λq=>AV q.2 ((cf l x.Z q.1).map AM.e) (W mv (Ax g) (Ai x.Z))) (λq m=>q.1<=x.Z.length/\n+2<=m/\BR (n+2) m 4 q.2 ((cf l x.Z q.1).map AM.e)) (λq=>x.Z.length-q.1) (0,none) ⟨by omega,f,vA _ _ _⟩ ?_ ?_ ?_)
 simp[Ao,AW,cf,IO];exact AC;clear f m;rintro⟨i,o⟩ m ⟨hi,f,A⟩;dsimp only at hi A ⊢;have hEn:((cf l x.Z i).map AM.e).length<=i:=by rw[qf];exact hYn i
 have hly:=hs.Z;by_cases C:i<x.Z.length;have w1:=wS i (by omega);have w2:0<i->IntKind.i64.wrap ((i:Int)-1)=((i-1:Nat):Int):=λ_=>by rw[DA]<;>omega
 obtain⟨y,hy⟩:∃y,x.Z[i]=y:=⟨_,rfl⟩
 obtain⟨c,hc⟩:∃c:Bool,c=decide (0<i/\jF l y.rev=true/\(∀z,x.Z[i-1]? = some z->jF l z.rev=true/\z.key=y.key)):=⟨_,rfl⟩
 have U:cf l x.Z (i+1)=if c then cf l x.Z i else cf l x.Z i++[y]:=by
  rw[cf,qe C,hy,hc];simp only[decide_eq_true_eq]
 generalize Q:(cf l x.Z i).map AM.e=E at A hEn ⊢;have J:∀j y,AV o E (W mv (Ax g) (Ai x.Z)) j=some y->j<m:=G0 (s _ _ _) f A;have hXn:AV o E (W mv (Ax g) (Ai x.Z)) n=some (.cells [AU x.Q,AA x.I,AA mv,Ax g,Ai x.Z]):=Eb (s _ _ _) A _ _ (B _ _ _);generalize hX:AV o E (W mv (Ax g) (Ai x.Z))=X at J hXn ⊢;refine B5 0 [(0,I),(2,AA to),(5,.ptr n 0),(8,.ptr (n+1) 0),(10,.ptr n 1),(16,AW 4 o E),(84,Ai x.Z),(85,AA x.Z.length),(86,AA i),(87,.bool true)] X m ?_ (λm' D=>?_);simp[go_sem,IO,C];subst D;refine B5 0 [(0,I),(2,AA to),(5,.ptr n 0),(8,.ptr (n+1) 0),(10,.ptr n 1),(16,AW 4 o E),(84,Ai x.Z),(85,AA x.Z.length),(86,AA i)] X m ?_ (λm' D=>?_);simp[go_sem,IO];subst D;refine AX 0 (α:=Option Nat) (λo=>[(0,I),(2,AA to),(5,.ptr n 0),(8,.ptr (n+1) 0),(10,.ptr n 1),(16,AW 4 o ((cf l x.Z (i+1)).map AM.e)),(84,Ai x.Z),(85,AA x.Z.length),(86,AA i)]) (λo=>AV o ((cf l x.Z (i+1)).map AM.e) (W mv (Ax g) (Ai x.Z)))
  (λo m=>n+2<=m/\BR (n+2) m 4 o ((cf l x.Z (i+1)).map AM.e)) ?_ (λo m f=>?_)
 refine AY ?_;refine Aa 1 [(0,I),(2,AA to),(5,.ptr n 0),(8,.ptr (n+1) 0),(10,.ptr n 1),(16,AW 4 o E),(84,Ai x.Z),(85,AA x.Z.length),(86,AA i),(17,AA i),(18,.q [AA y.rev,AA y.key,AA y.before,.bool y.had])] X m ?_ (λm1 F=>?_);simp[go_sem,IO,C,hy,AM.e,AD,Ah];exact⟨AZ (AS J (qa _)) (AD _ _ _),AL J AC⟩;refine Gz ?_;refine CW 0 [(0,I),(2,AA to),(5,.ptr n 0),(8,.ptr (n+1) 0),(10,.ptr n 1),(16,AW 4 o E),(84,Ai x.Z),(85,AA x.Z.length),(86,AA i),(18,.q [AA y.rev,AA y.key,AA y.before,.bool y.had]),(125,.bool c)] X m ?_ (λm2 hm2=>?_);by_cases i0:i=0;refine CK oc rfl (by kernel_rfl) (by kernel_rfl) ?_;have M:c=false:=by rw[hc,i0];simp
 rw[M];simp[go_sem,oc,i0,IO,F];have i1:0<i:=by omega
 have i2:=w2 (by omega);obtain⟨z,hz⟩:∃z,x.Z[i-1]=z:=⟨_,rfl⟩
 have hz':x.Z[i-1]? = some z:=by rw[qe (by omega),hz]
 have hzl:i-1<x.Z.length:=by omega
 cases Y:jF l y.rev with
 | false=>
  refine CK oc rfl (by kernel_rfl) (by kernel_rfl) ?_;have M:c=false:=by rw[hc,Y];simp
  rw[M];simp[go_sem,oc,i1];refine qz (Z y.rev) ?_;rw[Y];simp[go_sem,IO,F]
 | true =>
  cases hz1:jF l z.rev with
  | false=>
   refine CK pW rfl (by kernel_rfl) (by kernel_rfl) ?_;have M:c=false:=by rw[hc,hz'];simp[hz1]
   rw[M];simp[go_sem,pW,i1];refine qz (Z y.rev) ?_;rw[Y];simp[go_sem,hXn,i2,hzl,hz,AM.e];refine qz (Z z.rev) ?_;rw[hz1];simp[go_sem,IO,F]
  | true=>
   refine CK pX rfl (by kernel_rfl) (by kernel_rfl) ?_;have M:c=decide (z.key=y.key):=by rw[hc,hz',Y];simp[hz1];omega
   rw[M];simp[go_sem,pX,i1];refine qz (Z y.rev) ?_;rw[Y];simp[go_sem,hXn,i2,hzl,hz,AM.e];refine qz (Z z.rev) ?_;rw[hz1];simp[go_sem,hXn,i2,hzl,hz,AM.e,IO,F];rw[show(z.key==y.key)=decide (z.key=y.key)from rfl];exact IO
 cases hcb:c with
 | true=>
  have u:cf l x.Z (i+1)=cf l x.Z i:=by rw[U,hcb,if_pos rfl]
  simp only[u,Q];refine Au (b:=true) (by simp[go_sem]) (AJ ?_);simp[go_sem,IO];exact⟨o,⟨by omega,A.mono (by omega)⟩,rfl,by rw[hX];exact AC⟩
 | false=>
  have u:cf l x.Z (i+1)=cf l x.Z i++[y]:=by rw[U,hcb];rfl
  simp only[u,qc,Q,qr,Yo];refine Au (b:=false) (by simp[go_sem]) ?_;simp only[qn,if_false];refine Hi ?_;rw[Fm];refine AJ ?_;simp[go_sem];have h4:h_ X m2 (some (.cells [AA y.rev,AA y.key,AA y.before,.bool y.had])) m2=some (.cells y.e.cells):=by simp[AD,AM.e,SV.cells]
  have h3:∀j w,X j=some w->h_ X m2 (some (.cells [AA y.rev,AA y.key,AA y.before,.bool y.had])) j=some w:=λj w e=>by have:=J j w e;rw[AE _ _ (by omega)];exact e
  have b1:=Fa (P:=prog) (es:=E) (e:=y.e) (o:=o) (t:=25) (t2:=25) (el:=164) (z:=4) (by simp[go_sem]) (by simp[go_sem]) (by simp[go_sem]) (by simp) (by simp[go_sem]) (by simp[go_sem]) (by simp[go_sem]) (by omega) A rfl h4 (λj e=>h3 j _ (by rw[<-hX];exact FX j e)) (m2+1);have b4:=D7 (p:=m2+1) (v:=.sl (m2+1) 0 4 (E.length+1) false) (e:=y.e) (s mv (Ax g) (Ai x.Z)) (by omega) A (H:=h_ X m2 (some (.cells [AA y.rev,AA y.key,AA y.before,.bool y.had]))) (λj w e=>h3 j w (by rw[<-hX];exact Eb (s _ _ _) A j w e));have b2:=A.push (j:=m2+1) (m':=m2+1+1) (e:=y.e) (by rfl) (by rfl) (by omega) (by omega);rw[b1];have hvv:AW 4 (some (m2+1)) (E++[y.e])=.sl (m2+1) 0 4 (E.length+1) false:=by simp[AW]
  refine⟨some (m2+1),⟨by simp;omega,by simpa using b2⟩,by rw[hvv];exact IO,b4⟩
 refine AJ ?_;simp[go_sem,w1,IO,-Int.natCast_add];exact⟨i+1,by omega,o,⟨by omega,f.1,f.2⟩,⟨rfl,rfl⟩,AC⟩;have:i=x.Z.length:=by omega
 subst this;refine AJ ?_;simp[go_sem,IO];exact⟨f,AW.fz' (λj hj=>AS (s _ _ _) hj) A AC,Eb (s _ _ _) A⟩;obtain⟨ys,hys⟩:∃ys,ys=cf l x.Z x.Z.length:=⟨_,rfl⟩
 rw[<-hys];refine By 0 [(0,I),(2,AA to),(5,.ptr n 0),(8,.ptr (n+1) 0)] (W mv (Ax g) (Ai ys)) (λm=>n+2<=m) ?_ (λm f=>?_);simp[go_sem,B,hWs,IO,f];obtain⟨G,hG⟩:∃G:AF,G=bp l L x:=⟨_,rfl⟩
 have hGe:G.e=.agg [AU x.Q,AA x.I,AA mv,Ax g,Ai ys]:=by
  rw[hG,R,hds,hys,O];rfl
 have hc:jx l L to x=(E3 (jF l) to G,true):=by
  unfold oY at K;unfold jx;rw[<-O,K,hG];rfl
 have kG:PC 47 [G.e,AA to,.fn (.func 92) [I] []] (E3 (jF l) to G).e:=by
  have h1:=kW l L x.Y ([],true);have h2:=hYn x.Z.length;have h3:(gF l L x.Y).length<=x.Y.length:=by simpa[gF]using h1
  refine iJ G ⟨by rw[hG];exact hs.Q,by rw[hG];show(gF l L x.Y).length<=_;omega,by rw[hG];show(cf l x.Z x.Z.length).length<=_;have:=hs.Z;omega⟩ (by rw[hG];show(gF l L x.Y).length<20;omega) (λy=>by simpa using Z y) to
 rw[hGe]at kG;rw[hc];refine AJ ?_;simp[go_sem,B];refine qz kG ?_;simp[go_sem,AF.e,AF.g,hWz,mK,AD];exact DK ho (by simp[cc,ca,Bi.E.ca,Bs.E.ca,AM.E.ca]) (λj y e=>by have:=V j y e;rw[AE _ _ (by omega)];exact hWH _ _ _ j y e)
def oh(l:List Int)(L:List (Int×Int))(to:Int)(s:Unit)(p:CI):AF×Bool×Unit:=((jx l L to p.H).1,(jx l L to p.H).2,s)
def mH(q:Nat)(L:List (Int×Int))(_:Unit)(o:Nat):Option Bb:=if o=q then some (.map (ci L 0))else none
theorem mQ(n:Nat):∀(L:List (Int×Int))(k:Int),BW n (.map (ci L k))=true
 | [],k=>rfl
 | x::L,k=>by
  have:=mQ n L (k+1);simp only[BW]at this ⊢;rw[ci,List.all_cons,this];rfl
theorem qC{q n0:Nat}(hq:q<n0)(l:List Int)(hl:l.length<=1073741824)(full:Bool)(L:List (Int×Int))(r:BC):Pn (mH q L) n0 102 [] [.q [.i 1 (l.map AA) full],.q [AA r.id,.str r.O,AA r.time],.q [.map q]] (oh l L r.id) (λh=>h.D/\h.Y.length<20) where
 lt s o h:=by simp only[mH];rw[if_neg (by omega)]
 dom s s' o h:=h
 cl s o y h:=by
  simp only[mH]at h;split at h;cases h;exact mQ _ _ _;cases h
 call s p H n hp _ hn hs:=by
  have a:H q=some (.map (ci L 0)):=hs q _ (by simp[mH]);have d:BD (mH q L) (oh l L r.id s p).2.2 H=H:=by
   funext j;simp only[BD,mH];by_cases c:j=q;rw[if_pos c,c,a];rw[if_neg c]
  rw[d];refine DO func102 rfl λf=>?_;have b:=f.lt;have g:n+1≠n:=by omega
  refine AJ ?_;simp[go_sem,CI.e,AF.g,AD,AE _ _ g.symm];refine qP (by simpa[AF.e,AF.g,mK]using p6 l hl full L p.H hp.1 hp.2 r.id (H:=h_ (h_ H n (some (.cells [AU p.H.Q,AA p.H.I,AA p.H.move,Ax p.H.Y,Ai p.H.Z,.bool p.mid,AA p.units]))) (n+1) (some (.cells mK))) (n:=n+1+1) (k:=q) (by rw[AE _ _ (by omega),AE _ _ (by omega)];exact a)) ?_;rintro v H' n' ⟨rfl,rfl,rfl⟩;simp[go_sem,AD,AF.e,AF.g,Ah];exact DK f (by simp[cc,ca,Bi.E.ca,Bs.E.ca,AM.E.ca]) (λj y e=>by have:=b j y e;rw[AE _ _ (by omega),AE _ _ (by omega)];exact e)
def kJ(s:List AF)(p:CI):List AF:=s++[p.H]
def la(N:Nat)(d:AG):List AF:=(pN (zF kJ) Sd N d []).2
section
variable{N K:Nat}{d:AG}{m2:List Int}
theorem n9{hp:AF->Prop}(hl:Dq hp K N d.W)(a:Re N d):∀f∈Eh 0 d.W Ko,f.id=Sd.id->¬HG Sd f.items:=λf b e=>by
 have s1:=mf Ko hl;have:((Ew d).map Fl.id).Sublist (0::GU N d.W):=s1.cons_cons _;have c:=this.mem (ql.2 ⟨f,b,rfl⟩);have e2:f.id = -1:=e;rcases qt.1 c with g|g;omega;have:=(a.ids _ g).1;omega
theorem mi{hp:AF->Prop}(hl:Dq hp K N d.W)(a:Re N d)(l:List Int):(BM (C1 (me l)) Sd N d d.V (false,[])).2=((la N d).any (lY l),(la N d).flatMap AF.moves):=by
 have e:=p9 (me l) Sd N 0 d.W Ko (false,[]) a.W (λh=>by have:=(a.ids _ h).1;omega) a.nodup (λi hi=>(a.ids i hi).1) (n9 hl a);have r:=ld (λ(s:Bool×List (Int×Int))(t:List AF)=>s=(t.any (lY l),t.flatMap AF.moves)) (zF (me l)) (zF kJ) (λs t p g=>by
  show me l s p=_;unfold me zF kJ;dsimp only;rw[g];simp) N 0 d.W Sd false (false,[]) [] rfl
 have b:(BM (C1 (me l)) Sd N d d.V (false,[])).2=me l (AT (C1 (me l)) Sd N 0 d.W false (false,[])).2 ⟨d.T0,false,1⟩:=rfl;have c:la N d=(ch (zF kJ) N 0 d.W Sd false []).2++[d.T0]:=rfl;rw[b,e,r,c];unfold me;simp
open Classical in
theorem nv{hp:AF->Prop}{T:Int->Prop}(b:∀i,T i->i ≠ -1)(W:wf hp T N d.W)(j:hp d.T0):(∀h∈la N d,hp h)/\(la N d).length<=wN N d.W+1:=by
 have a:la N d=(ch (zF kJ) N 0 d.W Sd false []).2++[d.T0]:=rfl;have h1:=lF (f:=zF kJ) (rk:=λs:List AF=>if ∀h∈s,hp h then 0 else 1) (k:=0) (λs p g=>by
  show(if ∀h∈s++[p.H],hp h then 0 else 1)<=(if ∀h∈s,hp h then 0 else 1)+0;by_cases c:∀h∈s,hp h;rw[if_pos c,if_pos (λh a=>?_)];exact qa _;rcases qd.1 a with q|q;exact c h q;rw[qy.1 q];exact g;rw[if_neg c];split<;>omega) b N 0 d.W false [] W (.inr (by decide))
 have h2:=lF (f:=zF kJ) (rk:=λs:List AF=>s.length) (k:=1) (λs p g=>by simp[zF,kJ]) b N 0 d.W false [] W (.inr (by decide));rw[a];refine⟨λh l=>?_,by simp at h2 ⊢;omega⟩;have e:∀h∈(ch (zF kJ) N 0 d.W Sd false []).2,hp h:=by
  by_cases c:∀h∈(ch (zF kJ) N 0 d.W Sd false []).2,hp h;exact c;rw[if_neg c]at h1;simp at h1
 rcases qd.1 l with q|q;exact e h q;rw[qy.1 q];exact j
end
section
variable{hp hp':AF->Prop}{T:Int->Prop}
theorem Qb{N:Nat}(H:wf hp T N []):wf hp' T N []:=by
 cases N with
 | zero=>exact H.elim
 | succ N=>exact Ts N
end
section
variable{hp:AF->Prop}{T:Int->Prop}
variable{g:Bool->AF->AF}
end
section
variable{hp:AF->Prop}{T:Int->Prop}{σ:Type}{f:σ->CI->AF×Bool×σ}
end
theorem MA{hp:AF->Prop}{T:Int->Prop}{y:Int}:∀{N:Nat} {l:List AB},wf hp T N l->y∈AB.U (AO l)->y∈AB.U l
 | 0,_,h,_=>h.elim
 | N + 1, l, W, hy => by
  have e:∀x∈l,y∈(AB.N x).us->y∈x.us:=λx j h=>by
   obtain⟨a,b,c,d,e,w,v⟩:=DR.1 W x j;have i:=HE (x:=x) λr i=>(v r i).2.1;obtain⟨f1,_,_,_,f5,f6,_⟩:=WY x;have us:∀z:AB,z.us=z.H.all++(if z.k=6 then AB.U z.W else if z.k=7 then AP.U z.R else[]):=λz=>by cases z;rw[AB.us];rfl
   rw[us]at h ⊢;rw[f1,f5,f6,i]at h;rcases qd.1 h with h|h;exact qD _ h;refine Qj _ ?_;split at h;rename_i k;rw[if_pos k];exact MA w h;rename_i k;rw[if_neg k];split at h;rename_i k7;rw[if_pos k7];rw[Ji,QD]at h ⊢;obtain⟨r',h1,h2⟩:=h;obtain⟨r,i,rfl⟩:=ql.1 h1;refine⟨r,i,?_⟩;have o:∀z:AP,z.us=z.H.all++cr.U z.cells:=λz=>by cases z;rw[AP.us];rfl
   rw[o]at h2 ⊢;rw[(wb r).1,(wb r).2]at h2;rcases qd.1 h2 with h2|h2;exact qD _ h2;refine Qj _ ?_;rw[LN,QD]at h2 ⊢;obtain⟨c',m,g⟩:=h2;obtain⟨z,f,rfl⟩:=ql.1 m;refine⟨z,f,?_⟩;have n:∀z:cr,z.us=z.H.all++AB.U z.W:=λz=>by cases z;rw[cr.us];rfl
   rw[n]at g ⊢;rw[(Tq z).1,(Tq z).2.2]at g;rcases qd.1 g with g|g;exact qD _ g;exact Qj _ (MA ((v r i).2.2 z f).2.2 g);cases h
  rw[L9,QD]at hy ⊢;obtain⟨z,f,h⟩:=hy;have:=Gr (p:=λz:AB=>y∈z.us->∃x∈l,y∈x.us) (λx t h=>by cases x;rw[AB.us]at h ⊢;exact h) (l.map AB.N) [] (λz f=>by cases f) λz f=>by
   obtain⟨x,j,rfl⟩:=ql.1 f;exact λh=>⟨x,j,e x j h⟩
  refine this z ?_ h;unfold AO Cy at f
  rwa [Ve]at f
section
variable{c:AF->AF}{y:Int}(hc:∀ h,y ∈ (c h).all->y ∈ h.all)
include hc
end
mutual
def AB.rl(δ:AF->Option AF):AB->Option AB
 | .mk k c i t h f r=>(δ h).bind λh'=>if k=6 then some (.mk k c i t h' (AB.rlL δ f) r)else if k=7 then(if(AP.rlL δ r).length=0 then none else some (.mk k c i t h' f (AP.rlL δ r)))else some (.mk k c i t h' f r)
def AB.rlL(δ:AF->Option AF):List AB->List AB
 | []=>[]
 | x::l=>(AB.rl δ x).toList++AB.rlL δ l
def AP.rl(δ:AF->Option AF):AP->Option AP
 | .mk h c=>(δ h).bind λh'=>if(cr.rlL δ c).length=0 then none else some (.mk h' (cr.rlL δ c))
def AP.rlL(δ:AF->Option AF):List AP->List AP
 | []=>[]
 | x::l=>(AP.rl δ x).toList++AP.rlL δ l
def cr.rl(δ:AF->Option AF):cr->Option cr
 | .mk i h f=>(δ h).map λh'=>.mk i h' (AB.rlL δ f)
def cr.rlL(δ:AF->Option AF):List cr->List cr
 | []=>[]
 | x::l=>(cr.rl δ x).toList++cr.rlL δ l
end
section
variable(δ:AF->Option AF)
theorem AB.rlL_eq:∀l:List AB,AB.rlL δ l=l.filterMap (AB.rl δ)
 | []=>by rw[AB.rlL];rfl
 | x::l=>by rw[AB.rlL,AB.rlL_eq l,CN]
theorem AP.rlL_eq:∀l:List AP,AP.rlL δ l=l.filterMap (AP.rl δ)
 | []=>by rw[AP.rlL];rfl
 | x::l=>by rw[AP.rlL,AP.rlL_eq l,CN]
theorem cr.rlL_eq:∀l:List cr,cr.rlL δ l=l.filterMap (cr.rl δ)
 | []=>by rw[cr.rlL];rfl
 | x::l=>by rw[cr.rlL,cr.rlL_eq l,CN]
theorem AB.rl_eq(x:AB):AB.rl δ x=(δ x.H).bind λh'=>if x.k=6 then some (.mk x.k x.code x.id x.x h' (AB.rlL δ x.W) x.R)else if x.k=7 then(if(x.R.filterMap (AP.rl δ)).length=0 then none else some (.mk x.k x.code x.id x.x h' x.W (x.R.filterMap (AP.rl δ))))else some (.mk x.k x.code x.id x.x h' x.W x.R):=by
 cases x;rw[AB.rl,AP.rlL_eq];rfl
theorem AP.rl_eq(x:AP):AP.rl δ x=(δ x.H).bind λh'=>if(x.cells.filterMap (cr.rl δ)).length=0 then none else some (.mk h' (x.cells.filterMap (cr.rl δ))):=by cases x;rw[AP.rl,cr.rlL_eq];rfl
theorem cr.rl_eq(x:cr):cr.rl δ x=(δ x.H).map λh=>.mk x.id h (AB.rlL δ x.W):=by cases x;rw[cr.rl];rfl
end
section
variable{δ:AF->Option AF}{hp:AF->Prop}{T:Int->Prop}
theorem Ub:∀{N:Nat} {l:List AB},wf hp T N l->F3 (AB.rlL δ l) (AB.dcL δ l)
 | 0,_,h=>h.elim
 | N + 1, l, W => by
  rw[AB.rlL_eq,Ti];refine F3.fm λx o=>?_;obtain⟨a,b,c,d,e,w,q⟩:=DR.1 W x o;have i:∀r∈x.R,Cs ((AP.rl δ r).toList.map AP.N)=Cs ((AP.dc δ r).toList.map AP.N):=λr n=>by
   obtain⟨u1,u2,t⟩:=q r n;have hc:(r.cells.filterMap (cr.rl δ)).map cr.N=(r.cells.filterMap (cr.dc δ)).map cr.N:=by
    rw[He,He];refine GI λz s=>?_;rw[cr.rl_eq,TP];cases δ z.H with
    | none=>rfl
    | some h'=>
     simp only[qO];rw[TB,TB];show some (cr.mk z.id h' (AO (AB.rlL δ z.W)))=some (cr.mk z.id h' (AO (AB.dcL δ z.W)));rw[(Ub (t z s).2.2).normal]
   have g:(r.cells.filterMap (cr.rl δ)).length=(r.cells.filterMap (cr.dc δ)).length:=by
    have:=congrArg List.length hc
    rwa [qf,qf]at this
   rw[AP.rl_eq,S3];cases δ r.H with
   | none=>rfl
   | some h'=>
    simp only[qK,qO];by_cases z:(r.cells.filterMap (cr.rl δ)).length=0;rw[if_pos z];show[]=Cs [AP.N (AP.mk h' (r.cells.filterMap (cr.dc δ)))];unfold Cs;rw[VX];rfl;rw[IN];show ¬(!decide ((r.cells.filterMap (cr.dc δ)).length=0))=true;rw[<-g,z];simp;rw[if_neg z];show Cs [AP.N (AP.mk h' (r.cells.filterMap (cr.rl δ)))]=Cs [AP.N (AP.mk h' (r.cells.filterMap (cr.dc δ)))];rw[vP,vP];show Cs [AP.mk h' ((r.cells.filterMap (cr.rl δ)).map cr.N)]=Cs [AP.mk h' ((r.cells.filterMap (cr.dc δ)).map cr.N)];rw[hc]
  have f:∀l:List AP,(∀r∈l,Cs ((AP.rl δ r).toList.map AP.N)=Cs ((AP.dc δ r).toList.map AP.N))->Cs ((l.filterMap (AP.rl δ)).map AP.N)=Cs ((l.filterMap (AP.dc δ)).map AP.N):=λl=>by
   induction l with
   | nil=>intro _;rfl
   | cons r l ih=>
    intro h;rw[CN,CN,qc,qc,Hr,Hr,h r (qV ..),ih λy p=>h y (Q9 _ p)]
  have k:=f x.R i;have m:AO (AB.rlL δ x.W)=AO (AB.dcL δ x.W):=(Ub w).normal;rw[AB.rl_eq,AB.dc_eq];cases δ x.H with
  | none=>exact .refl _
  | some h'=>
   simp only[qK,qO];by_cases k6:x.k=6;rw[if_pos k6];refine F3.one ?_;simp only[qO];rw[wg,wg,m,c (by rw[k6];decide)];rfl;rw[if_neg k6];have f0:x.W=[]:=b k6;have j:AB.dcL δ x.W=[]:=by rw[f0,AB.dcL]
   by_cases k7:x.k=7;rw[if_pos k7];by_cases z:(x.R.filterMap (AP.rl δ)).length=0;rw[if_pos z];intro Z;show Z=AQ Z (AB.N _);rw[wg,<-k,vu z];unfold AQ;rw[if_pos (.inl ⟨k7,rfl⟩)];rw[if_neg z];refine F3.one ?_;simp only[qO];rw[wg,wg,k,j,f0];rw[if_neg k7];refine F3.one ?_;simp only[qO];rw[wg,wg,j,f0,c k7];rfl
theorem Xi{hp':AF->Prop}(j:∀h h',hp h->δ h=some h'->hp' h'):∀{N:Nat} {l:List AB},wf hp T N l->wf hp' T N (AB.rlL δ l)
 | 0,_,h=>h.elim
 | N+1,l,W=>by
  rw[AB.rlL_eq];refine DR.2 λy B=>?_;obtain⟨x,A,e⟩:=Yp.1 B;obtain⟨a,b,c,d,u,w,q⟩:=DR.1 W x A;rw[AB.rl_eq,Yc]at e;obtain⟨h',t,e⟩:=e;have a':=j _ _ a t;have w':=Xi j w;by_cases k6:x.k=6;rw[if_pos k6]at e;cases e;refine⟨a',λk=>absurd k6 k,c,d,u,w',λr f=>?_⟩;have:x.R=[]:=c (by rw[k6];decide);have f:r∈x.R:=f;rw[this]at f;cases f;rw[if_neg k6]at e;by_cases k7:x.k=7;rw[if_pos k7]at e;split at e;cases e;rename_i z;cases e;refine⟨a',b,λk=>absurd k7 k,λ_ g=>z ?_,λk=>absurd k k6,?_,λr f=>?_⟩;have g:x.R.filterMap (AP.rl δ)=[]:=g;rw[g];rfl;show wf hp' T N x.W;rw[b k6]at w ⊢;exact Qb w;obtain⟨r0,h0,i⟩:=Yp.1 (show r∈x.R.filterMap (AP.rl δ)from f);obtain⟨C,u2,D⟩:=q r0 h0;rw[AP.rl_eq,Yc]at i;obtain⟨h2,m,i⟩:=i;split at i;cases i;rename_i G;cases i;refine⟨j _ _ C m,λg=>G ?_,λs v=>?_⟩;have g:r0.cells.filterMap (cr.rl δ)=[]:=g;rw[g];rfl;obtain⟨s0,n,o⟩:=Yp.1 (show s∈r0.cells.filterMap (cr.rl δ)from v);obtain⟨E,F,v3⟩:=D s0 n;rw[cr.rl_eq,qN]at o;obtain⟨h4,p,rfl⟩:=o;exact⟨E,j _ _ F p,Xi j v3⟩;rw[if_neg k7]at e;cases e;refine⟨a',b,c,λk=>absurd k k7,λk=>absurd k k6,?_,λr f=>?_⟩;show wf hp' T N x.W;rw[b k6]at w ⊢;exact Qb w;have f:r∈x.R:=f;rw[c k7]at f;cases f
theorem Xh{y:Int}(i:∀h h',δ h=some h'->y∈h'.all->y∈h.all):∀{N:Nat} {l:List AB},wf hp T N l->y∈AB.U (AB.rlL δ l)->y∈AB.U l
 | 0,_,h,_=>h.elim
 | N+1,l,W,g=>by
  rw[AB.rlL_eq,L9,QD]at g;rw[L9,QD];obtain⟨z,A,f⟩:=g;obtain⟨x,p,e⟩:=Yp.1 A;refine⟨x,p,?_⟩;obtain⟨a,b,c,d,ei,w,q⟩:=DR.1 W x p;have us:∀z:AB,z.us=z.H.all++(if z.k=6 then AB.U z.W else if z.k=7 then AP.U z.R else[]):=λz=>by cases z;rw[AB.us];rfl
  rw[us]at f ⊢;rw[AB.rl_eq,Yc]at e;obtain⟨h',m,e⟩:=e;by_cases k6:x.k=6;rw[if_pos k6]at e;cases e;rcases qd.1 f with f|f;exact qD _ (i _ _ m f);refine Qj _ ?_;rw[if_pos k6];have f:y∈(if x.k=6 then AB.U (AB.rlL δ x.W)else if x.k=7 then AP.U x.R else[]):=f;rw[if_pos k6]at f;exact Xh i w f;rw[if_neg k6]at e;by_cases k7:x.k=7;rw[if_pos k7]at e;split at e;cases e;cases e;rcases qd.1 f with f|f;exact qD _ (i _ _ m f);refine Qj _ ?_;rw[if_neg k6,if_pos k7];have f:y∈(if x.k=6 then AB.U x.W else if x.k=7 then AP.U (x.R.filterMap (AP.rl δ))else[]):=f;rw[if_neg k6,if_pos k7,Ji,QD]at f;rw[Ji,QD];obtain⟨r,u,f⟩:=f;obtain⟨r0,h0,j⟩:=Yp.1 u;refine⟨r0,h0,?_⟩;have C:∀z:AP,z.us=z.H.all++cr.U z.cells:=λz=>by cases z;rw[AP.us];rfl
  rw[C]at f ⊢;rw[AP.rl_eq,Yc]at j;obtain⟨h2,n,j⟩:=j;split at j;cases j;cases j;rcases qd.1 f with f|f;exact qD _ (i _ _ n f);refine Qj _ ?_;have f:y∈cr.U (r0.cells.filterMap (cr.rl δ)):=f;rw[LN,QD]at f ⊢;obtain⟨s,v,f⟩:=f;obtain⟨s0,k,o⟩:=Yp.1 v;refine⟨s0,k,?_⟩;rw[cr.rl_eq,qN]at o;obtain⟨h4,t,rfl⟩:=o;have B:∀z:cr,z.us=z.H.all++AB.U z.W:=λz=>by cases z;rw[cr.us];rfl
  rw[B]at f ⊢;rcases qd.1 f with f|f;exact qD _ (i _ _ t f);exact Qj _ (Xh i ((q r0 h0).2.2 s0 k).2.2 f);rw[if_neg k7]at e;cases e;rcases qd.1 f with f|f;exact qD _ (i _ _ m f);have f:y∈(if x.k=6 then AB.U x.W else if x.k=7 then AP.U x.R else[]):=f;rw[if_neg k6,if_neg k7]at f;cases f
theorem QY{y:Int}{P:Prop}(f:∀h,hp h->y∈h.all->P):∀{N:Nat} {l:List AB},wf hp T N l->y∈AB.U l->P
 | 0,_,h,_=>h.elim
 | N+1,l,W,g=>by
  rw[L9,QD]at g;obtain⟨x,m,e⟩:=g;obtain⟨a,b,c,d,ei,w,q⟩:=DR.1 W x m;have us:∀z:AB,z.us=z.H.all++(if z.k=6 then AB.U z.W else if z.k=7 then AP.U z.R else[]):=λz=>by cases z;rw[AB.us];rfl
  rw[us]at e;rcases qd.1 e with e|e;exact f _ a e;split at e;exact QY f w e;split at e;rw[Ji,QD]at e;obtain⟨r,k,e⟩:=e;have p:∀z:AP,z.us=z.H.all++cr.U z.cells:=λz=>by cases z;rw[AP.us];rfl
  obtain⟨n,_,j⟩:=q r k;rw[p]at e;rcases qd.1 e with e|e;exact f _ n e;rw[LN,QD]at e;obtain⟨s,i,e⟩:=e;have o:∀z:cr,z.us=z.H.all++AB.U z.W:=λz=>by cases z;rw[cr.us];rfl
  rw[o]at e;rcases qd.1 e with e|e;exact f _ (j s i).2.1 e;exact QY f (j s i).2.2 e;cases e
end
def EC(f:FuncId)(args:List SV):Prop:=∃e:Int,PC f args (AA e)
theorem EC.fam{f:FuncId}{A:Nat->List SV}{N:Nat}(h:∀j,j<N->EC f (A j)):∃F:Nat->Int,∀j,j<N->PC f (A j) (AA (F j)):=by
 have h2:∀j,∃e:Int,j<N->PC f (A j) (AA e):=λj=>by
  by_cases g:j<N;obtain⟨e,a⟩:=h j g;exact⟨e,λ_=>a⟩;exact⟨0,λk=>absurd k g⟩
 exact⟨λj=>(h2 j).choose,λj g=>(h2 j).choose_spec g⟩
theorem e83(s:AI)(h1:EC 146 [Aj s.A])(h2:EC 147 [Dg s.L])(i:EC 148 [Bd s.C])(k:EC 149 [Fs s.vars]):EC 83 [s.e]:=by
 obtain⟨c,h1⟩:=h1;obtain⟨d,h2⟩:=h2;obtain⟨f,i⟩:=i;obtain⟨g,k⟩:=k;refine⟨Bc [c,d,f,g],?_⟩;intro h n;refine DO func83 rfl λl=>?_;have a:=l.lt;refine Aa 1 [(1,.q s.g)] h n ?_ (λm o=>?_);simp[go_sem,AI.e,AI.g];exact⟨AZ (AS a (qa _)) (AD _ _ _),AL a AC⟩;refine AX 0 (α:=Unit) (λ_=>[(2,AA (Bc [c,d,f,g]))]) (λ_=>h) (λ_ m=>n<=m) (CK trS rfl (by kernel_rfl) (by kernel_rfl) ?_) (λ_ m o=>?_);have b:∀j y,h j=some y->j<m:=λj y e=>by have:=a j y e;omega
 simp[go_sem,trS,AI.g];refine qz h1 ?_;simp[go_sem];refine qz h2 ?_;simp[go_sem];refine qz i ?_;simp[go_sem];refine qz k ?_;simp[go_sem];refine wn (bs:=[.i 1 ([c,d,f,g].map AA) false]) (h2:=h) 1 (AL b AC) ⟨?_,trivial⟩ ?_;exact Cz (es:=[AA c,AA d,AA f,AA g]) (AS b (qa _)) (by simp) (by rw[AD];simp[SV.cells]) (by simp[SV.B,SV.cells]);refine(Sa _ (by simp)).use ?_;simp[go_sem,IO];omega;refine AJ ?_;simp[go_sem];exact As l rfl rfl
theorem iu(l:List GQ)(hl:l.length<=1048576)(hc:∀i,i<l.length->EC 210 [AA i,.q [Dg l]]):EC 147 [Dg l]:=by
 obtain⟨F,d⟩:=EC.fam (A:=λi=>[AA i,.q [Dg l]]) hc;refine⟨Bc [if(64:Int)<l.length then 9 else 0,CD F (min l.length 64)],?_⟩;intro h n;refine DO func147 rfl λc=>?_;have a:=c.lt;refine Aa 1 [(1,.q [Dg l])] h n ?_ (λm g=>?_);simp[go_sem];exact⟨AZ (AS a (qa _)) (AD _ _ _),AL a AC⟩;refine AX 0 (α:=Unit) (λ_=>[(2,AA (Bc [if(64:Int)<l.length then 9 else 0,CD F (min l.length 64)]))]) (λ_=>h) (λ_ m=>n<=m) (CK bE rfl (by kernel_rfl) (by kernel_rfl) ?_) (λ_ m g=>?_);have b:∀j y,h j=some y->j<m:=λj y e=>by have:=a j y e;omega
 have f:(if(64:Int)<l.length then(64:Int)else l.length)=((min l.length 64:Nat):Int):=by split<;>omega
 simp[go_sem,bE];refine(Ki _ _).use ?_;simp[go_sem,f];refine(X9 (min l.length 64) (by omega) 210 [] [.q [Dg l]] F (λj hj=>d j (by omega))).use ?_;simp[go_sem];generalize CD F (min l.length 64)=e2;generalize(if 64<(l.length:Int)then(9:Int)else 0)=e1;refine wn (bs:=[.i 1 ([e1,e2].map AA) false]) (h2:=h) 1 (AL b AC) ⟨?_,trivial⟩ ?_;exact Cz (es:=[AA e1,AA e2]) (AS b (qa _)) (by simp) (by rw[AD];simp[SV.cells]) (by simp[SV.B,SV.cells]);refine(Sa _ (by simp)).use ?_;simp[go_sem,IO];omega;refine AJ ?_;simp[go_sem];exact As c rfl rfl
theorem iv(l:List A9)(hl:l.length<=1048576)(hc:∀i,i<l.length->EC 213 [AA i,.q [Bd l]]):EC 148 [Bd l]:=by
 obtain⟨F,d⟩:=EC.fam (A:=λi=>[AA i,.q [Bd l]]) hc;refine⟨Bc [if(1024:Int)<l.length then 9 else 0,CD F (min l.length 1024)],?_⟩;intro h n;refine DO func148 rfl λc=>?_;have a:=c.lt;refine Aa 1 [(1,.q [Bd l])] h n ?_ (λm g=>?_);simp[go_sem];exact⟨AZ (AS a (qa _)) (AD _ _ _),AL a AC⟩;refine AX 0 (α:=Unit) (λ_=>[(2,AA (Bc [if(1024:Int)<l.length then 9 else 0,CD F (min l.length 1024)]))]) (λ_=>h) (λ_ m=>n<=m) (CK bE rfl (by kernel_rfl) (by kernel_rfl) ?_) (λ_ m g=>?_);have b:∀j y,h j=some y->j<m:=λj y e=>by have:=a j y e;omega
 have f:(if(1024:Int)<l.length then(1024:Int)else l.length)=((min l.length 1024:Nat):Int):=by split<;>omega
 simp[go_sem,bE];refine(Ki _ _).use ?_;simp[go_sem,f];refine(X9 (min l.length 1024) (by omega) 213 [] [.q [Bd l]] F (λj hj=>d j (by omega))).use ?_;simp[go_sem];generalize CD F (min l.length 1024)=e2;generalize(if 1024<(l.length:Int)then(9:Int)else 0)=e1;refine wn (bs:=[.i 1 ([e1,e2].map AA) false]) (h2:=h) 1 (AL b AC) ⟨?_,trivial⟩ ?_;exact Cz (es:=[AA e1,AA e2]) (AS b (qa _)) (by simp) (by rw[AD];simp[SV.cells]) (by simp[SV.B,SV.cells]);refine(Sa _ (by simp)).use ?_;simp[go_sem,IO];omega;refine AJ ?_;simp[go_sem];exact As c rfl rfl
theorem iw(l:List GY)(hl:l.length<=1048576)(hc:∀i,i<l.length->EC 218 [AA i,.q [Fs l]]):EC 149 [Fs l]:=by
 obtain⟨F,d⟩:=EC.fam (A:=λi=>[AA i,.q [Fs l]]) hc;refine⟨Bc [if(128:Int)<l.length then 9 else 0,CD F (min l.length 128)],?_⟩;intro h n;refine DO func149 rfl λc=>?_;have a:=c.lt;refine Aa 1 [(1,.q [Fs l])] h n ?_ (λm g=>?_);simp[go_sem];exact⟨AZ (AS a (qa _)) (AD _ _ _),AL a AC⟩;refine AX 0 (α:=Unit) (λ_=>[(2,AA (Bc [if(128:Int)<l.length then 9 else 0,CD F (min l.length 128)]))]) (λ_=>h) (λ_ m=>n<=m) (CK bE rfl (by kernel_rfl) (by kernel_rfl) ?_) (λ_ m g=>?_);have b:∀j y,h j=some y->j<m:=λj y e=>by have:=a j y e;omega
 have f:(if(128:Int)<l.length then(128:Int)else l.length)=((min l.length 128:Nat):Int):=by split<;>omega
 simp[go_sem,bE];refine(Ki _ _).use ?_;simp[go_sem,f];refine(X9 (min l.length 128) (by omega) 218 [] [.q [Fs l]] F (λj hj=>d j (by omega))).use ?_;simp[go_sem];generalize CD F (min l.length 128)=e2;generalize(if 128<(l.length:Int)then(9:Int)else 0)=e1;refine wn (bs:=[.i 1 ([e1,e2].map AA) false]) (h2:=h) 1 (AL b AC) ⟨?_,trivial⟩ ?_;exact Cz (es:=[AA e1,AA e2]) (AS b (qa _)) (by simp) (by rw[AD];simp[SV.cells]) (by simp[SV.B,SV.cells]);refine(Sa _ (by simp)).use ?_;simp[go_sem,IO];omega;refine AJ ?_;simp[go_sem];exact As c rfl rfl
theorem iz(l:List GQ)(hl:l.length<=1048576)(i:Nat)(hi:i<l.length)(hc:EC 212 [DV (l[i]).levels]):EC 210 [AA i,.q [Dg l]]:=by
 obtain⟨d,hc⟩:=hc;obtain⟨a,g⟩:∃a,a=Gb (λj=>match l[j]? with|some r=>r.id|none=>0) i:=⟨_,rfl⟩
 refine⟨Bc [a,d],?_⟩;intro h n;refine DO func210 rfl λk=>?_;have f:=k.lt;obtain⟨x,o⟩:∃x,l[i]=x:=⟨_,rfl⟩
 rw[o]at hc;refine Aa 0 [(0,AA i),(1,.q [Dg l])] h n ?_ (λm q=>?_);simp[go_sem,IO];refine AX 0 (α:=Unit) (λ_=>[(3,AA (Bc [a,d]))]) (λ_=>h) (λ_ m=>n<=m) (CK trO rfl (by kernel_rfl) (by kernel_rfl) ?_) (λ_ m q=>?_);have b:∀j y,h j=some y->j<m:=λj y e=>by have:=f j y e;omega
 simp[go_sem,trO,hi,o,GQ.e];have p:∀j,j<=i->PC 211 ([]++[AA j]++[.q [Dg l]]) (AA (match l[j]? with|some r=>r.id|none=>0)):=λj hj=>by
  have c:j<l.length:=by omega
  simpa[c]using ff l j c
 refine(Zo i (by omega) 211 [] [.q [Dg l]] (λj=>match l[j]? with|some r=>r.id|none=>0) p).use ?_;rw[<-g];simp[go_sem];refine hc.use ?_;simp[go_sem];refine wn (bs:=[.i 1 ([a,d].map AA) false]) (h2:=h) 1 (AL b AC) ⟨?_,trivial⟩ ?_;exact Cz (es:=[AA a,AA d]) (AS b (qa _)) (by simp) (by rw[AD];simp[SV.cells]) (by simp[SV.B,SV.cells]);refine(Sa _ (by simp)).use ?_;simp[go_sem,IO];omega;refine AJ ?_;simp[go_sem];exact As k rfl rfl
theorem i7(l:List A9)(hl:l.length<=1048576)(H:∀x∈l,x.O.size<=1048576/\x.x.size<=1048576)(i:Nat)(hi:i<l.length):EC 213 [AA i,.q [Bd l]]:=by
 obtain⟨x,E⟩:∃x,l[i]=x:=⟨_,rfl⟩
 obtain⟨b,hb⟩:∃b:Bool,b=(decide (x.parent=0)||Jo (λj=>match(l.take i)[j]? with|some y=>decide (y.id=x.parent)|none=>false) (l.take i).length):=⟨_,rfl⟩
 obtain⟨d,A⟩:∃d,d=Gb (λj=>match l[j]? with|some r=>r.id|none=>0) i:=⟨_,rfl⟩
 obtain⟨e,G⟩:∃e,e=Bc [d,if b=false then 8 else 0,if Dc x.O=false then 39 else 0,if x.time<0\/1099511627776<x.time then 40 else 0,Jg x.x]:=⟨_,rfl⟩
 refine⟨e,?_⟩;intro h n;refine DO func213 rfl λD=>?_;have a:=D.lt;have hxs:=H x (by rw[<-E];exact qi hi);obtain⟨X,z⟩:∃X:SV,X=.q [AA x.id,AA x.parent,.str x.O,AA x.time,.str x.x,.bool x.done]:=⟨_,rfl⟩
 refine B5 0 [(0,AA i),(1,.q [Bd l])] h n ?_ (λm c=>?_);simp[go_sem,IO];subst c;refine Aa 1 [(0,AA i),(1,.q [Bd l]),(4,X)] h n ?_ (λm c=>?_);rw[z];simp[go_sem,IO,hi,E,A9.e,AD];exact⟨AZ (AS a (qa _)) (AD _ _ _),AL a (AL a AC)⟩;refine Aa 0 [(0,AA i),(1,.q [Bd l]),(4,X),(5,.bool b)] h n ?_ (λm c=>?_)
 . rw[z];by_cases s:x.parent=0;have:b=true:=by rw[hb];simp[s]
   simp[go_sem,s,IO,c,this]
   . have B:i<=l.length:=by omega
     have hc:=fg (l.take i) (by simp;omega) 215 [] [.q [AA x.id,AA x.parent,.str x.O,AA x.time,.str x.x,.bool x.done]] (λj=>match(l.take i)[j]? with|some y=>decide (y.id=x.parent)|none=>false) (λj C=>by rw[qe C];exact fh x _);have F8:Jo (λj=>match(l.take i)[j]? with|some y=>decide (y.id=x.parent)|none=>false) (l.take i).length=b:=by rw[hb];simp[s]
     rw[F8]at hc;rw[vp]at hc;simp[go_sem,s,B,-List.map_take];refine qz hc ?_;simp[go_sem,IO,c,s]
 refine AX 0 (α:=Unit) (λ_=>[(3,AA e)]) (λ_=>h) (λ_ m=>n<=m) (CK trT rfl (by kernel_rfl) (by kernel_rfl) ?_) (λ_ m c=>?_);have f:∀j y,h j=some y->j<m:=λj y e=>by have:=a j y e;omega
 rw[z];simp[go_sem,trT];have F:∀j,j<=i->PC 216 ([]++[AA j]++[.q [Bd l]]) (AA (match l[j]? with|some r=>r.id|none=>0)):=λj C=>by
  have q:j<l.length:=by omega
  simpa[q]using fi l j q
 refine(Zo i (by omega) 216 [] [.q [Bd l]] (λj=>match l[j]? with|some r=>r.id|none=>0) F).use ?_;rw[<-A];simp[go_sem];refine(Ki _ _).use ?_;simp[go_sem];refine(bW x.O (by omega)).use ?_;simp[go_sem];refine(Ki _ _).use ?_;simp[go_sem];refine(LW _ _ _).use ?_;simp[go_sem];refine(Ki _ _).use ?_;simp[go_sem];refine(Zs x.x (by omega)).use ?_;simp[go_sem];obtain⟨t,g⟩:∃t,t=(if b=false then(8:Int)else 0):=⟨_,rfl⟩
 obtain⟨u,k⟩:∃u,u=(if Dc x.O=false then(39:Int)else 0):=⟨_,rfl⟩
 obtain⟨v,o⟩:∃v,v=(if x.time<0\/1099511627776<x.time then(40:Int)else 0):=⟨_,rfl⟩
 obtain⟨w,p⟩:∃w,w=Jg x.x:=⟨_,rfl⟩
 rw[<-g,<-k,<-o,<-p];refine wn (bs:=[.i 1 ([d,t,u,v,w].map AA) false]) (h2:=h) 1 (AL f AC) ⟨?_,trivial⟩ ?_;exact Cz (es:=[AA d,AA t,AA u,AA v,AA w]) (AS f (qa _)) (by simp) (by rw[AD];simp[SV.cells]) (by simp[SV.B,SV.cells]);refine(Sa _ (by simp)).use ?_;simp[go_sem];exact⟨by omega,by rw[G,<-g,<-k,<-o,<-p];exact IO⟩;refine AJ ?_;simp[go_sem];exact As D rfl rfl
def U2(x:AB):Bool:=decide (x.k=8)&&decide (x.code=1)
def cX(x:AB):Bool:=decide (x.k=1)||decide (x.k=5)||U2 x
def ZJ(x:AB):Bool:=decide (x.k=6)||decide (x.k=7)||decide (x.k=8)
def Wa(x:AB):Bool:=if x.k=4 then decide (1<=x.code/\x.code<=3)else if x.k=6 then decide (1<=x.code/\x.code<=2)else if x.k=8 then decide (1<=x.code/\x.code<=4)else true
def ZK(x:AB):Bool:=decide (x.k=4)||decide (x.k=6)||decide (x.k=8)
def P6(x:AB):Bool:=!decide (1<=x.k/\x.k<=8) || !Wa x
def Ni(x:AB):Bool:=(!ZK x&&decide (x.code≠0))||(!ZJ x&&decide (x.id≠0))||(!cX x&&decide (x.x.toList≠[]))||(decide (x.k≠6)&&decide (0<x.W.length))||(decide (x.k≠7)&&decide (0<x.R.length))
def IU(x:AB):Bool:=(decide (x.k=1)||decide (x.k=5))&&decide (x.x.toList=[])
def Kv(x:AB):Bool:=decide (x.k=5)&&decide ((1024:Int)<x.x.size)
def G7(x:AB):Int:=if P6 x then 3 else if Ni x then 15 else if A5 x.x=false then 12 else if IU x then 11 else if Kv x then 10 else if U2 x && !Fb x.x then 13 else 0
theorem fj(x:AB)(S:x.D):PC 222 [x.e] (AA (G7 x)):=by
 obtain⟨u,KL⟩:∃b,b=U2 x:=⟨_,rfl⟩
 obtain⟨w,TD⟩:∃b,b=cX x:=⟨_,rfl⟩
 obtain⟨G,Xn⟩:∃b,b=ZJ x:=⟨_,rfl⟩
 obtain⟨P,Qh⟩:∃b,b=Wa x:=⟨_,rfl⟩
 obtain⟨L,v⟩:∃b,b=ZK x:=⟨_,rfl⟩
 obtain⟨A,E⟩:∃b,b=P6 x:=⟨_,rfl⟩
 obtain⟨B,F⟩:∃b,b=Ni x:=⟨_,rfl⟩
 obtain⟨s,i⟩:∃b,b=IU x:=⟨_,rfl⟩
 obtain⟨t,q⟩:∃b,b=Kv x:=⟨_,rfl⟩
 obtain⟨r,C⟩:∃b,b = !A5 x.x:=⟨_,rfl⟩
 obtain⟨l,D⟩:∃b,b=(U2 x && !Fb x.x):=⟨_,rfl⟩
 obtain⟨V,p⟩:∃V:Int,V=if A then 3 else if B then 15 else if r then 12 else if s then 11 else if t then 10 else if l then 13 else 0:=⟨_,rfl⟩
 have J:V=G7 x:=by
  rw[p,G7,E,F,C,i,q,D];cases A5 x.x<;>rfl
 rw[<-J];have a:B=((!L&&decide (x.code≠0))||(!G&&decide (x.id≠0))||(!w&&decide (x.x.toList≠[]))||(decide (x.k≠6)&&decide (0<x.W.length))||(decide (x.k≠7)&&decide (0<x.R.length))):=by rw[F,Ni,v,Xn,TD]
 have N:w=(decide (x.k=1)||decide (x.k=5)||u):=by rw[TD,cX,KL]
 have I:A=(!decide (1<=x.k/\x.k<=8) || !P):=by rw[E,P6,Qh]
 have H:l=(u && !Fb x.x):=by rw[D,KL]
 intro h n;refine DO func222 rfl λQ=>?_;obtain⟨X,y⟩:∃X:SV,X=.q [AA x.k,AA x.code,AA x.id,.str x.x,AU x.H.Q,AA x.H.I,AA x.H.move,Ax x.H.Y,Ai x.H.Z,AK x.W,Aw x.R]:=⟨_,rfl⟩
 refine Aa 1 [(1,X)] h n ?_ (λm d=>?_);rw[y];simp[go_sem,qw];exact⟨AZ (Q.none (qa n)) (AD _ _ _),AL (λj z e=>(Q j z e).1) AC⟩;refine Aa 0 [(1,X),(3,.bool u)] h n ?_ (λm d=>?_);rw[y];by_cases k:x.k=8;by_cases c:x.code=1;simp[go_sem,IO,k,c,d,KL,U2];simp[go_sem,IO,k,c,beq_eq_false_iff_ne.2 c,d,KL,U2];simp[go_sem,IO,k,d,KL,U2];refine Aa 0 [(1,X),(3,.bool u),(4,.bool w)] h n ?_ (λm d=>?_);rw[y];by_cases k:x.k=1;simp[go_sem,IO,k,d,N];by_cases o:x.k=5;simp[go_sem,IO,o,d,N];simp[go_sem,IO,k,o,d,N];refine Aa 0 [(1,X),(3,.bool u),(4,.bool w),(5,.bool G)] h n ?_ (λm d=>?_);rw[y];by_cases k:x.k=6;simp[go_sem,IO,k,d,Xn,ZJ];by_cases o:x.k=7;simp[go_sem,IO,o,d,Xn,ZJ];by_cases k8:x.k=8;simp[go_sem,IO,k8,d,Xn,ZJ];simp[go_sem,IO,k,o,k8,beq_eq_false_iff_ne.2 k8,d,Xn,ZJ];refine Aa 0 [(1,X),(3,.bool u),(4,.bool w),(5,.bool G),(6,.bool true)] h n ?_ (λm d=>?_);simp[go_sem,IO,d];refine Aa 0 [(1,X),(3,.bool u),(4,.bool w),(5,.bool G),(6,.bool P)] h n ?_ (λm d=>?_);rw[y];by_cases k:x.k=4;simp[go_sem,k];refine qz (LW _ _ _) ?_;by_cases c:1<=x.code/\x.code<=3;simp[go_sem,IO,k,d,Qh,Wa,c];simp[go_sem,IO,k,d,Qh,Wa,c];by_cases M:x.k=6;simp[go_sem,M];refine qz (LW _ _ _) ?_;by_cases c:1<=x.code/\x.code<=2;simp[go_sem,IO,M,d,Qh,Wa,c];simp[go_sem,IO,M,d,Qh,Wa,c];by_cases k3:x.k=8;simp[go_sem,k3];refine qz (LW _ _ _) ?_;by_cases c:1<=x.code/\x.code<=4;simp[go_sem,IO,k3,d,Qh,Wa,c];simp[go_sem,IO,k3,d,Qh,Wa,c];simp[go_sem,IO,k,M,k3,d,Qh,Wa];refine Aa 0 [(1,X),(3,.bool u),(4,.bool w),(5,.bool G),(6,.bool P),(7,.bool L)] h n ?_ (λm d=>?_);rw[y];by_cases k:x.k=4;simp[go_sem,IO,k,d,v,ZK];by_cases o:x.k=6;simp[go_sem,IO,o,d,v,ZK];by_cases k8:x.k=8;simp[go_sem,IO,k8,d,v,ZK];simp[go_sem,IO,k,o,k8,beq_eq_false_iff_ne.2 k8,d,v,ZK];have out:∀(e:Int)(m:Nat),V=e->CO n h m (AA e) (Is (AA V) h n):=λe m R=>As Q rfl (by rw[R]);refine Bg 0 [] h (λm=>n<=m/\V=0) ?_ (λm d=>?_)
 . refine AY ?_;refine Aa 0 [(1,X),(3,.bool u),(4,.bool w),(5,.bool G),(7,.bool L),(70,.bool A)] h n ?_ (λm d=>?_);rw[y];simp[go_sem];refine qz (LW _ _ _) ?_;by_cases c:1<=x.k/\x.k<=8;simp[go_sem,IO,c,d,I];simp[go_sem,IO,c,d,I];refine Au (b:=A) (by simp[go_sem]) ?_;cases A with
   | true=>exact AJ (by simp[go_sem];exact out 3 _ (by rw[p];rfl))
   | false=>
   simp only[qn,if_false]at p ⊢;clear F v Xn TD N E I J;refine Aa 0 [(1,X),(3,.bool u),(79,.bool B)] h n ?_ (λm d=>?_);rw[y];clear out p;cases L with
   | true =>
    cases G with
    | true =>
     cases w with
     | true=>
      by_cases k6:x.k=6;by_cases r0:x.R=[];simp[go_sem,IO,d,k6,r0,a];have f:0<x.R.length:=qH.2 r0;simp[go_sem,IO,d,k6,f,a];by_cases f0:x.W=[];by_cases k7:x.k=7;simp[go_sem,IO,d,f0,k7,a];by_cases r0:x.R=[];simp[go_sem,IO,d,k6,f0,k7,r0,a];have f:0<x.R.length:=qH.2 r0;simp[go_sem,IO,d,k6,f0,k7,f,a];have f1:0<x.W.length:=qH.2 f0;simp[go_sem,IO,d,k6,f1,a]
     | false=>
      by_cases t0:x.x.toList=[];by_cases k6:x.k=6;by_cases r0:x.R=[];simp[go_sem,IO,d,t0,k6,r0,a];have f:0<x.R.length:=qH.2 r0;simp[go_sem,IO,d,t0,k6,f,a];by_cases f0:x.W=[];by_cases k7:x.k=7;simp[go_sem,IO,d,t0,f0,k7,a];by_cases r0:x.R=[];simp[go_sem,IO,d,t0,k6,f0,k7,r0,a];have f:0<x.R.length:=qH.2 r0;simp[go_sem,IO,d,t0,k6,f0,k7,f,a];have f1:0<x.W.length:=qH.2 f0;simp[go_sem,IO,d,t0,k6,f1,a];simp[go_sem,IO,d,t0,a]
    | false=>
     by_cases g:x.id=0;cases w with
     | true=>
      by_cases k6:x.k=6;by_cases r0:x.R=[];simp[go_sem,IO,d,g,k6,r0,a];have f:0<x.R.length:=qH.2 r0;simp[go_sem,IO,d,g,k6,f,a];by_cases f0:x.W=[];by_cases k7:x.k=7;simp[go_sem,IO,d,g,f0,k7,a];by_cases r0:x.R=[];simp[go_sem,IO,d,g,k6,f0,k7,r0,a];have f:0<x.R.length:=qH.2 r0;simp[go_sem,IO,d,g,k6,f0,k7,f,a];have f1:0<x.W.length:=qH.2 f0;simp[go_sem,IO,d,g,k6,f1,a]
     | false=>
      by_cases t0:x.x.toList=[];by_cases k6:x.k=6;by_cases r0:x.R=[];simp[go_sem,IO,d,g,t0,k6,r0,a];have f:0<x.R.length:=qH.2 r0;simp[go_sem,IO,d,g,t0,k6,f,a];by_cases f0:x.W=[];by_cases k7:x.k=7;simp[go_sem,IO,d,g,t0,f0,k7,a];by_cases r0:x.R=[];simp[go_sem,IO,d,g,t0,k6,f0,k7,r0,a];have f:0<x.R.length:=qH.2 r0;simp[go_sem,IO,d,g,t0,k6,f0,k7,f,a];have f1:0<x.W.length:=qH.2 f0;simp[go_sem,IO,d,g,t0,k6,f1,a];simp[go_sem,IO,d,g,t0,a]
     simp[go_sem,IO,d,g,a]
   | false=>
    by_cases c0:x.code=0;cases G with
    | true =>
     cases w with
     | true=>
      by_cases k6:x.k=6;by_cases r0:x.R=[];simp[go_sem,IO,d,c0,k6,r0,a];have f:0<x.R.length:=qH.2 r0;simp[go_sem,IO,d,c0,k6,f,a];by_cases f0:x.W=[];by_cases k7:x.k=7;simp[go_sem,IO,d,c0,f0,k7,a];by_cases r0:x.R=[];simp[go_sem,IO,d,c0,k6,f0,k7,r0,a];have f:0<x.R.length:=qH.2 r0;simp[go_sem,IO,d,c0,k6,f0,k7,f,a];have f1:0<x.W.length:=qH.2 f0;simp[go_sem,IO,d,c0,k6,f1,a]
     | false=>
      by_cases t0:x.x.toList=[];by_cases k6:x.k=6;by_cases r0:x.R=[];simp[go_sem,IO,d,c0,t0,k6,r0,a];have f:0<x.R.length:=qH.2 r0;simp[go_sem,IO,d,c0,t0,k6,f,a];by_cases f0:x.W=[];by_cases k7:x.k=7;simp[go_sem,IO,d,c0,t0,f0,k7,a];by_cases r0:x.R=[];simp[go_sem,IO,d,c0,t0,k6,f0,k7,r0,a];have f:0<x.R.length:=qH.2 r0;simp[go_sem,IO,d,c0,t0,k6,f0,k7,f,a];have f1:0<x.W.length:=qH.2 f0;simp[go_sem,IO,d,c0,t0,k6,f1,a];simp[go_sem,IO,d,c0,t0,a]
    | false=>
     by_cases g:x.id=0;cases w with
     | true=>
      by_cases k6:x.k=6;by_cases r0:x.R=[];simp[go_sem,IO,d,c0,g,k6,r0,a];have f:0<x.R.length:=qH.2 r0;simp[go_sem,IO,d,c0,g,k6,f,a];by_cases f0:x.W=[];by_cases k7:x.k=7;simp[go_sem,IO,d,c0,g,f0,k7,a];by_cases r0:x.R=[];simp[go_sem,IO,d,c0,g,k6,f0,k7,r0,a];have f:0<x.R.length:=qH.2 r0;simp[go_sem,IO,d,c0,g,k6,f0,k7,f,a];have f1:0<x.W.length:=qH.2 f0;simp[go_sem,IO,d,c0,g,k6,f1,a]
     | false=>
      by_cases t0:x.x.toList=[];by_cases k6:x.k=6;by_cases r0:x.R=[];simp[go_sem,IO,d,c0,g,t0,k6,r0,a];have f:0<x.R.length:=qH.2 r0;simp[go_sem,IO,d,c0,g,t0,k6,f,a];by_cases f0:x.W=[];by_cases k7:x.k=7;simp[go_sem,IO,d,c0,g,t0,f0,k7,a];by_cases r0:x.R=[];simp[go_sem,IO,d,c0,g,t0,k6,f0,k7,r0,a];have f:0<x.R.length:=qH.2 r0;simp[go_sem,IO,d,c0,g,t0,k6,f0,k7,f,a];have f1:0<x.W.length:=qH.2 f0;simp[go_sem,IO,d,c0,g,t0,k6,f1,a];simp[go_sem,IO,d,c0,g,t0,a]
     simp[go_sem,IO,d,c0,g,a]
    simp[go_sem,IO,d,c0,a]
   refine Au (b:=B) (by simp[go_sem]) ?_;cases B with
   | true=>exact AJ (by simp[go_sem];exact out 15 _ (by rw[p];rfl))
   | false=>
   simp only[qn,if_false]at p ⊢;refine Aa 0 [(1,X),(3,.bool u),(127,.bool r)] h n ?_ (λm d=>?_);rw[y];simp[go_sem];refine qz (Sn x.x (by have:=(EY S).2.1;omega)) ?_;simp[go_sem,IO,d,C];refine Au (b:=r) (by simp[go_sem]) ?_;cases r with
   | true=>exact AJ (by simp[go_sem];exact out 12 _ (by rw[p];rfl))
   | false=>
   simp only[qn,if_false]at p ⊢;refine Aa 0 [(1,X),(3,.bool u),(132,.bool s)] h n ?_ (λm d=>?_);rw[y];by_cases t0:x.x.toList=[];by_cases K:x.k=1;simp[go_sem,IO,K,t0,d,i,IU];by_cases o:x.k=5<;>simp[go_sem,IO,K,o,t0,d,i,IU];have O:x.x.toList.isEmpty=false:=by simpa using t0
   by_cases K:x.k=1;simp[go_sem,IO,K,t0,O,d,i,IU];by_cases o:x.k=5<;>simp[go_sem,IO,K,o,t0,O,d,i,IU];refine Au (b:=s) (by simp[go_sem]) ?_;cases s with
   | true=>exact AJ (by simp[go_sem];exact out 11 _ (by rw[p];rfl))
   | false=>
   simp only[qn,if_false]at p ⊢;refine Aa 0 [(1,X),(3,.bool u),(146,.bool t)] h n ?_ (λm d=>?_);rw[y];by_cases o:x.k=5;by_cases O:(1024:Int)<x.x.size<;>simp[go_sem,IO,o,O,d,q,Kv];simp[go_sem,IO,o,d,q,Kv];refine Au (b:=t) (by simp[go_sem]) ?_;cases t with
   | true=>exact AJ (by simp[go_sem];exact out 10 _ (by rw[p];rfl))
   | false=>
   simp only[qn,if_false]at p ⊢;refine Aa 0 [(156,.bool l)] h n ?_ (λm d=>?_);rw[y];cases u with
   | false=>simp[go_sem,IO,d,H]
   | true=>
    simp[go_sem];refine qz (Zt x.x) ?_;simp[go_sem,IO,d,H]
   refine Au (b:=l) (by simp[go_sem]) ?_;cases l with
   | true=>exact AJ (by simp[go_sem];exact out 13 _ (by rw[p];rfl))
   | false=>
   simp only[qn,if_false]at p;refine AJ ?_;simp[go_sem];exact⟨d,p⟩
 refine AJ ?_;simp[go_sem];exact out _ _ d.2
def SE(l:List Bi):Bool:=l.any λp=>decide (p.key=20)||decide (p.key=1)
theorem iy(l:List A7)(hl:l.length<=1048576)(hs:∀x∈l,x.Q.length<=1048576)(i:Nat)(hi:i<l.length):EC 207 [Aj l,AA i]:=by
 obtain⟨s,hx⟩:∃s,l[i]=s:=⟨_,rfl⟩
 obtain⟨b1,Me⟩:∃b1:Bool,b1=(decide (s.id<1)||decide (1073741824<s.id)):=⟨_,rfl⟩
 obtain⟨b2,F8⟩:∃b2:Bool,b2=(decide (0<i)&&decide (s.id=(l.getD (i-1) s).id)):=⟨_,rfl⟩
 obtain⟨b3,KL⟩:∃b3:Bool,b3=(decide (0<i)&&decide (s.id<(l.getD (i-1) s).id)):=⟨_,rfl⟩
 obtain⟨b4,TD⟩:∃b4:Bool,b4=(decide (s.k≠1)&&decide (s.k≠2)):=⟨_,rfl⟩
 obtain⟨b5,Xn⟩:∃b5:Bool,b5 = !GO s.name:=⟨_,rfl⟩
 obtain⟨b6,Qh⟩:∃b6:Bool,b6=decide (0<=Cd (l.take i) s.k s.name):=⟨_,rfl⟩
 obtain⟨b7,hb7⟩:∃b7:Bool,b7=SE s.Q:=⟨_,rfl⟩
 obtain⟨V,hV⟩:∃V:Int,V=if b1 then 18 else if b2 then 7 else if b3 then 6 else if b4 then 3 else if b5 then 13 else if b6 then 7 else if b7 then 4 else CY (if s.k=1 then 2 else 1) s.Q:=⟨_,rfl⟩
 refine⟨V,?_⟩;intro h n;refine DO func207 rfl λho=>?_;have hHb:=ho.lt;have hps:=hs s (by rw[<-hx];exact qi hi);have out:∀(e:Int)(m:Nat),V=e->CO n h m (AA e) (Is (AA V) h n):=λe m he=>As ho rfl (by rw[he]);obtain⟨X,hX⟩:∃X:SV,X=.q [AA s.id,AA s.k,.str s.name,AA s.base,AA s.next,AU s.Q]:=⟨_,rfl⟩
 refine Aa 0 [(0,Aj l),(1,AA i)] h n ?_ (λm hm=>?_);simp[go_sem,IO];refine Aa 1 [(0,Aj l),(1,AA i),(5,X)] h n ?_ (λm hm=>?_);have hHm:∀j y,h j=some y->j<m:=λj y e=>by have:=hHb j y e;omega
 rw[hX];simp[go_sem,IO,hi,hx,A7.e,AD];exact⟨by omega,AZ (AS hHm (qa _)) (AD _ _ _),AL hHm (AL hHm AC)⟩;have w1:0<i->IntKind.i64.wrap ((i:Int)-1)=((i-1:Nat):Int):=λg=>by rw[DA]<;>omega
 refine AX 0 (α:=Unit) (λ_=>[(0,Aj l),(1,AA i),(5,X)]) (λ_=>h) (λ_ m=>n<=m/\(b1=false/\b2=false/\b3=false/\b4=false/\b5=false)) (AY ?_) (λ_ m hm=>?_)
 . refine Aa 0 [(0,Aj l),(1,AA i),(5,X),(14,.bool b1)] h n ?_ (λm hm=>?_);rw[hX];by_cases a1:s.id<1;have e:b1=true:=by rw[Me];simp[a1]
   simp[go_sem,IO,a1,hm,e];have e:b1=decide (1073741824<s.id):=by rw[Me];simp[a1]
   simp[go_sem,IO,a1,hm,e];cases b1 with
   | true=>exact AJ (by simp[go_sem];exact out 18 _ (by rw[hV];rfl))
   | false=>
   refine Au (b:=false) (by simp[go_sem]) ?_;simp only[qn,if_false];refine AX 0 (α:=Unit) (λ_=>[(0,Aj l),(1,AA i),(5,X),(23,.bool b2)]) (λ_=>h) (λ_ m=>n<=m) (CK Vd rfl (by kernel_rfl) (by kernel_rfl) ?_) (λ_ m hm=>?_);rw[hX];by_cases a1:0<i;have hi1:i-1<l.length:=by omega
   have e:b2=(s.id==l[i-1].id):=by rw[F8,Bool.eq_iff_iff];simp[a1,List.getD,hi1]
   simp[go_sem,Vd,IO,a1,w1,hm,hi1,A7.e,e];have e:b2=false:=by rw[F8];simp[a1]
   simp[go_sem,Vd,IO,a1,hm,e];cases b2 with
   | true=>exact AJ (by simp[go_sem];exact out 7 _ (by rw[hV];rfl))
   | false=>
   refine Au (b:=false) (by simp[go_sem]) ?_;simp only[qn,if_false];refine AX 0 (α:=Unit) (λ_=>[(0,Aj l),(1,AA i),(5,X),(37,.bool b3)]) (λ_=>h) (λ_ m=>n<=m) (CK Vd rfl (by kernel_rfl) (by kernel_rfl) ?_) (λ_ m hm=>?_);rw[hX];by_cases a1:0<i;have hi1:i-1<l.length:=by omega
   have e:b3=(decide (s.id<l[i-1].id)):=by rw[KL,Bool.eq_iff_iff];simp[a1,List.getD,hi1]
   simp[go_sem,Vd,IO,a1,w1,hm,hi1,A7.e,e];have e:b3=false:=by rw[KL];simp[a1]
   simp[go_sem,Vd,IO,a1,hm,e];cases b3 with
   | true=>exact AJ (by simp[go_sem];exact out 6 _ (by rw[hV];rfl))
   | false=>
   refine Au (b:=false) (by simp[go_sem]) ?_;simp only[qn,if_false];refine Aa 0 [(0,Aj l),(1,AA i),(5,X),(51,.bool b4)] h n ?_ (λm hm=>?_);rw[hX];by_cases a1:s.k=1;have e:b4=false:=by rw[TD];simp[a1]
   simp[go_sem,IO,a1,hm,e];have a2:(s.k !=1)=true:=by simpa using a1
   have e:b4=(s.k !=2):=by rw[TD];by_cases c:s.k=2<;>simp[a1,c]
   simp[go_sem,IO,a2,hm,e];cases b4 with
   | true=>exact AJ (by simp[go_sem];exact out 3 _ (by rw[hV];rfl))
   | false=>
   refine Au (b:=false) (by simp[go_sem]) ?_;simp only[qn,if_false];refine Aa 0 [(0,Aj l),(1,AA i),(5,X),(60,.bool b5)] h n ?_ (λm hm=>?_);rw[hX];simp[go_sem];refine(gO s.name).use ?_;simp[go_sem,IO,hm,Xn];cases b5 with
   | true=>exact AJ (by simp[go_sem];exact out 13 _ (by rw[hV];rfl))
   | false=>exact AJ (by simp[go_sem,IO,hm])
 obtain⟨hm,z1,z2,z3,z4,z5⟩:=hm;rw[z1,z2,z3,z4,z5]at hV;refine Bg 0 [(0,Aj l),(1,AA i),(5,X)] h (λm=>n<=m/\b6=false) ?_ (λm hm=>?_);refine AX 0 (α:=Unit) (λ_=>[(0,Aj l),(1,AA i),(5,X),(7,.bool b6)]) (λ_=>h) (λ_ m=>n<=m) (CK dR rfl (by kernel_rfl) (by kernel_rfl) ?_) (λ_ m hm=>?_);have hle:i<=l.length:=by omega
 have hc:=gP (l.take i) s.k s.name (by simp;omega);rw[<-Qh]at hc;generalize(if 0<=Cd (l.take i) s.k s.name then Cd (l.take i) s.k s.name else 0)=k1 at hc;simp only[Aj,vp]at hc;rw[hX];simp[go_sem,dR,hle,-List.map_take];refine qz hc ?_;simp[go_sem,IO,hm];cases b6 with
 | true=>exact AJ (by simp[go_sem];exact out 7 _ (by rw[hV];rfl))
 | false=>exact AJ (by simp[go_sem,IO,hm])
 obtain⟨hm,z6⟩:=hm;rw[z6]at hV;refine Bg 0 [(5,X)] h (λm=>n<=m/\b7=false) ?_ (λm hm=>?_);refine Aa 0 [(5,X),(78,AU s.Q),(79,AA s.Q.length),(80,AA 0)] h n ?_ (λm hm=>?_);rw[hX];simp[go_sem,IO,hm];refine AY (BT 0 (α:=Nat) (λk=>[(5,X),(78,AU s.Q),(79,AA s.Q.length),(80,AA k)]) (λ_=>h) (λk m=>k<=s.Q.length/\n<=m/\SE (s.Q.take k)=false) (λk=>s.Q.length-k) 0 ⟨qg _,hm,rfl⟩ ?_ AC ?_);simp[go_sem,Ao,IO];rintro k m ⟨hk,hm,hI⟩;by_cases hlt:k<s.Q.length;have w2:=wS k (by omega);obtain⟨p,hp⟩:∃p,s.Q[k]=p:=⟨_,rfl⟩
 have hst:SE (s.Q.take (k+1))=(decide (p.key=20)||decide (p.key=1)):=by
  unfold SE at hI ⊢;rw[qb hlt,hp,List.any_append,hI];simp
 have bad:∀m:Nat,(decide (p.key=20)||decide (p.key=1))=true->CO n h m (AA 4) (Is (AA V) h n):=λm g=>out 4 m (by
  have:b7=true:=by unfold SE at hb7;rw[hb7,vo];exact⟨p,by rw[<-hp];exact qi hlt,g⟩
  rw[hV,this];rfl)
 refine Aa 0 [(5,X),(78,AU s.Q),(79,AA s.Q.length),(80,AA k),(81,.bool true)] h n ?_ (λm hm=>?_);simp[go_sem,IO,hm,hlt];refine Aa 0 [(5,X),(78,AU s.Q),(79,AA s.Q.length),(80,AA k)] h n ?_ (λm hm=>?_);simp[go_sem,IO,hm];refine AX 0 (α:=Unit) (λ_=>[(5,X),(78,AU s.Q),(79,AA s.Q.length),(80,AA k)]) (λ_=>h) (λ_ m=>n<=m/\(decide (p.key=20)||decide (p.key=1))=false) (AY ?_) (λ_ m hm=>?_);refine Aa 1 [(5,X),(78,AU s.Q),(79,AA s.Q.length),(80,AA k),(9,.q [AA p.key,AA p.value])] h n ?_ (λm hm=>?_);have hHm:∀j y,h j=some y->j<m:=λj y e=>by have:=hHb j y e;omega
 simp[go_sem,IO,hlt,hp,Bi.e,AD];exact⟨by omega,AZ (AS hHm (qa _)) (AD _ _ _),AL hHm (AL hHm AC)⟩;refine AJ ?_;by_cases a1:p.key=20;simp[go_sem,a1];exact bad _ (by simp[a1]);by_cases a2:p.key=1;simp[go_sem,a2];exact bad _ (by simp[a2]);have a3:(p.key==20)=false:=by simpa using a1
 have a4:(p.key==1)=false:=by simpa using a2
 simp[go_sem,a1,a2,a3,a4,IO,hm];refine AJ ?_;simp[go_sem,w2,IO,-Int.natCast_add];exact⟨k+1,by omega,⟨by omega,hm.1,by rw[hst];exact hm.2⟩,rfl⟩;refine AJ ?_;have e:k=s.Q.length:=by omega
 simp[go_sem,hlt,IO,hm];rw[hb7];rw[e,qm]at hI;exact hI;obtain⟨hm,h7⟩:=hm;refine AX 0 (α:=Unit) (λ_=>[(4,AA V)]) (λ_=>h) (λ_ m=>n<=m) (CK dS rfl (by kernel_rfl) (by kernel_rfl) ?_) (λ_ m hm=>?_);rw[hX];simp[go_sem,dS];refine(gQ s.k).use ?_;have hVV:V=CY (if s.k=1 then(2:Int)else 1) s.Q:=by rw[hV,h7];rfl
 generalize(if s.k=1 then(2:Int)else 1)=el at hVV;simp[go_sem];refine(bX el s.Q hps).use ?_;simp[go_sem,IO,hm,hVV];refine AJ ?_;simp[go_sem];exact out _ _ rfl
end Go.Proofs.YtgakninlhfkkmaaGreat.Sh
