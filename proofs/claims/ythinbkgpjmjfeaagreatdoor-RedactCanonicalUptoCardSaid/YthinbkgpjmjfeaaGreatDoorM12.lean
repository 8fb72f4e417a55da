/- A part of the proof (part 12 of 18). -/
import Derived.Test.YthinbkgpjmjfeaaGreatDoorM11
import Derived.Sort.LotA
import Derived.Shelf.SlSortCmp.NoneTotal
import Derived.Lib.IndexMore
import GoSem.Core.Utf8
namespace Go.Proofs.YthinbkgpjmjfeaaGreatDoor.Sh
open Go.Proofs.Tryz
abbrev wj:=@Dm.old
open Proofs
set_option maxRecDepth 10000
set_option maxHeartbeats 4000000
theorem WS{H:Hp}{n m k p:Nat}{es:List (Int×Int)}{x:Int×Int}{o:Option Nat}(a:BG n m 2 o (es.map BV))(hl:es.length<=1073741823)(h1:H k=some (.cells [AA x.1,AA x.2]))(h2:∀j,o=some j->H j=some (.cells ((es.map BV).flatMap SV.cells))):
 Af prog H p .append [209,209] [AQ 2 o (es.map BV),.sl k 0 2 1 true]=some { val:=.sl p 0 2 (es.length+1) false,upd:=o.map λj=>(j,none),new:=some (.cells ((es.map BV).flatMap SV.cells++[AA x.1,AA x.2])) }:=by
 have:=Hl (P:=prog) (H:=H) (t:=209) (t2:=209) (el:=142) nP nP nP nO nP nP nP (by simp;omega) a (e:=BV x) rfl h1 (λj e=>by rw[h2 j e]) p;rw[this];simp[BV,SV.cells]
structure YP(E:BU)(l:Nat)(ks0:List (Int×Int))(J:List (Int×Int)->(Nat->Prop)->Hp->Nat->Prop):Prop where
 step:∀ks x D h m,(∃rest,(ks++[x]++rest).Perm ks0)->J ks D h m->Fm E prog l [BV x] h m (Tv (J (ks++[x])) (λ_ _ _=>False) D h m)
 keep:∀ks D h m h' m',J ks D h m->m<=m'->(∀o,D o->h' o=h o)->J ks D h' m'
 lt:∀ks D h m,J ks D h m->∀o,D o->o<m
theorem MJ{c b a:List (Int×Int)}(h:(c++b).Perm a){i:Nat}(hi:i<b.length):(c++[b[i]]++b.eraseIdx i).Perm a:=by
 refine List.Perm.trans ?_ h;rw[qv];refine List.Perm.append_left c ?_;exact I5 b i hi
section
variable{E:BU}{yl:Nat}{J:List (Int×Int)->(Nat->Prop)->Hp->Nat->Prop}
theorem nL{d:List (Int×Int)}(Y:YP E yl d J)(es:List (SV×SV))(hk:es.map (·.1)=d.map BV){H:Hp}{n q s:Nat}{D:Nat->Prop}(K:H q=some (.cells [.map s]))(L:H s=some (.map es))(A:¬D s)(G:J [] D H n):
 Ab E prog 184 [.fn (.yield yl) [] [],.ptr q 0] H n (λ_ h' m'=>∃k D',k.Perm d/\n<=m'/\(∀o,D' o->D o\/(n<=o/\o<m'))/\(∀o,¬D o->o<n->o≠s->h' o=H o)/\J k D' h' m'):=by
 refine gq func184 rfl λI=>?_;have hqn:=(I q _ K).1;have hsn:=(I s _ L).1;have r:=Y.lt _ _ _ _ G;simp[go_sem,K];refine Lw (m:=s) (es:=es) rfl nP nP L ?_;simp[go_sem];refine A9 1 (α:=(List (Int×Int)×List (Int×Int))×(List (SV×SV)×Option (SV×SV))×(Nat->Prop)×Hp) (λa=>[(0,.fn (.yield yl) [] []),(5,.ptr n 0)]) (λa=>a.2.2.2)
  (λa m=>n<m/\a.2.2.2 n=some (.iter a.2.1.1 a.2.1.2)/\a.2.1.1.map (·.1)=a.1.2.map BV/\(a.1.1++a.1.2).Perm d/\J a.1.1 a.2.2.1 a.2.2.2 m/\(∀o,a.2.2.1 o->D o\/(n<o/\o<m))/\(∀o,¬D o->o<n->o≠s->a.2.2.2 o=H o)) (λa=>a.1.2.length)
  (([],d),(es,none),D,h_ (h_ H s none) n (some (.iter es none))) ?_ ?_ AE ?_
 refine⟨ve n,AC _ _ _,hk,List.Perm.refl _,Y.keep _ _ _ _ _ _ G (vP n) λo g=>?_,λo g=>.inl g,λo g1 F g3=>?_⟩;have:=r o g;show h_ (h_ H s none) n _ o=H o;rw[AB _ _ nN,AB _ _ (by rintro rfl;exact A g)];show h_ (h_ H s none) n _ o=H o;rw[AB _ _ nN,AB _ _ g3];simp[look];rintro⟨⟨k,j⟩,⟨left,last⟩,y,h2⟩ m ⟨hnm,ZN,h,b,e,c,Ar⟩;dsimp only at ZN h b e c Ar ⊢;have x:¬y n:=λg=>by rcases c n g with g|g;have:=r n g;omega;omega
 have C:left.length=j.length:=by have:=congrArg List.length h;simpa using this
 simp[go_sem];refine LF (q:=n) (left:=left) (last:=last) rfl nP ZN (λi hi=>?_) λh0=>?_;have f:i<j.length:=by omega
 have O:left[i].1=BV j[i]:=by
  have:=congrArg (λl=>l[i]?) h;simpa[hi,f]using this
 simp[go_sem];refine Lu (q:=n) (left:=left.eraseIdx i) (p:=left[i]) rfl nP (AC _ _ _) ?_;have w:=Y.lt _ _ _ _ e;simp[go_sem,O,BV,AC,AZ];refine Fm.mono (Y.step k j[i] y _ _ ⟨_,MJ b f⟩ (Y.keep _ _ _ _ _ _ e (vP m) λo g=>by have:=w o g;rw[AB _ _ nN,AB _ _ (by rintro rfl;exact x g)])) ?_;rintro v N m3 ⟨hm3,M,z,t,⟨rfl,B⟩|⟨_,B⟩⟩;simp[go_sem];refine⟨k++[j[i]],j.eraseIdx i,by rw[List.length_eraseIdx];simp[f];omega,left.eraseIdx i,some left[i],M,N,⟨by omega,?_,?_,?_,B,λo g=>?_,λo g1 F g3=>?_⟩,AE⟩;rw[t n x nN,AB _ _ nN];exact AC _ _ _;rw[FU,FU,h];exact MJ b f;rcases z o g with g|g;rcases c o g with g|g;exact .inl g;exact .inr nN;exact .inr nN;have:¬y o:=λg=>by rcases c o g with g|g;exact g1 g;omega
 rw[t o this nN,AB _ _ nN,AB _ _ nN];exact Ar o g1 F g3;exact B.elim;have u:j=[]:=List.eq_nil_of_length_eq_zero (by rw[<-C,h0];rfl);subst u;simp[go_sem];refine .inl ⟨k,by simpa using b,by omega,y,λo g=>?_,Ar,e⟩;rcases c o g with g|g;exact .inl g;exact .inr nN
end
theorem nM(es:List (SV×SV))(c:List (Int×Int))(hk:es.map (·.1)=c.map BV)(hlen:c.length<=1048576){H:Hp}{n q s:Nat}(K:H q=some (.cells [.map s]))(t:H s=some (.map es)):
 BF prog 241 [.x 0 [] true,.fn (.func 184) [] [.ptr q 0]] H n (λv h' n'=>∃a:List (Int×Int),a.Perm c/\M7 2 (a.map BV) (h_ H s none) n v h' n'):=by
 refine goM func241 rfl nQ nQ nP λI B=>?_;have hqn:=(I q _ K).1;have hsn:=(I s _ t).1;have hqs:q≠s:=by rintro rfl;rw[K]at t;cases t
 simp[go_sem];refine He rfl rfl rfl λE1 l R P=>?_;let J:List (Int×Int)->(Nat->Prop)->Hp->Nat->Prop:=λa D hh m=>∃o:Option Nat,D=(λj=>j=n\/j=n+1\/o=some j)/\n+1<m/\hh n=some (.cells [AQ 2 o (a.map BV)])/\hh (n+1)=some (.loop (R .ready none))/\BG (n+2) m 2 o (a.map BV)/\∀j,o=some j->hh j=some (.cells ((a.map BV).flatMap SV.cells));have Y:YP E1 l c J:=by
  refine⟨?_,?_,?_⟩
  . rintro a x D hh m ⟨rest,hp⟩ ⟨o,G,F,g1,b,g3,i⟩;have hkl:a.length+1<=1048576:=by have:=hp.length_eq;simp at this;omega
    rw[show BV x=.agg [AA x.1,AA x.2]from rfl];refine P _ _ _ _ b rfl (Lp ?_);have u:n≠m:=by omega
    have L:n+1≠m:=by omega
    have z:n≠m+1:=by omega
    have A:n≠m+1+1:=by omega
    have N:m≠m+1:=by omega
    have C:m≠n+1:=by omega
    have E:n+1≠m+1:=by omega
    have O:m+1≠n+1:=by omega
    have w:m+1≠n:=by omega
    have d:m≠n:=by omega
    have p:∀j,o=some j->n+2<=j/\j<m:=λj e=>g3.lt j e;simp[go_sem,Ic,AC,AB,AZ,g1,b,u,L,C];rw[WS (x:=x) g3 nN (by simp[h_]) (by
     intro j e;have:=p j e;have:=i j e;simp only[h_];grind)]
    have done:∀(h:Hp)(o2:Nat),o2=m+2->(∀j,¬(j=n\/j=n+1\/o=some j)->j<m->h j=hh j)->h n=some (.cells [.sl o2 0 2 (a.length+1) false])->h o2=some (.cells ((a.map BV).flatMap SV.cells++[AA x.1,AA x.2]))->h (n+1)=some (.loop (R .busy none))->
     ∀sa,Ln (n+1) R (Tv (J (a++[x])) (λ_ _ _=>False) D hh m) .normal sa h (m+1+1+1):=by
     rintro h o2 rfl S T U V sa;subst G;refine⟨V,by omega,λj=>j=n\/j=n+1\/some (m+2)=some j,λj g=>?_,λj g1 b=>?_,.inl ⟨rfl,some (m+2),rfl,by omega,?_,AC _ _ _,?_,λj e=>?_⟩⟩;rcases g with g|g|g;exact .inl (.inl g);exact .inl (.inr (.inl g));cases g;exact .inr nN;rw[AB _ _ (λe=>g1 (.inr (.inl e)))];exact S j g1 b;rw[AB _ _ nN,T];simp[AQ];rw[qc];exact g3.push rfl rfl nN nN;cases e;rw[AB _ _ nN,U,qc,qS];rfl
    cases o with
    | none=>
     simp[go_sem,AB,g1,u,z,A,AQ];refine done _ _ rfl (λj h1 h2=>?_) ?_ ?_ ?_ _;simp only[h_];grind;simp only[h_];grind;simp only[h_];grind;simp only[h_];grind
    | some j=>
     have hj:=p j rfl;have M:n≠j:=by omega
     simp[go_sem,AB,g1,u,M,z,A,AQ];refine done _ _ rfl (λj h1 h2=>?_) ?_ ?_ ?_ _;simp only[h_];grind;simp only[h_];grind;simp only[h_];grind;simp only[h_];grind
  rintro a D hh m h' m' ⟨o,rfl,F,g1,b,g3,i⟩ hm r;exact⟨o,rfl,by omega,by rw[r _ (.inl rfl)];exact g1,by rw[r _ (.inr (.inl rfl))];exact b,g3.mono hm,λj e=>by rw[r _ (.inr (.inr e))];exact i j e⟩;rintro a D hh m ⟨o,rfl,F,g1,b,g3,i⟩ j (rfl|rfl|e);omega;omega;exact(g3.lt j e).2
 refine wn (nL Y es hk (D:=λj=>j=n\/j=n+1) (s:=s) ?_ ?_ ?_ ?_) ?_;simp[h_];rw[nR nN,nR nN];exact K;simp[h_];rw[nR nN,nR nN];exact t;omega;exact⟨none,by simp,by omega,by simp[h_,AQ],by simp[h_],wF _ _ _,by simp⟩;rintro _ h' m' ⟨a,D',f,hm,r,Ar,o,rfl,F,g1,b,g3,i⟩;refine⟨_,_,b,by simp,?_⟩;simp[go_sem,AB,g1];refine .inl ⟨a,f,by omega,λj y e=>?_,?_⟩;have k:j≠s:=by rintro rfl;simp[h_]at e
 rw[AB _ _ k]at e;have:=(I j y e).1;rw[AB _ _ nN,Ar j nN nN k,AB _ _ nN,AB _ _ nN,e];cases o with
 | none=>
  have Q:=g3.none rfl;exact .inl ⟨Q,0,true,rfl⟩
 | some j=>
  have:=g3.lt j rfl;exact .inr ⟨j,false,by omega,by omega,by simp[AQ],by rw[AB _ _ nN];exact i j rfl⟩
def Ve:List Int->Int
 | []=>0
 | x::l=>if x≠0 then x else Ve l
theorem nI(l:List Int)(hl:l.length<=1073741824)(full:Bool):PC 137 [.x 1 (l.map AA) full] (AA (Ve l)):=by
 intro h n;refine gq func137 rfl λf=>?_;simp[go_sem];refine A9 1 (α:=Nat) (λk=>[(3,AA 0),(6,.x 1 (l.map AA) full),(7,AA l.length),(8,AA k)]) (λ_=>h) (λk m=>k<=l.length/\n<=m/\Ve l=Ve (l.drop k)) (λk=>l.length-k) 0 ?_ ?_ AE ?_;simp;simp[look];rintro k m ⟨hk,c,b⟩;by_cases a:k<l.length;have g:=wS k nN;obtain⟨y,d⟩:∃y,l[k]=y:=⟨_,rfl⟩
 have hd:l.drop k=y::l.drop (k+1):=by rw[qG a,d]
 rw[hd,Ve]at b;by_cases e:y=0;rw[nR (by simpa using e)]at b;simp[go_sem,a,d,e,g,-Int.natCast_add];exact⟨k+1,by omega,⟨by omega,c,b⟩,Or⟩;rw[nS e]at b;simp[go_sem,a,d,e];exact An f rfl (by rw[b]);rw[List.drop_eq_nil_of_le nN]at b;simp[go_sem,a];exact An f rfl (by rw[b];rfl)
def Id(a b:Int×Int):Int:=Ve [Fe a.1 b.1,Fe a.2 b.2]
def cE:Tr:=.pure 0<|.pure 1<|.pure 2<|.pure 3<|.pure 5<|.pure 6<|.pure 7<|.pure 8<|.one 4<|.one 9<|.one 10<|.one 11<|.one 12 .nil
theorem nH(a b:Int×Int):PC 136 [BV a,BV b] (AA (Id a b)):=by
 intro h n;refine E8 func136 rfl λf=>?_;have c:=f.lt;refine Ao 1 [(2,.q [AA a.1,AA a.2]),(3,.q [AA b.1,AA b.2])] h n ?_ (λm hm=>?_);simp[go_sem,BV];refine⟨by omega,⟨Ak (f.none nN) (by simp[h_]),Ak (f.none nN) (by simp[h_])⟩,λj y e=>by have:=c j y e;simp only[h_];grind⟩;have d:∀j y,h j=some y->j<m:=λj y e=>by have:=c j y e;omega
 refine AR 0 (α:=Unit) (λ_=>[(4,AA (Id a b))]) (λ_=>h) (λ_ m=>n<=m) (CJ cE rfl nQ nQ ?_) (λ_ m hm=>?_);simp[go_sem,cE];refine qO (cv a.1 b.1) ?_;simp[go_sem];refine qO (cv a.2 b.2) ?_;simp[go_sem];have g:Fz (h_ h m (some (.cells [AA (Fe a.1 b.1),AA (Fe a.2 b.2)]))) h 1 (.sl m 0 1 2 true) (.x 1 ([Fe a.1 b.1,Fe a.2 b.2].map AA) false):=
  Ez (h':=h_ h m (some (.cells [AA (Fe a.1 b.1),AA (Fe a.2 b.2)]))) (h:=h) (k:=0) (z:=1) (o:=m) (full:=true) (full':=false) (es:=[AA (Fe a.1 b.1),AA (Fe a.2 b.2)]) (Ac d (IO _)) nO (by rw[AC];simp[SV.cells]) (by simp[SV.B,SV.cells])
 refine wT (bs:=[.x 1 ([Fe a.1 b.1,Fe a.2 b.2].map AA) false]) (h2:=h) 1 (AV d AE) ⟨g,trivial⟩ ((nI [Fe a.1 b.1,Fe a.2 b.2] nO false).use ?_);simp[go_sem,Or,Id];omega;refine AJ ?_;simp[go_sem];exact An f rfl rfl
def de(l:List (Int×Int)):List SV:=(l.map BV).flatMap SV.cells
theorem TP(l:List (Int×Int)):∀e∈l.map BV,e.B=true/\e.cells.length=2:=λe a=>by
 obtain⟨x,_,rfl⟩:=qb.1 a;exact⟨rfl,rfl⟩
theorem UZ:∀(l:List (Int×Int)),(de l).length=l.length*2
 | []=>rfl
 | x::l=>by have:=UZ l;simp only[de,qg,qV,qk,qo,BV,SV.cells,vL]at *;omega
open Go.Sort (SWO)
def Kk(x:Int×Int):List Value:=[.int .i64 x.1,.int .i64 x.2]
def Qi(l:List (Int×Int)):List Int:=l.flatMap λx=>[x.1,x.2]
theorem JK:∀l:List (Int×Int),(Qi l).length=l.length*2
 | []=>rfl
 | x::l=>by have:=JK l;simp only[Qi,qV,qk,qo,vL]at *;omega
theorem Pw:∀l:List (Int×Int),de l=(Qi l).map AA
 | []=>rfl
 | x::l=>by
  have:=Pw l;unfold de Qi at *;simp only[qg,qV,qc,this];rfl
theorem UD:∀(l:List (Int×Int))(t:Nat)(h:t<l.length*2),((Qi l).map (Value.int .i64))[t]? = (Kk l[t / 2])[t % 2]?
 | [],t,h=>by simp at h
 | x::l,0,h=>rfl
 | x::l,1,h=>rfl
 | x::l,t+2,h=>by
  have a:(t+2) / 2=t / 2+1:=by omega
  have b:(t+2) % 2=t % 2:=by omega
  have h2:t<l.length*2:=by simp at h;omega
  have:=UD l t h2;simp only[a,b,List.getElem_cons_succ];rw[<-this];rfl
theorem bb(l:List (Int×Int)):Go.Sort.flatK Kk 2 l.toArray=((Qi l).map (Value.int .i64)).toArray:=by
 refine Go.Sort.ext_get! (by simp[JK]) λt ht=>?_;have a:t<l.length*2:=by simpa using ht
 rw[Go.Sort.get_flatK _ _ _ _ (by simpa using a)];have h1:=UD l t a;have h2:t / 2<l.length:=by omega
 have f:t % 2<2:=Nat.mod_lt _ nN;have d:(l.toArray)[t / 2]! = l[t / 2]:=by rw[getElem!_pos _ _ (by simpa using h2)];simp
 rw[d];have b:t<((Qi l).map (Value.int .i64)).length:=by rw[qj,JK];exact a
 have c:t % 2<(Kk l[t / 2]).length:=f;have e:((Qi l).map (Value.int .i64)).toArray[t]! = ((Qi l).map (Value.int .i64))[t]:=by
  rw[getElem!_pos ((Qi l).map (Value.int .i64)).toArray t (by simpa using b)];simp
 rw[e,getElem!_pos (Kk l[t / 2]) (t % 2) c];rw[qm b,qm c]at h1;exact(Option.some.inj h1).symm
theorem dX(x y:Int×Int):ltOf Id x y=decide (x.1<y.1\/(x.1=y.1/\x.2<y.2)):=by
 unfold ltOf Id Fe;by_cases h1:x.1<y.1;simp[h1,Ve];by_cases h2:y.1<x.1;have:¬x.1=y.1:=by omega
 simp[h1,h2,Ve,this];have:x.1=y.1:=by omega
 by_cases a:x.2<y.2;simp[this,a,Ve];by_cases b:y.2<x.2<;>simp[this,a,b,Ve]
theorem ic:SWO (ltOf Id) where
 irrefl x:=by rw[dX];simp
 trans x y z h1 h2:=by rw[dX]at *;simp at *;omega
 ntrans x y z h1 h2:=by rw[dX]at *;simp at *;omega
def DM(l:List (Int×Int)):List (Int×Int):=l.mergeSort λx y=>!(ltOf Id) y x
theorem WF(c:Cx)(x:Int×Int):V c (BV x) (.agg (Kk x).toArray):=by
 rw[BV,V];exact⟨Kk x,rfl,BE.2 ⟨by simp[V],by simp[V],trivial⟩,λv hv=>by simp[Kk]at hv;rcases hv with rfl|rfl<;>rfl⟩
theorem iK(a off size:Nat)(w:World):CmpLays prog 136 #[] Kk 2 Id a off size w:=by
 intro m os c _ x y;have:=(nH x y).grown (W:=sortWorldK Kk 2 w a off m c os) (vs:=[.agg (Kk x).toArray,.agg (Kk y).toArray]) ⟨WF _ x,WF _ y,trivial⟩;refine this.mono ?_;rintro e w' ⟨⟨u,c',rfl,d⟩,q,b,rfl⟩;rw[Dl d];exact⟨rfl,q,b,rfl⟩
theorem br:K3 prog 183=true:=by unfold K3;rw[func183];kernel_rfl
theorem RZ(c:Cx):∀l:List Int,AT (V c) (l.map AA) (l.map (Value.int .i64))
 | []=>trivial
 | x::l=>⟨by simp[V],RZ c l⟩
theorem nK(l:List (Int×Int))(hl:l.length<=1048576){H:Hp}{n o:Nat}{full:Bool}{t:List SV}(O:H o=some (.cells (de l++t))):
 BF prog 183 [.sl o 0 2 l.length full,.fn (.func 136) [] []] H n (λv h' n'=>v=.tup []/\h'=h_ H o (some (.cells (de (DM l)++t)))/\n'=n):=by
 refine⟨br,λc vs _ R F A=>?_⟩;have⟨u,rs,ev,hv,A2⟩:∃u rs,vs=u::rs/\V c (.sl o 0 2 l.length full) u/\AT (V c) [.fn (.func 136) [] []] rs:=by
  cases vs with
  | nil=>exact A.elim
  | cons u rs=>exact⟨u,rs,rfl,A.1,A.2⟩
 obtain⟨u2,rfl,r⟩:=A2.single;subst ev;simp only[V,VL]at hv r;obtain⟨xs,ys,rfl,s,hy⟩:=r;subst s hy;obtain⟨b,st,cap,hρ,rfl,hcap,_,hroom⟩:=hv;obtain⟨U,st',arr,e,vs,g1,p,g3,K,Z,_⟩:=R.obj o _ O;rw[hρ]at g1;cases g1;have M:=AT.pre K;rw[Pw,qj,JK]at M;have J:=P1 M;have N:=AT.drop (l.length*2) K;rw[List.drop_left' (by rw[UZ])]at N;have a:b<c.w.heap.size:=(qe.1 p).1;have d:∀j (x:Value),((Qi l).map (Value.int .i64))[j]? = some x->arr[st+j]? = some x:=λj x e=>by
  rw[<-J]at e;exact g3 j x (by rw[vF]at e;split at e;exact e;cases e)
 have E:Go.Sort.HoldsK Kk 2 c.w b (st+0) l.toArray:=by
  unfold Go.Sort.HoldsK;rw[bb];intro j P;have G:j<((Qi l).map (Value.int .i64)).length:=by simpa using P
  have W:((Qi l).map (Value.int .i64)).toArray[j]! = ((Qi l).map (Value.int .i64))[j]:=by
   rw[getElem!_pos ((Qi l).map (Value.int .i64)).toArray j P];simp
  rw[W];exact⟨by simp[World.cell?,p,d j _ (qm G)],by simp[World.frozen?,p]⟩
 have Y:∀args w,(callFunc 136 args).run prog w=.ok (.enter 136 args) w:=enters_of func136 nQ rfl;have Q:=AnyQ.slices_SortFunc Tryz.sortB 2 Tryz.isAgg142 Tryz.sizeOf142 Kk (λ_=>rfl) (λx v hv=>by simp[Kk]at hv;rcases hv with rfl|rfl<;>rfl) Id ic 136 #[] b (st+0) cap l.toArray c.w Y (iK _ _ _ _) E a (by simp;omega);have C:Calls prog 183 #[.slice (some ⟨b,st+0,none⟩) l.length cap,.func (.func 136) #[] #[]] c.w λe w'=>e=.returned (.tuple #[])/\∃k os,w'=Go.Sort.grow (Go.Sort.putRow id (Go.Sort.ahead c.w k) b (st+0) ((Qi (DM l)).map (Value.int .i64)).toArray) os:=by
  refine Q.mono ?_;rintro e w' ⟨rfl,D,k,os,h1,h2,rfl⟩;refine⟨rfl,k,os,?_⟩;have h3:=Go.Sort.sorted_unique_holds ic (λx y h1 h2=>by
   rw[dX]at h1 h2;simp at h1 h2;exact Prod.ext nN nN) l.toArray D h1 h2
  have h6:D=(DM l).toArray:=by rw[<-Array.toArray_toList (xs:=D),h3];rfl
  unfold sortWorldK Go.Sort.putRowK;rw[h6,bb]
 refine C.mono ?_;rintro e w' ⟨rfl,k,os,rfl⟩;have q:(DM l).length=l.length:=wh _;obtain⟨L,B⟩:∃L,L=(Qi (DM l)).map (Value.int .i64):=⟨_,rfl⟩
 have hLl:L.length=l.length*2:=by rw[B,qj,JK,q]
 have hfl:((Qi l).map (Value.int .i64)).length=l.length*2:=by rw[qj,JK]
 rw[<-B];have m:(Go.Sort.grow (Go.Sort.putRow id (Go.Sort.ahead c.w k) b (st+0) L.toArray) os).heap=(c.w.heap.modify b (Go.Sort.onCells (Go.Sort.putCells id (st+0) L.toArray)))++os:=rfl;have f:(Go.Sort.grow (Go.Sort.putRow id (Go.Sort.ahead c.w k) b (st+0) L.toArray) os).heap[b]? = some (.cells (Go.Sort.putCells id (st+0) L.toArray arr) e (0,0)):=by
  rw[m,vN (by simpa using a),wi,nS rfl,p];rfl
 obtain⟨S,T⟩:=R.write2 (w':=Go.Sort.grow (Go.Sort.putRow id (Go.Sort.ahead c.w k) b (st+0) L.toArray) os) (y:=.cells (de (DM l)++t)) O hρ
  (by rw[m];simp) (λU hb I=>by rw[m,vN (by simpa using I),wi,nR (Ne.symm hb)])
  (by unfold rm; rw [f, p]; simp [Go.Sort.putCells]) rfl rfl (fun X => by
    refine⟨b,st,_,e,L++vs.drop (l.length*2),hρ,f,λi x hi=>?_,?_,λx s=>?_,Ty.none⟩;simp only[Go.Sort.putCells,Array.getElem?_mapIdx,ww,List.size_toArray];by_cases g:i<L.length;rw[we g]at hi;have s:L[i]=x:=by rw[qm g]at hi;exact Option.some.inj hi
    have h7:=d i _ (qm nN);rw[h7,vK,nS ⟨by omega,by omega⟩,show st+i-st=i by omega];rw[getElem!_pos L.toArray i (by simpa using g)];simp[s];rw[vM nN,vq,show l.length*2+(i-L.length)=i by omega]at hi;rw[g3 i x hi,vK,nR nN];rw[Pw];refine wl ?_ (wP X N);rw[B];exact RZ _ _;rcases qf.1 s with h|h;rw[B]at h;obtain⟨z,_,rfl⟩:=qb.1 h;rfl;exact Z x (vu h))
 exact⟨.tuple #[],.tup [],_,n,_,rfl,⟨rfl,rfl,rfl⟩,rfl,by simp[V,VL],S,F,⟨T,IO _,λ_ _=>rfl⟩⟩
end Go.Proofs.YthinbkgpjmjfeaaGreatDoor.Sh
namespace Go.Proofs.YthinbkgpjmjfeaaGreatDoor.Sh
open Go.Proofs.Tryz
open Proofs
set_option maxRecDepth 10000
set_option maxHeartbeats 4000000
theorem jD(z:Nat)(full:Bool):PC 183 [.x z [] full,.fn (.func 136) [] []] (.tup []):=by
 intro h n;refine⟨br,λc vs _ R F A=>?_⟩;have⟨u,rs,ev,hv,A2⟩:∃u rs,vs=u::rs/\V c (.x z [] full) u/\AT (V c) [.fn (.func 136) [] []] rs:=by
  cases vs with
  | nil=>exact A.elim
  | cons u rs=>exact⟨u,rs,rfl,A.1,A.2⟩
 obtain⟨b,rfl,hv2⟩:=A2.single;subst ev;rw[V]at hv;have fin:∀(p:Option Addr)(cap:Nat),Calls prog 183 #[.slice p 0 cap,b] c.w λe w'=>e=.returned (.tuple #[])/\w'=c.w:=λp cap=>AnyF.slices_SortFunc_none Tryz.sortB p cap b c.w;have key:∃p cap,u=.slice p 0 cap:=by
  rcases hv with⟨_,rfl⟩|⟨a,cap,_,rfl,_⟩
  exact⟨_,_,rfl⟩;exact⟨_,_,rfl⟩
 obtain⟨p,cap,rfl⟩:=key;refine(fin p cap).mono ?_;rintro e w' ⟨rfl,rfl⟩;exact⟨.tuple #[],.tup [],h,n,c,rfl,⟨rfl,rfl,rfl⟩,rfl,by simp[V,VL],R,F,wD n c⟩
theorem nJ(es:List (SV×SV))(a:List (Int×Int))(hk:es.map (·.1)=a.map BV)(b:a.length<=1048576){H:Hp}{n q s:Nat}(e:H q=some (.cells [.map s]))(f:H s=some (.map es)):
 BF prog 182 [.fn (.func 184) [] [.ptr q 0]] H n (λv h' n'=>∃c:List (Int×Int),c.Perm a/\M7 2 (c.map BV) (h_ H s none) n v h' n'):=by
 refine gq func182 rfl λho=>?_;simp[go_sem];refine qI (nM es a hk b e f) ?_;rintro v h' n' ⟨c,hp,d⟩;simp[go_sem];exact .inl ⟨c,hp,d⟩
theorem OF{a b:List (Int×Int)}(h:a.Perm b):DM a=DM b:=by
 have tr:∀x y z:Int×Int,(!(ltOf Id) y x)=true->(!(ltOf Id) z y)=true->(!(ltOf Id) z x)=true:=λx y z h1 h2=>by simp only[dX,qP,decide_eq_false_iff_not]at *;omega
 have to:∀x y:Int×Int,((!(ltOf Id) y x)||(!(ltOf Id) x y))=true:=λx y=>by simp only[dX,vU,qP,decide_eq_false_iff_not];omega
 refine List.Perm.eq_of_pairwise (le:=λx y=>(!(ltOf Id) y x)=true) (λx y _ _ h1 h2=>?_) (wu tr to a) (wu tr to b) (((List.mergeSort_perm a _).trans h).trans (List.mergeSort_perm b _).symm);simp only[dX,qP,decide_eq_false_iff_not]at h1 h2;exact Prod.ext nN nN
theorem nF(es:List (SV×SV))(a:List (Int×Int))(hk:es.map (·.1)=a.map BV)(c:a.length<=1048576){H:Hp}{n q s:Nat}(p:H q=some (.cells [.map s]))(i:H s=some (.map es)):
 BF prog 134 [.fn (.func 184) [] [.ptr q 0],.fn (.func 136) [] []] H n (M7 2 ((DM a).map BV) (h_ H s none) n):=by
 refine gq func134 rfl λh=>?_;simp[go_sem];refine qI (nJ es a hk c p i) ?_;rintro v h' n' ⟨k,hp,b,Ar,hv⟩;have hkl:=hp.length_eq;rcases hv with⟨g,l,full,rfl⟩|⟨o,full,h1,h2,rfl,m⟩
 simp[go_sem];refine(jD l full).use ?_;simp[go_sem];simp only[vV]at g;subst g;have:a=[]:=by simpa using hp.symm
 subst this;exact .inl ⟨b,Ar,.inl ⟨by simp[DM],l,full,rfl⟩⟩;simp[go_sem];refine qI (nK k nN (t:=[]) (by rw[vp];exact m)) ?_;rintro v h4 n4 ⟨rfl,rfl,rfl⟩;simp[go_sem];have hos:o≠s:=by have:=(h s _ i).1;omega
 refine .inl ⟨b,λj y e=>?_,.inr ⟨o,full,h1,h2,?_,?_⟩⟩;have d:j≠s:=by rintro rfl;simp[h_]at e
 have f:=e;rw[AB _ _ d]at f;have:=(h j y f).1;rw[AB _ _ nN];exact Ar j y e;have:(DM a).length=k.length:=by rw[<-OF hp];exact wh _
 simp[this];rw[AC,OF hp];rfl
theorem nG{H:Hp}{n s:Nat}:BF prog 135 [.map s] H n (λv h' n'=>v=.fn (.func 184) [] [.ptr n 0]/\h'=h_ H n (some (.cells [.map s]))/\n'=n+1):=by
 refine gq func135 rfl λho=>?_;simp[go_sem];exact .inl ⟨rfl,rfl,rfl⟩
section
variable{σ:Type}
def Ia(R:Pa σ)(N:Nat)(d:AH)(s:σ):AH×σ:=
 ({ d with W:=(Au R N 0 d.W s).1,T0:=(R.H d.T0 (Au R N 0 d.W s).2).1 },(R.H d.T0 (Au R N 0 d.W s).2).2)
variable{st:σ->Nat->Option A7}{n0:Nat}{gF gH gI:FuncId}{bF bH bI:List SV}{R:Pa σ}{pf:Nat->List AD->Prop}{pi:Nat->AD->Prop}{hp:AF->Prop}{rk:σ->Nat}{top:Nat}
theorem K8{h h2:Hp}{n n':Nat}{v:SV}(b:HQ h n)(a:C_ n v=true)(hh:∀j y,h j=some y->h2 j=some y):Cb n h2 n' v (λw h' n'=>w=v/\h'=h/\n'=n):=
 .inr ⟨0,v,h,Or,a,λj x e=>⟨hh j x e,b j x e⟩,rfl,rfl,rfl⟩
theorem AH.cl(n:Nat)(d:AH):C_ n d.h=true:=by
 rw[AH.h,C_,Cc,Cc,Cc];simp[C_,c_,AF.flat_closed,AO.j,AD.E.c_,CI.E.c_,Al.E.c_,Fb.E.c_,AX.E.c_,Gq.E.c_]
def cM:Tr:=(.pure 0 (.pure 1 (.pure 4 (.pure 5 (.pure 6 (.two 2 7 (.two 3 7 (.one 7 (.pure 9 (.one 8 (.one 10 (.pure 11 (.one 12 .nil)))))) (.one 3 (.pure 9 (.one 8 (.one 10 (.pure 11 (.one 12 .nil))))))) (.one 2 (.one 3 (.pure 9 (.one 8 (.one 10 (.pure 11 (.one 12 .nil)))))))))))))
abbrev LY:List SV:=[.x 0 [] true,.x 0 [] true,AA 0,AA 0,.x 0 [] true,.x 0 [] true,.x 0 [] true,.x 0 [] true,.x 0 [] true,.x 0 [] true,.x 0 [] true]
theorem gh(C:Zb st n0 gF gH gI bF bH bI R pf pi hp rk top)(d:AH)(hd:d.D)(M:hp d.T0)(N:Nat)(X:pf N d.W)(s:σ)(ht:rk (Ia R N d s).2<=top){H:Hp}{n:Nat}(hn:n0<=n)(hs:MX st s H):
 BF prog 49 [.agg [.fn (.func gF) [] bF,.fn (.func gH) [] bH,.fn (.func gI) [] bI],d.h] H n (λv h' n'=>v=(Ia R N d s).1.h/\h'=Aq st (Ia R N d s).2 H/\n'=n):=by
 refine E8 func49 rfl λJ=>?_;have K:=C.clo;have P:∀p,HQ (Aq st p H) n:=λp=>K.old p hn J;have G:∀p j y,Aq st p H j=some y->j<n:=λp j y e=>(P p j y e).1;have z:=c79 d hd;have o:=gQ C N 0 d.W s;have c:=C.up.H d.T0 (Au R N 0 d.W s).2;unfold Ia at ht ⊢;generalize hi:Au R N 0 d.W s=r1 at ht o c ⊢;obtain⟨O,s1⟩:=r1;dsimp only at ht o c ⊢;have l:=C.H d.T0 s1;generalize hh:R.H d.T0 s1=r2 at ht l c ⊢;obtain⟨a,s2⟩:=r2;dsimp only at ht l c ⊢;obtain⟨D,E⟩:∃D:List SV,D=[AI d.W,AU d.T0.Q,AA d.T0.I,AA d.T0.move,Aa d.T0.Y,AN d.T0.Z,Cq d.V,AW d.S.A,CA d.S.L,A8 d.S.C,CW d.S.vars]:=⟨_,rfl⟩
 have B:d.h=.agg D:=by rw[E];simp[AH.h,AF.j,AO.j]
 have T:∀(s:σ)(x y:Option A7),h_ (h_ (Aq st s H) (n+1) x) (n+2) y=Aq st s (h_ (h_ H (n+1) x) (n+2) y):=λs x y=>by rw[K.h_ _ _ nN,K.h_ _ _ nN]
 refine A6 1 [(2,.q [.fn (.func gF) [] bF,.fn (.func gH) [] bH,.fn (.func gI) [] bI]),(3,.ptr (n+1) 0),(4,.ptr (n+2) 0)] (h_ (h_ (Aq st s H) (n+1) (some (.cells D))) (n+2) (some (.cells LY))) (λm=>n+3=m) ?_ (λm hm=>?_);rw[B,Cs s H hs];simp[go_sem,Or];refine⟨Ak (by rw[AB _ _ nN,AB _ _ nN];exact J.none (IO n)) (by simp[h_];omega),λj y=>?_⟩;have:=J j y;simp only[h_];grind;subst hm;refine A6 0 [(2,.q [.fn (.func gF) [] bF,.fn (.func gH) [] bH,.fn (.func gI) [] bI]),(3,.ptr (n+1) 0),(4,.ptr (n+2) 0)] (h_ (h_ (Aq st s H) (n+1) (some (.cells D))) (n+2) (some (.cells LY))) (λm=>n+3=m) ?_ (λm hm=>?_);rw[B,E]at z;rw[E];simp[go_sem,AC,AB];refine qO z ?_;simp[go_sem,Or,AC,AB];intro j y;simp only[h_];grind;subst hm;obtain⟨i,F⟩:∃i:Hp,i=h_ (h_ H (n+1) (some (.cells D))) (n+2) (some (.cells LY)):=⟨_,rfl⟩
 have k:∀s,h_ (h_ (Aq st s H) (n+1) (some (.cells D))) (n+2) (some (.cells LY))=Aq st s i:=λs=>by rw[T,F]
 have hk:∀s,Aq st s i (n+1)=some (.cells D):=λs=>by rw[<-k,AB _ _ nN,AC]
 obtain⟨r,u⟩:∃r:List SV,r=[AI O,AU a.Q,AA a.I,AA a.move,Aa a.Y,AN a.Z,Cq d.V,AW d.S.A,CA d.S.L,A8 d.S.C,CW d.S.vars]:=⟨_,rfl⟩
 have g:=o (Aq st s i) (n+3) X (qy c ht) nN CZ;have f:=l (Aq st s1 i) (n+3) M ht nN CZ;rw[K.up2]at g f;rw[k];refine AR 0 (α:=Unit) (λ_=>[(3,.ptr (n+1) 0),(4,.ptr (n+2) 0)]) (λ_=>h_ (h_ (Aq st s2 H) (n+1) (some (.cells r))) (n+2) (some (.cells LY))) (λ_ m=>n+3=m) (CJ cM rfl nQ nQ ?_) (λ_ m hm=>?_);have fin:∀j w,h_ (h_ (Aq st s2 H) (n+1) (some (.cells r))) (n+2) (some (.cells LY)) j=some w->h_ (Aq st s2 i) (n+1) (some (.cells r)) j=some w:=λj w e=>by
  rw[<-k];simp only[h_]at e ⊢;grind
 rw[u]at fin ⊢;rw[E]at hk;simp[go_sem,cM,hk];refine⟨⟨?_,?_⟩,?_⟩;refine qI g ?_;rintro v t n' ⟨rfl,rfl,rfl⟩;simp[go_sem,hk];refine qI (by simpa[AF.h,AF.j]using f) ?_;rintro v t n' ⟨rfl,rfl,b⟩;simp[go_sem,hk,AC,AZ,Or];exact⟨b.symm,fin⟩;refine qI g ?_;rintro v t n' ⟨rfl,rfl,rfl⟩;simp[go_sem];refine qI (by simpa[AF.h,AF.j]using f) ?_;rintro v t n' ⟨rfl,rfl,b⟩;simp[go_sem,hk,AC,AZ,Or];exact⟨b.symm,fin⟩;refine qI g ?_;rintro v t n' ⟨rfl,rfl,rfl⟩;simp[go_sem];refine qI (by simpa[AF.h,AF.j]using f) ?_;rintro v t n' ⟨rfl,rfl,b⟩;simp[go_sem,hk,AC,AZ,Or];exact⟨b.symm,fin⟩;subst hm;refine AJ ?_;rw[u];simp[go_sem,AC,AB,AZ];have U:({ W:=O,T0:=a,V:=d.V,S:=d.S }:AH).h=.agg [AI O,AU a.Q,AA a.I,AA a.move,Aa a.Y,AN a.Z,Cq d.V,AW d.S.A,CA d.S.L,A8 d.S.C,CW d.S.vars]:=by simp[AH.h,AF.j,AO.j]
 rw[<-U];exact K8 (P s2) (AH.cl n _) λj y e=>by have:=G s2 j y e;rw[AB _ _ nN,AB _ _ nN];exact e
end
section
variable{P:Program}{E:BU}{evs:Operand->SV}{o:Oper}{h:Hp}{n:Nat}{K:SV->Hp->Nat->Prop}
end
def jY(s:ByteArray):Int:=if Cj s then DS s s.size else 0
theorem Za.st(e:SV)(h:∃r:Za,r.h=e):e.B=true/\e.cells.length=3:=by obtain⟨r,rfl⟩:=h;exact⟨rfl,rfl⟩
section
variable{E:BU}{P:Program}{N:Nat}{code:Code}{Q:Ca}{sa:SA}{G:Hp}{n m p z:Nat}{es:List SV}
theorem Qs(p:Nat)(b:∀e∈es,e.B=true/\e.cells.length=z)(hp:G p=some (.list z es))(H:∀o m,n<=m->BG n m z o es->(es=[]->o=none)->Fc E P N code Q sa (AS o es (h_ G p (some (.cells [AQ z o es])))) m):Fc E P N code Q sa G n:=by
 by_cases a:es=[];subst a;refine Qt p z hp ?_;exact H none n (IO _) (wF _ _ _) λ_=>rfl;refine Sb p z es hp a ?_;exact H (some n) (n+1) (vP _) ⟨by simp,λj e=>by cases e;omega,b⟩ λg=>absurd g a
theorem NA(p:Nat){o:Option Nat}{k m':Nat}(d:BG k m' z o es)(e:∀j y,G j=some y->j<k)(hpk:p<k)(h:es=[]->o=none)(H:Fc E P N code Q sa (h_ G p (some (.list z es))) n):Fc E P N code Q sa (AS o es (h_ G p (some (.cells [AQ z o es])))) n:=by
 cases o with
 | none=>
  have f:=d.none rfl;subst f;refine Of p z none (AC _ _ _) ?_;simpa[AS,AZ]using H
 | some j =>
  have hj:=(d.lt j rfl).1;have c:es≠[]:=λg=>by cases h g
  have a:p≠j:=by omega
  refine WE p j z es false none none (by simp only[AS];rw[AB _ _ a,AC];rfl) (AC _ _ _) c a ?_;have:h_ (h_ (AS (some j) es (h_ G p (some (.cells [AQ z (some j) es])))) p (some (.list z es))) j none=h_ G p (some (.list z es)):=by
   funext q;have i:=e q;simp only[AS,h_];by_cases h1:q=j;have hp:q≠p:=by omega
   rw[nS h1,nR hp];cases b:G q with
   | none=>rfl
   | some y=>have:=i y b;omega
   rw[nR h1,nR h1];by_cases h2:q=p;rw[nS h2,nS h2];rw[nR h2,nR h2,nR h2]
  rw[this];exact H
end
abbrev be:List SV:=[AA 0,AA 0,AA 0,.str .empty,.x 0 [] true,AA 0,AA 0,.x 0 [] true,.x 0 [] true,.x 0 [] true,.x 0 [] true]
inductive jR(s:ByteArray):Nat->Nat->Prop where
 | nil (a:Nat):jR s a a
 | cons {a b:Nat} (h1:a<s.size) (h2:(CL s a).2=true) (h3:jR s (a+(CL s a).1) b):jR s a b
inductive Rn(t:ByteArray):Nat->List Int->Prop where
 | nil:Rn t t.size []
 | cons {o:Nat} {T:List Int} (h1:o<t.size) (h2:(CL t o).2=true) (h3:Rn t (o+(CL t o).1) T):Rn t o (((Utf8.decode t o).1:Int)::T)
abbrev ZN(U S:List Int)(k:Nat):Prop:=(U.drop k).take S.length=S
theorem w46:PC 46 [] (.agg [.fn (.func 113) [] [],.fn (.func 114) [] [],.fn (.func 115) [] []]):=by
 intro h n;refine gq func46 rfl λa=>?_;simp[go_sem,AC,AZ];exact Bq a (AY a (IO _) AE) rfl rfl
theorem bD(id:Int)(l:List AD):PC 113 [AA id,AI l] (AI l):=by
 intro h n;refine gq func113 rfl λa=>?_;simp[go_sem];exact Bq a AE rfl (AD.E.x _ _ _ _)
theorem nD(x:AD):PC 115 [x.h] (.tup [x.h,.bool true]):=by
 intro h n;refine gq func115 rfl λa=>?_;rw[qz];simp[go_sem,AC,AZ,AB];exact Bq a (λj y=>by have:=a j y;simp only[h_];grind) rfl (by simp[C_,c_,AD.E.c_,AM.E.c_,Fd.E.c_,Dx.E.c_,BC.E.c_])
def Yq(k:Nat)(s:List (Int×Int))(o:Nat):Option A7:=if o=k then some (.map (C4 s))else if o=k+1 then some (.cells [.map k])else none
theorem Yr(k:Nat)(s:List (Int×Int))(H:Hp)(h1:H (k+1)=some (.cells [.map k])):Aq (Yq k) s H=h_ H k (some (.map (C4 s))):=by
 funext j;simp only[Aq,Yq,h_];by_cases e:j=k;simp[e];by_cases a:j=k+1;subst a;simp[h1];simp[e,a]
theorem ep(k n0:Nat)(hk:k<n0)(s:List (Int×Int)):∀o y,Yq k s o=some y->Ay n0 y=true:=λo y e=>by
 simp only[Yq]at e;split at e;cases e;simp only[Ay,qE,C4,qh];intro p hp;obtain⟨x,_,rfl⟩:=qb.1 hp;exact⟨by simp[BV,C_,c_],by simp[C_]⟩;split at e;cases e;simpa[Ay,C_,c_]using hk;cases e
def Xw:Pa (List (Int×Int)):=⟨λ_ l s=>(l,s),λx s=>(x,Ei s x.mvs),λx s=>(x,true,s)⟩
theorem mM{k n0 K:Nat}(hk:k+1<n0)(hK:K<=1048576):Zb (Yq k) n0 113 133 115 [] [.ptr (k+1) 0] [] Xw (lim AF.D K) (OW AF.D K) AF.D (λ_=>0) 0 where
 up:=⟨λ_ _ _=>IO _,λ_ _=>IO _,λ_ _=>IO _⟩
 lt s o h:=by simp only[Yq];rw[nR nN,nR nN]
 dom s s' o h:=by simp only[Yq]at h ⊢;split at h<;>simp_all
 cl s o y h:=ep k n0 nN s o y h
 zero l h:=h
 W N id l s H n hl ht hn hs:=by
  refine wn (bD id l H n) ?_;rintro v h' n' ⟨rfl,rfl,rfl⟩;exact⟨rfl,(Cs s _ hs).symm,rfl⟩
 H x s H n hx _ hn hs:=by
  have h1:H k=some (.map (C4 s)):=hs k _ (by simp[Yq]);have h2:H (k+1)=some (.cells [.map k]):=hs (k+1) _ (by simp[Yq]);refine wn (nE x hx s h2 h1) ?_;rintro v h' n' ⟨rfl,rfl,rfl⟩;exact⟨rfl,(Yr k _ H h2).symm,rfl⟩
 item N x s H n _ ht hn hs:=by
  refine wn (nD x H n) ?_;rintro v h' n' ⟨rfl,rfl,rfl⟩;exact⟨rfl,(Cs s _ hs).symm,rfl⟩
 flow_ok N id l s hl:=⟨by have:=(CX.1 hl).1;simp only[Xw];omega,(CX.1 hl).2.2⟩
 item_ok N x s hx _:=⟨hx.1,λ_=>hx.2.1,λ_=>⟨by have:=hx.2.2.1;simp only[Xw];omega,λr hr=>⟨(hx.2.2.2 r hr).1,by have:=(hx.2.2.2 r hr).2.1;omega,λc a=>(hx.2.2.2 r hr).2.2 c a⟩⟩⟩
def Cl:List (Int×Int)->Int->Int
 | [],_=>0
 | (a,b)::r,x=>if a=x then b else Cl r x
def DL:List (Int×Int)->Int->Int->List (Int×Int)
 | [],x,v=>[(x,v)]
 | (a,b)::r,x,v=>if a=x then(x,v)::r else(a,b)::DL r x v
def EA(l:List (Int×Int)):List (SV×SV):=l.map λp=>(AA p.1,AA p.2)
theorem FW:∀(l:List (Int×Int))(x v y:Int),Cl (DL l x v) y=if x=y then v else Cl l y
 | [],x,v,y=>by simp[DL,Cl]
 | (a,b)::r,x,v,y=>by
  rw[DL];split
  . next e=>subst e;simp only[Cl];split<;>simp
  . next e=>
    simp only[Cl,FW r x v y];split
    . next e2=>subst e2;rw[nR (λg=>e g.symm)]
    rfl
theorem Gy(x v:Int):∀(l:List (Int×Int))(i:Nat),
 (Cd (AA x) (EA l) i=some none/\Cl l x=0/\EA l++[(AA x,AA v)]=EA (DL l x v))\/
 ∃j,Cd (AA x) (EA l) i=some (some (i+j,AA (Cl l x)))/\(EA l).modify j (λ_=>(AA x,AA v))=EA (DL l x v)
 | [],i=>.inl ⟨rfl,rfl,rfl⟩
 | (a,b)::r,i=>by
  by_cases e:x=a;subst e;exact .inr ⟨0,by simp[EA,Cd,GT,Cl],by simp[EA,DL]⟩;have d:(x==a)=false:=by simpa using e
  have c:¬a=x:=λg=>e g.symm;rcases Gy x v r (i+1)with⟨h1,h2,f⟩|⟨j,h1,h2⟩
  refine .inl ⟨?_,by rw[Cl,nR c];exact h2,by rw[DL,nR c];exact congrArg _ f⟩;simp only[EA,qg,Cd,GT,if_true,d];exact h1;refine .inr ⟨j+1,?_,by rw[DL,nR c];exact congrArg _ h2⟩;rw[Cl,nR c,show i+(j+1)=i+1+j by omega];simp only[EA,qg,Cd,GT,if_true,d];exact h1
def Lx:List ((Int×Int)×Int)->Int×Int->Int->List ((Int×Int)×Int)
 | [],m,v=>[(m,v)]
 | (a,b)::r,m,v=>if a=m then(m,v)::r else(a,b)::Lx r m v
def EX(l:List ((Int×Int)×Int)):List (SV×SV):=l.map λp=>(BV p.1,AA p.2)
theorem aN(s:List ((Int×Int)×Int)):∀p∈EX s,UT p:=λp hp=>by
 obtain⟨e,_,rfl⟩:=qb.1 hp;exact⟨e.1.1,e.1.2,rfl⟩
theorem Ow(a b v:Int):∀(l:List ((Int×Int)×Int))(i:Nat),
 (D7 prog 142 [.int .i64 a,.int .i64 b] (EX l) i=some none/\EX l++[(BV (a,b),AA v)]=EX (Lx l (a,b) v))\/
 ∃j w,D7 prog 142 [.int .i64 a,.int .i64 b] (EX l) i=some (some (i+j,w))/\Fi (EX l) j (BV (a,b)) (AA v)=EX (Lx l (a,b) v)
 | [],i=>.inl ⟨rfl,rfl⟩
 | ((c,d),w)::r,i=>by
  have m:EX (((c,d),w)::r)=(BV (c,d),AA w)::EX r:=rfl;rw[m];simp only[D7,BV,XD];by_cases e:a=c/\b=d;obtain⟨rfl,rfl⟩:=e;have f:(a==a&&b==b)=true:=by simp
  rw[f];exact .inr ⟨0,_,rfl,by simp[Lx,EX,Fi,BV]⟩;have f:(a==c&&b==d)=false:=by
   cases h1:(a==c)<;>cases h2:(b==d)<;>simp_all
  have k:¬((c,d)=(a,b)):=by
   intro h;cases h;exact e ⟨rfl,rfl⟩
  rw[f];have g:EX (Lx (((c,d),w)::r) (a,b) v)=(BV (c,d),AA w)::EX (Lx r (a,b) v):=by
   rw[Lx,nR k];rfl
  rcases Ow a b v r (i+1)with⟨h1,h2⟩|⟨j,n,h1,h2⟩
  exact .inl ⟨h1,by rw[g,<-h2];rfl⟩;exact .inr ⟨j+1,n,by rw[show i+(j+1)=i+1+j by omega];exact h1,by rw[g,<-h2];rfl⟩
theorem aO(l:List ((Int×Int)×Int))(m:Int×Int)(v:Int):∃r,D7 prog 142 [.int .i64 m.1,.int .i64 m.2] (EX l) 0=some r/\(match r with|some p=>Fi (EX l) p.1 (.agg [.int .i64 m.1,.int .i64 m.2]) (AA v)|none=>EX l++[(.agg [.int .i64 m.1,.int .i64 m.2],AA v)])=EX (Lx l m v):=by
 rcases Ow m.1 m.2 v l 0 with⟨h1,h2⟩|⟨j,w,h1,h2⟩
 exact⟨none,h1,h2⟩;rw[qW]at h1;exact⟨_,h1,h2⟩
def PO(q:List (Int×Int)×List ((Int×Int)×Int))(m:Int×Int):List (Int×Int)×List ((Int×Int)×Int):=
 (DL q.1 m.1 (Cl q.1 m.1+1),Lx q.2 m (Cl q.1 m.1+1))
def FL(l:List (Int×Int)):List (Int×Int)×List ((Int×Int)×Int):=l.foldl PO ([],[])
theorem Li(l:List (Int×Int))(m:Int×Int):FL (l++[m])=PO (FL l) m:=by rw[FL,qX];rfl
theorem P8:∀(k:Nat)(l:List (Int×Int)),l.length=k->∀x,0<=Cl (FL l).1 x/\Cl (FL l).1 x<=l.length
 | 0,l,h,x=>by rw[vg.1 h];exact⟨Int.le_refl _,Int.le_refl _⟩
 | k + 1, l, h, x => by
  obtain⟨a,m,rfl⟩:∃a m,l=a++[m]:=by
   rcases List.eq_nil_or_concat l with rfl|⟨a,m,rfl⟩
   simp at h;exact⟨a,m,by simp⟩
  have b:a.length=k:=by simpa using h
  have h1:=P8 k a b x;have h2:=P8 k a b m.1;rw[Li,PO];simp only[FW,qk,wg];split<;>omega
def Hf(N:Nat)(d:AH):List (Int×Int):=(Ia Xw N d []).2
def jv(L:List ((Int×Int)×Int))(h:Hp)(n:Nat)(v:SV)(h':Hp)(n':Nat):Prop:=∃r,v=.map r/\n<=r/\r<n'/\h' r=some (.map (EX L))/\∀j y,h j=some y->h' j=some y
theorem w75(d:AH)(hd:d.D){K N:Nat}(hK:K<=1048576)(hl:lim AF.D K N d.W)(hlen:(Hf N d).length<=1048576)(h:Hp)(n:Nat):
 BF prog 75 [d.h] h n (jv (FL (DM (Hf N d))).2 h n):=by
 refine E8 func75 rfl λho=>?_;have hHb:=ho.lt;refine A6 2 [(1,.q ([AI d.W]++d.T0.j++[Cq d.V]++d.S.j))] h (λm=>m=n+1) ?_ (λm hm=>?_);simp[go_sem,AH.h];exact⟨Ak (ho.none (IO n)) (by simp[h_]),AY ho (IO _) AE⟩;subst hm;obtain⟨B,hB⟩:∃B:List (Int×Int)->Hp,∀s,B s=h_ (h_ h (n+1) (some (.map (C4 s)))) (n+2) (some (.cells [.map (n+1)])):=⟨_,λ_=>rfl⟩
 have Bb:∀s j y,B s j=some y->j<n+3:=λs j y e=>by
  rw[hB]at e;have:=hHb j y;simp only[h_]at e;grind
 have B1:∀s,B s (n+1)=some (.map (C4 s)):=λs=>by rw[hB,AB _ _ nN,AC]
 have B2:∀s,B s (n+2)=some (.cells [.map (n+1)]):=λs=>by rw[hB,AC]
 have Bh:∀s j y,h j=some y->B s j=some y:=λs j y e=>by have:=hHb j y e;rw[hB,AB _ _ nN,AB _ _ nN];exact e
 have Bs:∀s1 s2,Aq (Yq (n+1)) s2 (B s1)=B s2:=λs1 s2=>by
  rw[Yr _ _ _ (B2 s1),hB,hB];funext j;simp only[h_];grind
 refine A6 0 [(1,.q ([AI d.W]++d.T0.j++[Cq d.V]++d.S.j)),(3,.ptr (n+2) 0)] (B []) (λm=>m=n+3) ?_ (λm hm=>?_)
 . rw[hB];simp[go_sem,Or,AZ,AC,C4,qw]
   done
 subst hm;refine A6 0 [(1,.q ([AI d.W]++d.T0.j++[Cq d.V]++d.S.j)),(3,.ptr (n+2) 0),(4,.ptr (n+3) 0)] (h_ (B []) (n+3) (some (.cells [.fn (.func 113) [] [],.fn (.func 114) [] [],.fn (.func 115) [] []]))) (λm=>n+4=m) ?_ (λm hm=>?_);simp[go_sem];refine qO w46 ?_;simp[go_sem,Or,AZ,AC,SV.cells];subst hm;refine A6 2 [(1,.q ([AI d.W]++d.T0.j++[Cq d.V]++d.S.j)),(3,.ptr (n+2) 0),(4,.q [.fn (.func 113) [] [],.fn (.func 133) [] [.ptr (n+2) 0],.fn (.func 115) [] []])] (B []) (λm=>n+4=m) ?_ (λm hm=>?_);simp[go_sem,Or,AZ,AC,SV.cells];exact⟨Ak (Ac (Bb []) (IO _)) (AC _ _ _),λo y e=>by have:=Bb [] o y e;rw[AB _ _ nN];exact e⟩;subst hm;refine A6 0 [(3,.ptr (n+2) 0)] (B (Hf N d)) (λm=>n+4=m) ?_ (λm hm=>?_)
 . have hc:=gh (mM (k:=n+1) (n0:=n+3) nN hK) d hd hd.T0 N hl [] (IO _) (H:=B []) (n:=n+4) nN (λo y e=>by
    simp only[Yq]at e;split at e
    . next g=>subst g;rw[B1];exact e
    . split at e
      . next g=>subst g;rw[B2];exact e
      cases e)
   have hc2:BF prog 49 [.agg [.fn (.func 113) [] [],.fn (.func 133) [] [.ptr (n+2) 0],.fn (.func 115) [] []],d.h] (B []) (n+4) (λv h' n'=>h'=B (Hf N d)/\n'=n+4):=wn hc λv h' n' ⟨_,h1,h2⟩=>⟨by rw[h1,Bs];rfl,h2⟩
   have e:d.h=.agg (AI d.W::AU d.T0.Q::AA d.T0.I::AA d.T0.move::Aa d.T0.Y::AN d.T0.Z::Cq d.V::AW d.S.A::CA d.S.L::A8 d.S.C::CW d.S.vars::[]):=by simp[AH.h,AF.j,AO.j]
   rw[e]at hc2;simp[go_sem,AF.j,AO.j];refine qI hc2 ?_;rintro v h' n' ⟨rfl,rfl⟩;simp[go_sem,Or]
 subst hm;generalize Hf N d=S at hlen ⊢;refine A6 0 [(3,.ptr (n+2) 0),(5,.map (n+4))] (h_ (B S) (n+4) (some (.map []))) (λm=>n+5=m) ?_ (λm hm=>?_);simp[go_sem,Or];subst hm;refine A6 0 [(3,.ptr (n+2) 0),(5,.map (n+4)),(6,.map (n+5))] (h_ (h_ (B S) (n+4) (some (.map []))) (n+5) (some (.map []))) (λm=>n+6=m) ?_ (λm hm=>?_);simp[go_sem,Or];subst hm;obtain⟨L,hL⟩:∃L,L=DM S:=⟨_,rfl⟩
 have hLl:L.length<=1048576:=by rw[hL];unfold DM;rw[wh];exact hlen
 refine AR 0 (α:=Nat) (λ_=>[(5,.map (n+4))]) (λ_=>h_ h (n+4) (some (.map (EX (FL L).2)))) (λ_ m=>n+4<m) ?_ (λ_ m hm=>?_);refine A6 2 [(5,.map (n+4)),(6,.map (n+5)),(20,.x 2 (L.map BV) false),(21,AA L.length),(22,AA 0)] (h_ (h_ h (n+4) (some (.map []))) (n+5) (some (.map []))) (λm=>n+6<=m) ?_ (λm hm=>?_);obtain⟨G,hG⟩:∃G:Hp,G=h_ (h_ (B S) (n+4) (some (.map []))) (n+5) (some (.map [])):=⟨_,rfl⟩
 have G1:G (n+1)=some (.map (C4 S)):=by rw[hG,AB _ _ nN,AB _ _ nN];exact B1 S
 have G2:G (n+2)=some (.cells [.map (n+1)]):=by rw[hG,AB _ _ nN,AB _ _ nN];exact B2 S
 have G3:∀o y,h_ (h_ h (n+4) (some (.map []))) (n+5) (some (.map [])) o=some y->o≠n+1/\o<n+6/\G o=some y:=λo y e=>by
  have h1:=hHb o y;have h2:=Bh S o y;rw[hG];simp only[h_]at e ⊢;grind
 rw[<-hG];simp[go_sem,G2];refine qI (nG (H:=G) (n:=n+6) (s:=n+1)) ?_;rintro v h' n' ⟨rfl,rfl,rfl⟩;simp[go_sem];refine qI (nF (C4 S) S (by simp[C4]) hlen (q:=n+6) (s:=n+1) (AC _ _ _) (by rw[AB _ _ nN];exact G1)) ?_;rw[<-hL];rintro v h' n' ⟨hle,Ar,hv⟩;have K1:∀o y,h_ (h_ h (n+4) (some (.map []))) (n+5) (some (.map [])) o=some y->h' o=some y:=λo y e=>by
  obtain⟨q1,q2,q3⟩:=G3 o y e;exact Ar o y (by rw[AB _ _ q1,AB _ _ nN];exact q3)
 rcases hv with⟨he,z',full,rfl⟩|⟨o,full,h1,h2,rfl,h3⟩
 have he':L=[]:=by simpa using he
 simp[go_sem,Or,he'];exact⟨by omega,Iv nO,K1⟩;simp[go_sem,Or];refine⟨by omega,?_,K1⟩;have:=Ez (h':=h') (h:=h_ (h_ h (n+4) (some (.map []))) (n+5) (some (.map []))) (k:=1) (z:=2) (o:=o) (es:=L.map BV) (full:=full) (full':=false) (by rw[AB _ _ nN,AB _ _ nN];exact ho.none nN) nO h3 (TP L);simpa using this;obtain⟨U,hU⟩:∃U:Nat->Hp,∀i,U i=h_ (h_ h (n+4) (some (.map (EX (FL (L.take i)).2)))) (n+5) (some (.map (EA (FL (L.take i)).1))):=⟨_,λ_=>rfl⟩
 have U4:∀i,U i (n+4)=some (.map (EX (FL (L.take i)).2)):=λi=>by rw[hU,AB _ _ nN,AC]
 have U5:∀i,U i (n+5)=some (.map (EA (FL (L.take i)).1)):=λi=>by rw[hU,AC]
 have Ub:∀i j y,U i j=some y->j<n+6:=λi j y e=>by
  have:=hHb j y;rw[hU]at e;simp only[h_]at e;grind
 refine AP (As 0 (α:=Nat) (λi=>[(5,.map (n+4)),(6,.map (n+5)),(20,.x 2 (L.map BV) false),(21,AA L.length),(22,AA i)]) U (λi m=>i<=L.length/\n+6<=m) (λi=>L.length-i) 0 ⟨qi _,hm⟩ ?_ ?_ ?_);simp[go_sem,look,Or];rw[hU];exact AE;clear hm m;rintro i m ⟨hi,hnm⟩;by_cases hlt:i<L.length;have w1:=wS i nN;obtain⟨x,hx⟩:∃x,L[i]=x:=⟨_,rfl⟩
 have hsn:FL (L.take (i+1))=PO (FL (L.take i)) x:=by rw[qa hlt,hx,Li]
 obtain⟨b1,b2⟩:=P8 _ (L.take i) rfl x.1;have b3:(L.take i).length<=1048576:=by rw[va];omega
 have w2:IntKind.i64.wrap (Cl (FL (L.take i)).1 x.1+1)=Cl (FL (L.take i)).1 x.1+1:=D5 nN nN;refine Ai 0 [(5,.map (n+4)),(6,.map (n+5)),(20,.x 2 (L.map BV) false),(21,AA L.length),(22,AA i),(23,.bool true)] (U i) m ?_ (λm' hm'=>?_);simp[go_sem,Or,hlt];subst hm';refine Ai 0 [(5,.map (n+4)),(6,.map (n+5)),(20,.x 2 (L.map BV) false),(21,AA L.length),(22,AA i)] (U i) m ?_ (λm' hm'=>?_);simp[go_sem,Or];subst hm';refine AR 0 (α:=Unit) (λ_=>[(5,.map (n+4)),(6,.map (n+5)),(20,.x 2 (L.map BV) false),(21,AA L.length),(22,AA i)]) (λ_=>U (i+1)) (λ_ m'=>m<=m') (AP ?_) (λ_ m' hm'=>?_);refine Ao 2 [(5,.map (n+4)),(6,.map (n+5)),(20,.x 2 (L.map BV) false),(21,AA L.length),(22,AA i),(8,.q [AA x.1,AA x.2])] (U i) m ?_ (λm' hm'=>?_);simp[go_sem,Or,hlt,hx,BV,AZ,AC];refine⟨Ak (Ac (Ub i) hnm) (AC _ _ _),λj y e=>?_⟩;have:=Ub i j y e;rw[AB _ _ nN];exact e;generalize hq:FL (L.take i)=q at hsn b1 b2 w2;have U4':=U4 i;have U5':=U5 i;rw[hq]at U4' U5';obtain⟨c,hc⟩:∃c,c=Cl q.1 x.1+1:=⟨_,rfl⟩
 rw[<-hc]at w2;obtain⟨W,hW⟩:∃W:Hp,W=h_ (U i) (n+5) (some (.map (EA (DL q.1 x.1 c)))):=⟨_,rfl⟩
 have W4:W (n+4)=some (.map (EX q.2)):=by rw[hW,AB _ _ nN];exact U4'
 have W5:W (n+5)=some (.map (EA (DL q.1 x.1 c))):=by rw[hW,AC]
 refine Ai 0 [(5,.map (n+4)),(6,.map (n+5)),(20,.x 2 (L.map BV) false),(21,AA L.length),(22,AA i),(8,.q [AA x.1,AA x.2])] W m' ?_ (λm3 hm3=>?_);rw[hW];rcases Gy x.1 c q.1 0 with⟨h1,h2,h3⟩|⟨j,h1,h2⟩
 have hc1:c=1:=by rw[hc,h2];rfl
 rw[hc1]at h3 ⊢;have hw1:IntKind.i64.wrap 1=1:=D5 nN nN;simp[go_sem,Or,U5',h1,BN,hw1];rw[<-h3];exact AE;rw[qW]at h1;simp[go_sem,Or,U5',h1,h2,<-hc,w2,BN];subst hm3;have hget:Cl (DL q.1 x.1 c) x.1=c:=by rw[FW,nS rfl]
 have hfind:∃j,Cd (AA x.1) (EA (DL q.1 x.1 c)) 0=some (some (j,AA c)):=by
  rcases Gy x.1 0 (DL q.1 x.1 c) 0 with⟨h1,h2,h3⟩|⟨j,h1,h2⟩
  rw[hget]at h2;omega;rw[hget]at h1;exact⟨_,h1⟩
 obtain⟨j,hj⟩:=hfind;obtain⟨r,g1,g2⟩:=aO q.2 x c;refine AJ ?_;simp[go_sem,W5,hj,BN];refine Lv (q:=n+4) (a:=x.1) (b:=x.2) rfl nP W4 nP (aN _) (es2:=EX (Lx q.2 x c)) (by simp only[go_sem];cases r<;>exact g2) g1 ?_;simp[go_sem,Or];refine⟨hm',λo y e=>?_⟩;rw[hU,hsn]at e;rw[hW,hU];simp only[PO,<-hc]at e;simp only[h_]at e ⊢;grind;refine AJ ?_;simp[go_sem,w1,Or,-Int.natCast_add];exact⟨i+1,by omega,⟨by omega,by omega⟩,Or,AE⟩;have:i=L.length:=by omega
 subst this;refine AJ ?_;simp[go_sem];refine⟨by omega,λo y e=>?_⟩;rw[hU,qn];have:=hHb o y;simp only[h_]at e ⊢;grind;refine AJ ?_;simp[go_sem];exact .inl ⟨n+4,rfl,by omega,hm,by rw[hL];exact AC _ _ _,λj y e=>by have:=hHb j y e;rw[AB _ _ nN];exact e⟩
def RT(x:AD):Bool:=x.l==8&&(x.code==3||x.code==4)
theorem w48(x:AD):PC 48 [x.h] (.bool (RT x)):=by
 intro h n;refine gq func48 rfl λa=>?_;rw[qz];unfold RT;obtain⟨b1,h1⟩:∃b,b=(x.l==8):=⟨_,rfl⟩
 obtain⟨c,h2⟩:∃b,b=(x.code==3):=⟨_,rfl⟩
 obtain⟨d,e⟩:∃b,b=(x.code==4):=⟨_,rfl⟩
 cases b1<;>cases c<;>cases d<;>simp[go_sem,AC,<-h1,<-h2,<-e]
 all_goals exact Bq a (λj y=>by have:=a j y;simp only[h_];grind) rfl rfl
def GI(x:AD)(i:Int):AD:=.mk x.l x.code i x.J x.H x.W x.R
def EN(l:List (Int×Int))(x v:Int):List (Int×Int):=if Cl l x=0 then DL l x v else l
def DD(x:AD)(s:List (Int×Int)×List (Int×Int)):AD×List (Int×Int)×List (Int×Int):=
 if x.l=8 then
  if RT x then(GI x (Cl (EN s.1 x.id s.1.length) x.id),EN s.1 x.id s.1.length,s.2)
  else(GI x (Cl (EN s.2 x.id (s.2.length+1)) x.id),s.1,EN s.2 x.id (s.2.length+1))
 else(x,s)
theorem Gi(x:Int)(l:List (Int×Int)):(Cd (AA x) (EA l) 0=some none/\Cl l x=0)\/∃j,Cd (AA x) (EA l) 0=some (some (j,AA (Cl l x))):=by
 rcases Gy x 0 l 0 with⟨h1,h2,_⟩|⟨j,h1,_⟩
 exact .inl ⟨h1,h2⟩;exact .inr ⟨_,h1⟩
theorem UU(l:List (Int×Int)):(EA l).length=l.length:=qj _
theorem w77(x:AD)(a b:List (Int×Int))(ha:a.length<=1099511627776){H:Hp}{n p1 p2 k1 k2:Nat}(h1:H p1=some (.cells [.map k1]))(h2:H p2=some (.cells [.map k2]))(h3:H k1=some (.map (EA a)))(h4:H k2=some (.map (EA b)))(hkk:k1≠k2):
 BF prog 77 [x.h,.ptr p1 0,.ptr p2 0] H n (λv h' n'=>v=.tup [(DD x (b,a)).1.h,.bool true]/\h'=h_ (h_ H k1 (some (.map (EA (DD x (b,a)).2.2)))) k2 (some (.map (EA (DD x (b,a)).2.1)))/\n'=n):=by
 refine E8 func77 rfl λho=>?_;have l1:=(ho p1 _ h1).1;have l2:=(ho p2 _ h2).1;have l3:=(ho k1 _ h3).1;have l4:=(ho k2 _ h4).1;have hHb:=ho.lt;obtain⟨cz,hcz⟩:∃cz:List SV,cz=[AA 0,AA 0,AA 0,.str .empty,.x 0 [] true,AA 0,AA 0,.x 0 [] true,.x 0 [] true,.x 0 [] true,.x 0 [] true]:=⟨_,rfl⟩
 have hcl:cz.length=11:=by rw[hcz];rfl
 have hdz:cz.drop 11=[]:=by rw[hcz];rfl
 have hsa:h_ H k1 (some (.map (EA a)))=H:=by funext j;simp only[h_];grind
 have hsb:h_ H k2 (some (.map (EA b)))=H:=by funext j;simp only[h_];grind
 obtain⟨U,hU⟩:∃U:Hp->Int->Hp,∀G i,U G i=h_ (h_ G n (some (.cells [AA x.l,AA x.code,AA i,.str x.J,AU x.H.Q,AA x.H.I,AA x.H.move,Aa x.H.Y,AN x.H.Z,AI x.W,Ap x.R]))) (n+1) (some (.cells cz)):=⟨_,λ_ _=>rfl⟩
 have Un:∀G i,U G i n=some (.cells [AA x.l,AA x.code,AA i,.str x.J,AU x.H.Q,AA x.H.I,AA x.H.move,Aa x.H.Y,AN x.H.Z,AI x.W,Ap x.R]):=λG i=>by rw[hU,AB _ _ nN,AC]
 have Un1:∀G i,U G i (n+1)=some (.cells cz):=λG i=>by rw[hU,AC]
 have Uo:∀G i j,j<n->U G i j=G j:=λG i j h=>by rw[hU,AB _ _ nN,AB _ _ nN]
 have Us:∀G i j y,j<n->h_ (U G i) j y=U (h_ G j y) i:=λG i j y h=>by rw[hU,hU];funext o;simp only[h_];grind
 refine A6 0 [(1,.ptr p1 0),(2,.ptr p2 0),(3,.ptr n 0),(4,.ptr (n+1) 0)] (U H x.id) (λm=>n+2=m) ?_ (λm hm=>?_);rw[hU,hcz,qz x];simp[go_sem,Or,SV.cells];subst hm;refine Bz 0 [(4,.ptr (n+1) 0),(3,.ptr n 0)] (U (h_ (h_ H k1 (some (.map (EA (DD x (b,a)).2.2)))) k2 (some (.map (EA (DD x (b,a)).2.1)))) (DD x (b,a)).1.id) (λm=>n+2<=m) ?_ (λm hm=>?_);by_cases h8:x.l=8;refine A6 0 [(1,.ptr p1 0),(2,.ptr p2 0),(3,.ptr n 0),(4,.ptr (n+1) 0),(10,.bool true)] (U H x.id) (λm=>n+2=m) ?_ (λm hm=>?_);simp[go_sem,Un,h8,Or];subst hm;refine Av (b:=true) nP ?_;simp only[if_true];refine A6 0 [(1,.ptr p1 0),(2,.ptr p2 0),(3,.ptr n 0),(4,.ptr (n+1) 0),(6,.map k1),(7,AA (a.length+1))] (U H x.id) (λm=>n+2=m) ?_ (λm hm=>?_);have w1:IntKind.i64.wrap ((a.length:Int)+1)=(a.length:Int)+1:=D5 nN nN;simp[go_sem,Uo _ _ _ l1,Uo _ _ _ l3,h1,h3,UU,w1,Or];subst hm;refine AR 0 (α:=Nat×List (Int×Int)×Int) (λq=>[(3,.ptr n 0),(4,.ptr (n+1) 0),(6,.map q.1),(7,AA q.2.2)]) (λ_=>U H x.id) (λq m=>n+2<=m/\q=if RT x then(k2,b,(b.length:Int))else(k1,a,(a.length:Int)+1)) (AJ ?_) (λq m ⟨hm,hqe⟩=>?_);have hc:=w48 x;rw[qz]at hc;simp[go_sem,Un];refine qO hc ?_;cases hb:RT x;simp[go_sem,Or];exact⟨_,_,_,⟨rfl,rfl,rfl⟩,Or,Or⟩;simp[go_sem,Or,Uo _ _ _ l2,Uo _ _ _ l4,h2,h4,UU];exact⟨_,_,_,⟨rfl,rfl,rfl⟩,Or,Or⟩;obtain⟨k,l,v⟩:=q;dsimp only at hqe ⊢;obtain⟨hk,hkn,hcan⟩:H k=some (.map (EA l))/\k<n/\(U (h_ H k (some (.map (EA (EN l x.id v))))) (Cl (EN l x.id v) x.id)=U (h_ (h_ H k1 (some (.map (EA (DD x (b,a)).2.2)))) k2 (some (.map (EA (DD x (b,a)).2.1)))) (DD x (b,a)).1.id):=by
  cases hb:RT x;rw[hb]at hqe;simp only[qq,if_false,Prod.mk.injEq]at hqe;obtain⟨rfl,rfl,rfl⟩:=hqe;refine⟨h3,l3,?_⟩;rw[DD,nS h8,nR (by simp[hb])];dsimp only[GI,AD.id];congr 1;funext j;simp only[h_];grind;rw[hb]at hqe;simp only[if_true,Prod.mk.injEq]at hqe;obtain⟨rfl,rfl,rfl⟩:=hqe;refine⟨h4,l4,?_⟩;rw[DD,nS h8,nS hb];dsimp only[GI,AD.id];rw[hsa]
 rw[<-hcan];refine Bz 0 [(3,.ptr n 0),(4,.ptr (n+1) 0),(6,.map k)] (U (h_ H k (some (.map (EA (EN l x.id v))))) x.id) (λm=>n+2<=m) (AJ ?_) (λm hm=>?_);by_cases g:Cl l x.id=0;rw[EN,nS g];rcases Gy x.id v l 0 with⟨q1,_,q3⟩|⟨j,q1,q2⟩
 simp[go_sem,Un,Uo _ _ _ hkn,hk,q1,BN,Or,Us _ _ _ _ hkn,hm,q3];rw[qW,g]at q1;simp[go_sem,Un,Uo _ _ _ hkn,hk,q1,BN,Or,Us _ _ _ _ hkn,hm,q2];rw[EN,nR g];rcases Gi x.id l with⟨q1,q2⟩|⟨j,q1⟩
 exact absurd q2 g;have g':(Cl l x.id==0)=false:=by simpa using g
 have hsk:h_ H k (some (.map (EA l)))=H:=by funext j;simp only[h_];grind
 simp[go_sem,Un,Uo _ _ _ hkn,hk,q1,BN,Or,hm,g',hsk];refine AJ ?_;have hsn:∀G i j,h_ (U G i) n (some (.cells [AA x.l,AA x.code,AA j,.str x.J,AU x.H.Q,AA x.H.I,AA x.H.move,Aa x.H.Y,AN x.H.Z,AI x.W,Ap x.R]))=U G j:=λG i j=>by rw[hU,hU];funext o;simp only[h_];grind
 rcases Gi x.id (EN l x.id v)with⟨q1,q2⟩|⟨j,q1⟩
 have hsn0:=hsn (h_ H k (some (.map (EA (EN l x.id v))))) x.id 0;simp[go_sem,Un,Uo _ _ _ hkn,AC,q1,BN,Or,q2];exact⟨hm,by rw[<-hsn0];exact AE⟩;simp[go_sem,Un,Uo _ _ _ hkn,AC,q1,BN,Or,hsn,hm];refine AJ ?_;have h8':(x.l==8)=false:=by simpa using h8
 have hcan:DD x (b,a)=(x,b,a):=by rw[DD,nR h8]
 simp[go_sem,Un,h8',Or,hcan,hsa,hsb];refine AJ ?_;simp[go_sem,Un,Un1,hcl,hdz,AC];generalize hG:h_ (h_ H k1 (some (.map (EA (DD x (b,a)).2.2)))) k2 (some (.map (EA (DD x (b,a)).2.1)))=G;have hkv:∀l:List (Int×Int),Ay n (.map (EA l))=true:=λl=>by
  simp only[Ay,qE,EA,qh];intro p hp;obtain⟨z,_,rfl⟩:=qb.1 hp;exact⟨by simp[C_],by simp[C_]⟩
 have he:(DD x (b,a)).1.h=.agg [AA x.l,AA x.code,AA (DD x (b,a)).1.id,.str x.J,AU x.H.Q,AA x.H.I,AA x.H.move,Aa x.H.Y,AN x.H.Z,AI x.W,Ap x.R]:=by
  rw[qz];unfold DD;split;split<;>rfl;rfl
 rw[<-he];refine .inr ⟨0,.tup [(DD x (b,a)).1.h,.bool true],G,rfl,by rw[he];simp[C_,c_,AD.E.c_,AM.E.c_,Fd.E.c_,Dx.E.c_,BC.E.c_],λo y e=>?_,rfl,rfl,rfl⟩;have hon:o<n/\Ay n y=true:=by
  rw[<-hG]at e;have h0:=ho o y;have z1:=hkv (DD x (b,a)).2.2;have z2:=hkv (DD x (b,a)).2.1;simp only[h_]at e;split at e
  . next g=>subst g;cases e;exact⟨l4,z2⟩
  . split at e
    . next g=>subst g;cases e;exact⟨l3,z1⟩
    exact h0 e
 refine⟨?_,hon.1,hon.2⟩;rw[AB _ _ nN,Uo _ _ _ hon.1];exact e
def LvH(h:AF)(v:SV)(ob:DN):Prop:=∃vd o1 vl o2,v=.agg [AU h.Q,AA h.I,AA h.move,vd,vl]/\ob=o1++o2/\M5 2 (h.Y.map Dx.h) vd o1/\M5 4 (h.Z.map BC.h) vl o2
def cN:Tr:=(.pure 0 (.pure 1 (.pure 4 (.pure 5 (.two 2 6 (.two 3 6 (.one 6 (.pure 8 (.pure 9 (.one 7 (.one 10 (.pure 11 (.pure 12 (.one 13 .nil)))))))) (.one 3 (.pure 8 (.pure 9 (.one 7 (.one 10 (.pure 11 (.pure 12 (.one 13 .nil))))))))) (.one 2 (.one 3 (.pure 8 (.pure 9 (.one 7 (.one 10 (.pure 11 (.pure 12 (.one 13 .nil))))))))))))))
theorem n30(x:AF)(M:x.D):NC 30 [x.h] (LvH x):=by
 intro h n;refine E8 func30 rfl λS=>?_;have q:=S.lt;obtain⟨X,w⟩:∃X:Hp,X=h_ (h_ h n (some (.cells [AU x.Q,AA x.I,AA x.move,Aa x.Y,AN x.Z]))) (n+1) (some (.cells [.x 0 [] true,AA 0,AA 0,.x 0 [] true,.x 0 [] true])):=⟨_,rfl⟩
 refine A6 0 [(1,.ptr n 0),(2,.ptr (n+1) 0)] X (λm=>n+2=m) ?_ (λm hm=>?_);rw[w];simp[go_sem,AF.h,AF.j,qw,Or,SV.cells];subst hm;have E:X n=some (.cells [AU x.Q,AA x.I,AA x.move,Aa x.Y,AN x.Z]):=by rw[w,AB _ _ nN,AC]
 have T:X (n+1)=some (.cells [.x 0 [] true,AA 0,AA 0,.x 0 [] true,.x 0 [] true]):=by rw[w,AC]
 have F:h_ X n (some (.cells [AU x.Q,AA x.I,AA x.move,Aa x.Y,AN x.Z]))=X:=by funext j;simp only[h_];grind
 have G:∀j y,h j=some y->X j=some y:=λj y e=>by have:=q j y e;rw[w,AB _ _ nN,AB _ _ nN];exact e
 clear w;have K:n+1≠n:=by omega
 refine A6 0 [(1,.ptr n 0),(2,.ptr (n+1) 0)] X (λm=>n+2<=m) ?_ (λm hm=>?_);simp[go_sem,E];refine qO (Zs _ M.Q) ?_;simp[go_sem,E,F,Or];refine LN (CJ cN rfl nQ nQ ?_);simp[go_sem,cN,E]
 repeat' (with_reducible refine And.intro ?_ ?_)
 all_goals
  refine wM (iE _ M.Y).nc ?_;rintro l h1 n1 ⟨H,f,r,z,a,c⟩;have C:=wj (_L:=IV []) (_v:=l) a c (show n<m by omega) E;have O:=wj (_L:=IV []) (_v:=l) a c (show n+1<m by omega) T;simp[go_sem,C]
 all_goals
  refine wM (iF _ M.Z).nc ?_;rintro o h2 U ⟨J,i,t,A,b,d⟩;have N:=wj (_L:=IV []) (_v:=o) b d (show n<n1 by omega) C;have P:=wj (_L:=IV []) (_v:=o) b d (show n+1<n1 by omega) O;have s:JG 2 _ _ l f:=r;have u:JG 4 _ _ o i:=t;obtain⟨s1,s2⟩:=s.st;obtain⟨s3,s4⟩:=u.st;unfold SV.B at s1 s3;unfold SV.cells at s2 s4;obtain⟨R,t2⟩:=Nx H J z A a b;have By:=QB a c b d;have fin:Cb n (h_ (h_ h2 n (some (.cells [AU x.Q,AA x.I,AA x.move,l,o]))) (n+1) (some (.cells [AU x.Q,AA x.I,AA x.move,l,o]))) U (.agg [AU x.Q,AA x.I,AA x.move,l,o]) (Dm (LvH x) h n):=by
   refine .inl ⟨by omega,f++i,⟨l,f,o,i,rfl,rfl,r,t⟩,R,λk hk=>by have:=t2 k hk;omega,UH (λp hp=>?_) λk y e=>?_⟩;have:=t2 p.1 (qb.2 ⟨p,hp,rfl⟩);rw[AB _ _ nN,AB _ _ nN];exact K6 R By p hp;have:=q k y e;rw[AB _ _ nN,AB _ _ nN];refine By k y ?_;rw[Aw (λg=>by have:=t2 k g;omega)];exact G k y e
  simp[go_sem,N,s1,s2,s3,s4,AC,AZ];refine AJ ?_;simp[go_sem,AC,AB,P];exact fin
def FV:List ((Int×Int)×Int)->Int×Int->Int
 | [],_=>0
 | (a,b)::r,m=>if a=m then b else FV r m
def MC(mv:List ((Int×Int)×Int))(rv:List (Int×Int))(h:AF):AF:=
 { h with I:=Cl rv h.I,move:=FV mv (h.I,h.move),Y:=h.Y.map λd=>{ d with rev:=Cl rv d.rev,move:=FV mv (d.rev,d.move) },Z:=h.Z.map λl=>{ l with rev:=Cl rv l.rev } }
theorem Le(a b:Int):∀(l:List ((Int×Int)×Int))(i:Nat),∃r,D7 prog 142 [.int .i64 a,.int .i64 b] (EX l) i=some r/\(match r with|some p=>p.2|none=>BO prog 3)=AA (FV l (a,b))
 | [],i=>⟨none,rfl,by simp[FV,go_sem]⟩
 | ((c,d),w)::r,i=>by
  have j:EX (((c,d),w)::r)=(BV (c,d),AA w)::EX r:=rfl;rw[j];simp only[D7,BV,XD];by_cases e:a=c/\b=d;obtain⟨rfl,rfl⟩:=e;have f:(a==a&&b==b)=true:=by simp
  rw[f];exact⟨_,rfl,by simp[FV]⟩;have f:(a==c&&b==d)=false:=by
   cases h1:(a==c)<;>cases h2:(b==d)<;>simp_all
  have g:¬((c,d)=(a,b)):=by
   intro h;cases h;exact e ⟨rfl,rfl⟩
  rw[f,FV,nR g];exact Le a b r (i+1)
def MU(mv:List ((Int×Int)×Int))(rv:List (Int×Int)):Pa (List (Int×Int)×List (Int×Int)):=
 ⟨λ_ l s=>(l,s),λh s=>(MC mv rv h,s),λx s=>((DD x s).1,true,(DD x s).2)⟩
def Df:List CI->Int->List (Int×Int)->List (Int×Int)
 | [],_,m=>m
 | r::l,i,m=>Df l (i+1) (DL m r.id (i+1))
def EP:List CI->Int->List CI
 | [],_=>[]
 | r::l,i=>{ r with id:=i+1 }::EP l (i+1)
def CE:List AX->Int->List (Int×Int)->List AX×List (Int×Int)
 | [],_,m=>([],m)
 | c::l,i,m=>({ c with id:=i+1,parent:=Cl (DL m c.id (i+1)) c.parent }::(CE l (i+1) (DL m c.id (i+1))).1,(CE l (i+1) (DL m c.id (i+1))).2)
def Jf(N:Nat)(e:AH):AH:=
 (Ia (MU (FL (DM (Hf N e))).2 (Df e.V 0 [(0,0)])) N ⟨e.W,e.T0,EP e.V 0,{ e.S with C:=(CE e.S.C 0 [(0,0)]).1 }⟩ ((CE e.S.C 0 [(0,0)]).2,[])).1
def HT(N:Nat)(d:AH):AH:=(Jf N d.normal.renum).normal
abbrev oneB(b:Bool):Nat:=if b then 1 else 0
section
variable(u:AF->Bool)
def val(x:AD):Prop:=Cj x.J=true/\(x.l=7->x.R≠[])
theorem F7{l:List AM}(h:∀r∈l,r.cells≠[]):(l.map AM.N).filter (λr=>!decide (r.cells.length=0))=l.map AM.N:=by
 rw[vI];intro r hr;obtain⟨r0,h0,rfl⟩:=qb.1 hr;have a:(AM.N r0).cells=r0.cells.map AG.N:=by cases r0;rw[AM.N,uf];rfl
 rw[a,qj];have:=qC.2 (h r0 h0);simp;intro e;rw[e]at this;simp at this
end
section
variable(u:AF->Bool)(w:Bool)(it:Int->List AD->Bool->Nat)(mid:Bool)
end
section
variable(u:AF->Bool)(w:Bool)(sc:DC)
end
abbrev wr(x:Int):Int:=IntKind.i64.wrap x
section
variable(rev:Int)(sc:DC)
end
section
variable(g:Bool->AF->AF)(sc:DC)
def gF(s:Unit)(p:Ef):AF×Bool×Unit:=(g p.mid p.H,true,s)
end
section
variable(g:Bool->AF->AF)(sc:DC)(u:AF->Bool)
end
section
variable(g:Bool->AF->AF)(sc:DC)
variable(u v:AF->Bool)(w:Bool)
end
def ji(hp:AF->Prop)(L T:Nat):Nat->List AD->Prop
 | 0,_=>False
 | N+1,l=>l.length<=L/\Bu l<=T/\∀x∈l,hp x.H/\ji hp L T N x.W/\x.R.length<=L/\∀r∈x.R,hp r.H/\r.cells.length<=L/\∀c∈r.cells,hp c.H/\ji hp L T N c.W
section
variable{hp hp':AF->Prop}(g:Bool->AF->AF)(sc:DC)
end
section
variable{m2:List Int}{rev nx:Int}
end
section
variable(g:Bool->AF->AF)(sc:DC)
end
theorem Pj{c:Nat->Int}{k n:Nat}(h1:∀m,m<k->c m<0)(h2:∀m,k<=m->m<n->¬c m<0):∀(d i j:Nat),j-i<=d->i<=k->k<=j->j<=n->IG c i j=k
 | d,i,j,hd,hi,hj,hn=>by
  rw[IG];split;rename_i hij;cases d with
  | zero=>omega
  | succ d=>
   split;rename_i a;refine Pj h1 h2 d _ j nN ?_ hj hn;rcases vk ((i+j) / 2) k with h|h;omega;exact absurd a (h2 _ h nN);rename_i a;refine Pj h1 h2 d i _ nN hi ?_ nN;rcases vk ((i+j) / 2) k with h|h;exact absurd (h1 _ h) a;exact h
  omega
theorem WV{f:Nat->Int}{n:Nat}{x:Int}(d:∀i j,i<=j->j<n->f i<=f j)(p:∃j,j<n/\f j=x){c:Nat->Int}(a:∀i,i<n->(c i<0↔f i<x)/\(c i=0↔f i=x)):(Bc c n).2=true:=by
 obtain⟨j,b,hfj⟩:=p;have key:∀j,j<n->x<=f j->∃k,k<=j/\x<=f k/\∀m,m<k->f m<x:=by
  intro j
  induction j with
  | zero=>intro _ h;exact⟨0,IO _,h,λm hm=>by omega⟩
  | succ j ih=>
   intro b h;by_cases a:x<=f j;obtain⟨k,l,o,g⟩:=ih nN a;exact⟨k,by omega,o,g⟩;exact⟨j+1,IO _,h,λm hm=>by have:=d m j nN nN;omega⟩
 obtain⟨k,l,o,g⟩:=key j b nN;have hk:k<n:=by omega
 have e:f k=x:=by have:=d k j l b;omega
 have hg:IG c 0 n=k:=Pj (λm hm=>(a m nN).1.2 (g m hm)) (λm h1 h2=>by rw[(a m h2).1];have:=d k m h1 h2;omega) n 0 n nN (qi _) nN (IO _);unfold Bc;rw[hg];simp only[decide_eq_true_eq];exact⟨hk,(a k hk).2.2 e⟩
theorem TJ{U:List Int}(c:U.Pairwise (· ≤ ·)){x:Int}(d:x∈U):(Bc (I0 U x) U.length).2=true:=by
 obtain⟨j,b,e⟩:=List.mem_iff_getElem.1 d;refine WV (f:=λi=>U.getD i 0) (x:=x) (λi k hik hk=>?_) ⟨j,b,by simp[b,e]⟩ λi hi=>?_;have h1:U.getD i 0=U[i]'nN:=by simp[List.getD,show i<U.length by omega]
 have h2:U.getD k 0=U[k]:=by simp[List.getD,hk]
 rw[h1,h2];rcases vk i k with h|h;exact List.pairwise_iff_getElem.1 c i k nN hk h;have:i=k:=by omega
 subst this;omega;have h1:U.getD i 0=U[i]:=by simp[List.getD,hi]
 rw[h1];unfold I0;rw[qm hi];dsimp only;by_cases c1:U[i]<x;rw[nS c1];omega;rw[nR c1];by_cases a:U[i]=x;rw[nS a];omega;rw[nR a];omega
theorem SR{d:AH}{x:Int}(h0:x≠0)(e:x∈AD.U d.W++d.T0.all):(Bc (I0 (GM d) x) (GM d).length).2=true:=by
 refine TJ ?_ ?_;unfold GM FG;have:=wu (le:=λx y:Int=>decide (x<=y)) (λa b c h1 h2=>by simp at *;omega) (λa b=>by simp;omega) ((BD [] (AD.U d.W++d.T0.all)).filter λx=>decide (x≠0));exact this.imp λh=>by simpa using h
 unfold GM FG;rw[List.mem_mergeSort,qZ];exact⟨(Do x _ _).2 (.inr e),by simpa using h0⟩
theorem N9{L:List CI}(h:Ha L=0):∀i j,(a:i<j)->(b:j<L.length)->(L[i]'nN).id<L[j].id:=by
 have d:¬256<L.length:=λg=>by rw[Ha,nS g]at h;cases h
 rw[Ha,nR d]at h;have step:∀i,(hi:i+1<L.length)->(L[i]'nN).id<L[i+1].id:=λi hi=>by
  have:=Hk h (i+1) hi;unfold QO at this;rw[qm hi,Nat.add_sub_cancel,qm (show i<L.length by omega)]at this;dsimp only at this;by_cases e:MM L[i+1]=0;rw[nS e,nR nN]at this;unfold Fe at this;by_cases c1:L[i+1].id<(L[i]'nN).id;simp[c1]at this;by_cases c:(L[i]'nN).id<L[i+1].id;exact c;simp[c1,c]at this;rw[nR e]at this;exact absurd this e
 intro i j
 induction j with
 | zero=>intro a;omega
 | succ j ih=>
  intro a b;rcases vk i j with g|g;have:=ih g nN;have:=step j b;omega;have:i=j:=by omega
  subst this;exact step i b
section
variable(u:AF->Bool)(w:Bool)(sc:DC)
end
theorem Y8:∀l:List AD,AD.U l=l.flatMap AD.us
 | []=>by rw[AD.U];rfl
 | x::l=>by rw[AD.U,Y8 l];rfl
theorem U8:∀l:List AM,AM.U l=l.flatMap AM.us
 | []=>by rw[AM.U];rfl
 | x::l=>by rw[AM.U,U8 l];rfl
theorem U7:∀l:List AG,AG.U l=l.flatMap AG.us
 | []=>by rw[AG.U];rfl
 | x::l=>by rw[AG.U,U7 l];rfl
section
variable(g:AF->AF)
end
theorem AD.zj(x:AD):AD.N x=.mk x.l x.code x.id x.J x.H (Ae x.W) ((x.R.map AM.N).filter λr=>!decide (r.cells.length=0)):=by cases x;rw[AD.N,AM.zh];rfl
theorem AM.zj(x:AM):AM.N x=.mk x.H (x.cells.map AG.N):=by cases x;rw[AM.N,uf];rfl
theorem AG.zj(x:AG):AG.N x=.mk x.id x.H (Ae x.W):=by cases x;rw[AG.N];rfl
def wf(hp:AF->Prop)(T:Int->Prop):Nat->List AD->Prop
 | 0,_=>False
 | N+1,l=>∀x∈l,hp x.H/\(x.l≠6->x.W=[])/\(x.l≠7->x.R=[])/\(x.l=7->x.R≠[])/\(x.l=6->T x.id)/\wf hp T N x.W/\∀r∈x.R,hp r.H/\r.cells≠[]/\∀c∈r.cells,T c.id/\hp c.H/\wf hp T N c.W
structure fY(hp:AF->Prop)(T:Int->Prop)(N:Nat)(x:AD):Prop where
 H:hp x.H
 k6:x.l≠6->x.W=[]
 k7:x.l≠7->x.R=[]
 ne:x.l=7->x.R≠[]
 id:x.l=6->T x.id
 W:wf hp T N x.W
 R:∀r∈x.R,hp r.H/\r.cells≠[]/\∀c∈r.cells,T c.id/\hp c.H/\wf hp T N c.W
section
variable{hp hp':AF->Prop}{T T':Int->Prop}
theorem DP{N:Nat}{l:List AD}:wf hp T (N+1) l↔∀x∈l,fY hp T N x:=
 ⟨λH x h=>let⟨a,b,c,d,e,f,g⟩:=H x h;⟨a,b,c,d,e,f,g⟩,λH x h=>let⟨a,b,c,d,e,f,g⟩:=H x h;⟨a,b,c,d,e,f,g⟩⟩
theorem OQ(hh:∀x,hp x->hp' x)(ht:∀i,T i->T' i):∀{N:Nat} {l:List AD},wf hp T N l->wf hp' T' N l
 | 0,_,h=>h.elim
 | N+1,l,H=>DP.2 λx m=>by
  obtain⟨a,b,c,d,e,f,g⟩:=DP.1 H x m;exact⟨hh _ a,b,c,d,λk=>ht _ (e k),OQ hh ht f,λr hr=>⟨hh _ (g r hr).1,(g r hr).2.1,λc j=>⟨ht _ ((g r hr).2.2 c j).1,hh _ ((g r hr).2.2 c j).2.1,OQ hh ht ((g r hr).2.2 c j).2.2⟩⟩⟩
theorem ZB{N:Nat}(x:AD)(t:ByteArray)(H:fY hp T N x):fY hp T N (.mk x.l x.code x.id t x.H x.W x.R):=by
 obtain⟨a,b,c,d,e,f,g⟩:=H;exact⟨a,b,c,d,e,f,g⟩
theorem L7:∀{N:Nat} {l:List AD},wf hp T N l->wf hp T N (Ae l)
 | 0,_,h=>h.elim
 | N+1,l,H=>by
  rw[DP]at H ⊢;unfold Ae Eg;rw[wL];refine JL (p:=fY hp T N) ZB _ _ (λy g=>by cases g) λy g=>?_;obtain⟨x,j,rfl⟩:=qb.1 g;obtain⟨a,b,c,d,e,f,q⟩:=H x j;have hr:=F7 λr hr=>(q r hr).2.1;rw[AD.zj,hr];refine⟨a,λk=>?_,λk=>?_,λk=>?_,e,L7 f,λr hr=>?_⟩;show Ae x.W=[];rw[b k];rfl;show x.R.map _=[];rw[c k];rfl;show x.R.map _≠[];simpa using d k;obtain⟨r0,h0,rfl⟩:=qb.1 hr;obtain⟨u,v,w⟩:=q r0 h0;rw[AM.zj];refine⟨u,by show r0.cells.map _≠[];simpa using v,λc i=>?_⟩;obtain⟨c0,h1,rfl⟩:=qb.1 i;obtain⟨m,n,o⟩:=w c0 h1;rw[AG.zj];exact⟨m,n,L7 o⟩
theorem fH(N:Nat):wf hp T (N+1) []:=λx a=>by cases a
inductive NF:List AD->Prop where
 | nil:NF []
 | snoc {out:List AD} {y:AD} (h:NF out) (e:Ah out y=out++[y]):NF (out++[y])
theorem NF.fold{l:List AD}(h:NF l):l.foldl Ah []=l:=by
 induction h with
 | nil=>rfl
 | snoc h e ih=>rw[qX,ih];exact e
theorem P7{out:List AD}{y:AD}(e:Ah out y=out++[y])(t:ByteArray):Ah out (y.zb t)=out++[y.zb t]:=by
 unfold Ah at e ⊢;have nd:¬Bg y:=λc=>by
  rw[nS c]at e;have:=congrArg List.length e;simp at this
 have d:¬Bg (y.zb t):=λc=>nd (by
  unfold Bg at c ⊢;rcases c with c|c;exact .inl c;refine .inr ⟨c.1,?_⟩;have:(y.J++t).size=0:=c.2;rw[ByteArray.size_append]at this;omega)
 rw[nR nd]at e;rw[nR d];cases a:out.getLast? with
 | none=>rfl
 | some z=>
  rw[a]at e;dsimp only at e ⊢;by_cases k:y.l=1/\z.l=1/\z.H=y.H;rw[nS k]at e;have b:out≠[]:=λh=>by rw[h]at a;cases a
  have:=congrArg List.length e;have:=qC.2 b;simp at *;omega;rw[nR (show ¬((y.zb t).l=1/\z.l=1/\z.H=(y.zb t).H)from k)]
theorem NF.step{out:List AD}(h:NF out)(x:AD):NF (Ah out x):=by
 by_cases c:Bg x;unfold Ah;rw[nS c];exact h;by_cases hm:∃y,out.getLast? = some y/\x.l=1/\y.l=1/\y.H=x.H;obtain⟨y,a,k⟩:=hm;have e:Ah out x=out.dropLast++[y.zb x.J]:=by unfold Ah;rw[nR c,a];dsimp only;rw[nS k]
 rw[e];cases h with
 | nil=>cases a
 | @snoc o z h e0=>
  rw[ws]at a;cases a;rw[List.dropLast_concat];exact .snoc h (P7 e0 x.J)
 have e:Ah out x=out++[x]:=by
  unfold Ah;rw[nR c];cases b:out.getLast? with
  | none=>rfl
  | some y=>dsimp only;rw[nR λk=>hm ⟨y,b,k⟩]
 rw[e];exact .snoc h e
theorem NF.folds:∀(l:List AD) {out:List AD},NF out->NF (l.foldl Ah out)
 | [],_,h=>h
 | x::l,_,h=>NF.folds l (h.step x)
end
section
variable{hp:AF->Prop}{T:Int->Prop}(g:Bool->AF->AF)
end
theorem Tw{F:Nat->Int}:∀{n:Nat},(∀i,i<n->F i=0)->CK F n=0
 | 0,_=>rfl
 | n+1,h=>by rw[CK,nS (Tw λi hi=>h i nN)];exact h n nN
theorem UP{F:Nat->Int}{i:Nat}(h:HV F i=0):1<=F i/\F i<=1073741824/\(0<i->F (i-1)<F i):=by
 unfold HV at h;by_cases c1:1<=F i/\F i<=1073741824;refine⟨c1.1,c1.2,λhi=>?_⟩;rw[nR (by simpa using c1)]at h;by_cases a:F i=F (i-1);rw[nS ⟨hi,a⟩]at h;cases h;rw[nR λg=>a g.2]at h;by_cases b:F i<F (i-1);rw[nS ⟨hi,b⟩]at h;cases h;omega;rw[nS c1]at h;cases h
theorem TX{l:List CI}(h:FX l=0):Ha l=0:=by
 have hlen:=MK h;have h2:CK (KH l) (min l.length 256)=0:=by
  have e:=h;unfold FX at e;have q:¬(256:Int)<l.length:=by omega
  simp[BH,q]at e;exact wG λg=>g (e g)
 rw[Ha,nR nN];refine Tw λi hi=>?_;have a:=Hk h2 i nN;unfold KH at a;unfold QO;rw[qm hi]at a ⊢;dsimp only at a ⊢;have m:=F8 a;rw[BH,nS m]at a;have d:=F8 a;rw[BH,nS d]at a;have o:=F8 a;obtain⟨j,k,b⟩:=UP m
 try dsimp only at j k b
 rw[qm hi]at j k b
 try dsimp only at j k b
 have n:Ds l[i].O=true:=by
  cases p:Ds l[i].O with
  | true=>rfl
  | false=>rw[p]at d;simp at d
 have ht:0<=l[i].time/\l[i].time<=1099511627776:=by
  by_cases c:0<=l[i].time/\l[i].time<=1099511627776;exact c;simp[c]at o
 simp only[Ds,qh,decide_eq_true_eq]at n;have hr:MM l[i]=0:=by
  unfold MM;rw[nR nN,nR nN,nR nN,nR (by rw[n.2];decide),nR nN]
 rw[nS hr];by_cases c:i=0;rw[nS c]
 . rw[nR c];have f:i-1<l.length:=by omega
   have b:=b nN;rw[qm f]at b ⊢
   try dsimp only at b ⊢
   unfold Fe;rw[nR nN,nS b];simp;omega
section
variable{H:Hp}{p q:Nat}{a b:SV}
end
def nC(l:List CI):Prop:=l.length<=256/\(∀r∈l,MM r=0)/\l.Pairwise λa b=>a.id<b.id
theorem ew{l:List CI}(h:Ha l=0):nC l:=by
 have c:¬256<l.length:=λg=>by rw[Ha,nS g]at h;cases h
 refine⟨by omega,λr hr=>?_,?_⟩;rw[Ha,nR c]at h;obtain⟨i,hi,rfl⟩:=List.mem_iff_getElem.1 hr;have:=Hk h i hi;unfold QO at this;rw[qm hi]at this;dsimp only at this;by_cases e:MM l[i]=0;exact e;rw[nR e]at this;exact this;exact List.pairwise_iff_getElem.2 λi j hi b a=>N9 h i j a b
theorem VZ{d:AH}{x:Int}:x∈GM d↔x≠0/\x∈AD.U d.W++d.T0.all:=by
 unfold GM FG;rw[List.mem_mergeSort,qZ,Do];simp[and_comm]
theorem Xg{U:List Int}{x:Int}(h:(Bc (I0 U x) U.length).2=true):x∈U:=by
 have a:=Sj _ _ h;simp only[Bc,decide_eq_true_eq]at h a;obtain⟨k,hk⟩:∃k,k=IG (I0 U x) 0 U.length:=⟨_,rfl⟩
 rw[<-hk]at h a;have:=h.2;unfold I0 at this;rw[qm a]at this;dsimp only at this;split at this;omega;split at this;rename_i e;rw[<-e];exact qp a;omega
theorem KB{D:AH}{r:CI}(h0:r.id≠0):r∈D.normal.V↔r∈D.V/\r.id∈AD.U (Ae D.W)++D.T0.all:=by
 show r∈D.V.filter _↔_;rw[qZ];constructor;rintro⟨h1,h2⟩;exact⟨h1,(VZ.1 (Xg h2)).2⟩;rintro⟨h1,h2⟩;exact⟨h1,SR h0 h2⟩
section
variable{a id:Int}
end
theorem W6{a b:AH}(h1:a.W=b.W)(h2:a.T0 = b.T0)(c:a.V=b.V)(d:a.S=b.S):a=b:=by
 cases a;cases b;simp only at h1 h2 c d;subst h1 h2 c d;rfl
theorem UW{h:AF}{y:Int}:y∈h.all↔y=h.I\/(∃d∈h.Y,d.rev=y)\/∃d∈h.Z,d.rev=y:=by
 unfold AF.all;simp only[qd,qf,qb]
section
variable{N K:Nat}{d:AH}{m2:List Int}
theorem Vd(hd:bv N d):nC d.V:=ew (TX hd.V)
theorem dZ(a:m2=BD [] (d.V.map (·.id))){id:Int}:id∈m2↔∃r∈d.V,r.id=id:=by
 rw[a,Do];simp
end
section
variable{σ:Type}(R:Pa σ)(it:Int->List AD->σ->List AD×σ)
def Q3(x:AD)(s:σ):AD×σ:=
 let f:=it 0 x.W s
 let r:=Di R it x.R f.2
 (.mk x.l x.code x.id x.J x.H f.1 r.1,r.2)
def Eh(q:List AD×σ)(x:AD):List AD×σ:=
 let p:=R.item x q.2
 if p.2.1 then
  let h:=R.H p.1.H p.2.2
  let y:=Q3 R it (p.1.wHead h.1) h.2
  (q.1++[y.1],y.2)
 else(q.1,p.2.2)
def BK:Nat->Int->List AD->σ->List AD×σ
 | 0,_,_,s=>([],s)
 | N+1,_,l,s=>l.foldl (Eh R (BK N)) ([],s)
end
section
variable{σ:Type}{R:Pa σ}{it:Int->List AD->σ->List AD×σ}{rk:σ->Nat}
theorem NX:∀(l:List AD)(q:List AD×σ),(l.foldl (Eh R it) q).1.length<=q.1.length+l.length
 | [],_=>IO _
 | c :: l, q => by
  rw[qH];have:=NX l (Eh R it q c);have h2:(Eh R it q c).1.length<=q.1.length+1:=by
   unfold Eh;dsimp only;split<;>simp
  rw[qo];omega
theorem Pn(U:R.Up rk)(hi:∀id l s,rk s<=rk (it id l s).2)(x:AD)(s:σ):rk s<=rk (Q3 R it x s).2:=
 qy (hi 0 x.W s) (Ls U hi _ _)
theorem Om(U:R.Up rk)(hi:∀id l s,rk s<=rk (it id l s).2)(q:List AD×σ)(x:AD):rk q.2<=rk (Eh R it q x).2:=by
 unfold Eh;dsimp only;split;exact qy (qy (U.item _ _) (U.H _ _)) (Pn U hi _ _);exact U.item _ _
theorem NY(U:R.Up rk):∀(N:Nat)(id:Int)(l:List AD)(s:σ),rk s<=rk (BK R N id l s).2
 | 0,_,_,_=>IO _
 | N+1,_,l,s=>JS (G:=Eh R (BK R N)) (Om U (NY U N)) l ([],s)
end
mutual
def AD.mi(g:AF->AF)(f:Int×Int->Int):AD->AD
 | .mk k c i t h fl r=>.mk k c (if k=8 then f (c,i)else i) t (g h) (AD.miL g f fl) (AM.miL g f r)
def AD.miL(g:AF->AF)(f:Int×Int->Int):List AD->List AD
 | []=>[]
 | x::l=>AD.mi g f x::AD.miL g f l
def AM.mi(g:AF->AF)(f:Int×Int->Int):AM->AM
 | .mk h c=>.mk (g h) (AG.miL g f c)
def AM.miL(g:AF->AF)(f:Int×Int->Int):List AM->List AM
 | []=>[]
 | x::l=>AM.mi g f x::AM.miL g f l
def AG.mi(g:AF->AF)(f:Int×Int->Int):AG->AG
 | .mk i h fl=>.mk i (g h) (AD.miL g f fl)
def AG.miL(g:AF->AF)(f:Int×Int->Int):List AG->List AG
 | []=>[]
 | x::l=>AG.mi g f x::AG.miL g f l
end
mutual
def AD.an:AD->List (Int×Int)
 | .mk k c i _ _ f r=>(if k=8 then[(c,i)]else[])++(AD.anL f++AM.anL r)
def AD.anL:List AD->List (Int×Int)
 | []=>[]
 | x::l=>AD.an x++AD.anL l
def AM.an:AM->List (Int×Int)
 | .mk _ c=>AG.anL c
def AM.anL:List AM->List (Int×Int)
 | []=>[]
 | x::l=>AM.an x++AM.anL l
def AG.an:AG->List (Int×Int)
 | .mk _ _ f=>AD.anL f
def AG.anL:List AG->List (Int×Int)
 | []=>[]
 | x::l=>AG.an x++AG.anL l
end
section
variable(g:AF->AF)(f:Int×Int->Int)
theorem AD.miL_eq:∀l:List AD,AD.miL g f l=l.map (AD.mi g f)
 | []=>by rw[AD.miL];rfl
 | x::l=>by rw[AD.miL,AD.miL_eq l];rfl
theorem AM.miL_eq:∀l:List AM,AM.miL g f l=l.map (AM.mi g f)
 | []=>by rw[AM.miL];rfl
 | x::l=>by rw[AM.miL,AM.miL_eq l];rfl
theorem AG.miL_eq:∀l:List AG,AG.miL g f l=l.map (AG.mi g f)
 | []=>by rw[AG.miL];rfl
 | x::l=>by rw[AG.miL,AG.miL_eq l];rfl
theorem AD.mi_eq(x:AD):AD.mi g f x=.mk x.l x.code (if x.l=8 then f (x.code,x.id)else x.id) x.J (g x.H) (AD.miL g f x.W) (x.R.map (AM.mi g f)):=by cases x;rw[AD.mi,AM.miL_eq];rfl
theorem AM.mi_eq(x:AM):AM.mi g f x=.mk (g x.H) (x.cells.map (AG.mi g f)):=by cases x;rw[AM.mi,AG.miL_eq];rfl
theorem AG.mi_eq(x:AG):AG.mi g f x=.mk x.id (g x.H) (AD.miL g f x.W):=by cases x;rw[AG.mi];rfl
end
theorem AD.anL_eq:∀l:List AD,AD.anL l=l.flatMap AD.an
 | []=>by rw[AD.anL];rfl
 | x::l=>by rw[AD.anL,AD.anL_eq l];rfl
theorem AM.anL_eq:∀l:List AM,AM.anL l=l.flatMap AM.an
 | []=>by rw[AM.anL];rfl
 | x::l=>by rw[AM.anL,AM.anL_eq l];rfl
theorem AG.anL_eq:∀l:List AG,AG.anL l=l.flatMap AG.an
 | []=>by rw[AG.anL];rfl
 | x::l=>by rw[AG.anL,AG.anL_eq l];rfl
theorem AD.an_eq(x:AD):x.an=(if x.l=8 then[(x.code,x.id)]else[])++(AD.anL x.W++AM.anL x.R):=by cases x;rw[AD.an];rfl
theorem AM.an_eq(x:AM):x.an=AG.anL x.cells:=by cases x;rw[AM.an];rfl
theorem AG.an_eq(x:AG):x.an=AD.anL x.W:=by cases x;rw[AG.an];rfl
section
variable{σ:Type}
structure PZ(step:σ->Int×Int->σ)(look:σ->Int×Int->Int)(Inv:σ->Prop)(ok:Int×Int->Prop):Prop where
 inv:∀s a,Inv s->ok a->Inv (step s a)
 keep:∀s a b,Inv s->ok a->look s b≠0->look (step s a) b=look s b
 new:∀s a,Inv s->ok a->look (step s a) a≠0
def GP(step:σ->Int×Int->σ)(look:σ->Int×Int->Int)(g:AF->AF):Pa σ where
 W _ l s:=(l,s)
 H h s:=(g h,s)
 item x s:=if x.l=8 then(GI x (look (step s (x.code,x.id)) (x.code,x.id)),true,step s (x.code,x.id))else(x,true,s)
variable{step:σ->Int×Int->σ}{look:σ->Int×Int->Int}{Inv:σ->Prop}{ok:Int×Int->Prop}{g:AF->AF}{hp:AF->Prop}{T:Int->Prop}
def Qk(look:σ->Int×Int->Int)(s t:σ):Prop:=∀b,look s b≠0->look t b=look s b
theorem Qk.trans{s t u:σ}(h1:Qk look s t)(h2:Qk look t u):Qk look s u:=λb h=>by rw[h2 b (by rw[h1 b h];exact h),h1 b h]
theorem PZ.fold(M:PZ step look Inv ok):∀(l:List (Int×Int))(s:σ),Inv s->(∀a∈l,ok a)->Inv (l.foldl step s)/\Qk look s (l.foldl step s)
 | [],s,h,_=>⟨h,λ_ _=>rfl⟩
 | a::l,s,h,ha=>by
  obtain⟨h1,h2⟩:=M.fold l (step s a) (M.inv s a h (ha a nO)) λb hb=>ha b (by simp[hb]);exact⟨h1,Qk.trans (λb hb=>M.keep s a b h (ha a nO) hb) h2⟩
def VA(step:σ->Int×Int->σ)(look:σ->Int×Int->Int)(Inv:σ->Prop)(ok:Int×Int->Prop)(g:AF->AF)(it:Int->List AD->σ->List AD×σ)(l:List AD):Prop:=
 ∀id s t,(∀a∈AD.anL l,ok a)->Inv s->Qk look ((AD.anL l).foldl step s) t->it id l s=(AD.miL g (look t) l,(AD.anL l).foldl step s)
variable{it:Int->List AD->σ->List AD×σ}
theorem RY(M:PZ step look Inv ok):∀(l:List AG)(out:List AG)(s t:σ),(∀c∈l,VA step look Inv ok g it c.W)->(∀a∈AG.anL l,ok a)->Inv s->Qk look ((AG.anL l).foldl step s) t->
 l.foldl (EQ (GP step look g) it) (out,s)=(out++AG.miL g (look t) l,(AG.anL l).foldl step s)
 | [],out,s,t,_,_,_,_=>by rw[AG.miL,AG.anL];simp
 | c :: l, out, s, t, hc, ha, hi, hl => by
  rw[AG.anL]at ha hl ⊢;rw[qX]at hl ⊢;have a1:∀a∈c.an,ok a:=λa h=>ha a (by simp[h]);obtain⟨b,_⟩:=M.fold c.an s hi a1;obtain⟨_,d⟩:=M.fold (AG.anL l) _ b λa h=>ha a (by simp[h]);rw[qH];have e:EQ (GP step look g) it (out,s) c=(out++[AG.mi g (look t) c],c.an.foldl step s):=by
   unfold EQ;simp only[GP];rw[AG.an_eq]at a1 d hl ⊢;rw[hc c nO c.id s t a1 hi (Qk.trans d hl),AG.mi_eq]
  rw[e,RY M l _ _ t (λc h=>hc c (by simp[h])) (λa h=>ha a (by simp[h])) b hl,AG.miL];simp
theorem UY(M:PZ step look Inv ok):∀(l:List AM)(out:List AM)(s t:σ),(∀r∈l,∀c∈r.cells,VA step look Inv ok g it c.W)->(∀a∈AM.anL l,ok a)->Inv s->Qk look ((AM.anL l).foldl step s) t->
 l.foldl (GG (GP step look g) it) (out,s)=(out++AM.miL g (look t) l,(AM.anL l).foldl step s)
 | [],out,s,t,_,_,_,_=>by rw[AM.miL,AM.anL];simp
 | r :: l, out, s, t, hc, ha, hi, hl => by
  rw[AM.anL]at ha hl ⊢;rw[qX]at hl ⊢;have a1:∀a∈r.an,ok a:=λa h=>ha a (by simp[h]);obtain⟨b,_⟩:=M.fold r.an s hi a1;obtain⟨_,d⟩:=M.fold (AM.anL l) _ b λa h=>ha a (by simp[h]);rw[qH];have e:GG (GP step look g) it (out,s) r=(out++[AM.mi g (look t) r],r.an.foldl step s):=by
   unfold GG JU;simp only[GP];rw[AM.an_eq]at a1 d hl ⊢;have:=RY (g:=g) (it:=it) M r.cells [] s t (hc r nO) a1 hi (Qk.trans d hl);unfold GP at this;rw[this,AM.mi_eq,AG.miL_eq];simp
  rw[e,UY M l _ _ t (λc h=>hc c (by simp[h])) (λa h=>ha a (by simp[h])) b hl,AM.miL];simp
theorem Zg:AD.anL []=[]:=by rw[AD.anL]
theorem T2:AM.anL []=[]:=by rw[AM.anL]
theorem O7(x:AD)(s:σ):(GP step look g).item x s=(GI x (if x.l=8 then look (step s (x.code,x.id)) (x.code,x.id)else x.id),true,(if x.l=8 then[(x.code,x.id)]else[]).foldl step s):=by
 unfold GP;dsimp only;split;rfl;cases x;rfl
theorem ZF(x:AD)(i:Int)(h:AF):((GI x i).wHead h)=.mk x.l x.code i x.J h x.W x.R:=rfl
theorem XS(x:AD)(i:Int):(GI x i).H=x.H:=rfl
theorem Uv(R:Pa σ)(k c i:Int)(t:ByteArray)(h:AF)(f:List AD)(r:List AM)(s:σ):GF R it (.mk k c i t h f r) s =
 if k=6 then(.mk k c i t h (it i f s).1 r,(it i f s).2)else if k=7 then(.mk k c i t h f (Di R it r s).1,(Di R it r s).2)else(.mk k c i t h f r,s):=rfl
theorem UA(R:Pa σ)(k c i:Int)(t:ByteArray)(h:AF)(f:List AD)(r:List AM)(s:σ):Q3 R it (.mk k c i t h f r) s =
 (.mk k c i t h (it 0 f s).1 (Di R it r (it 0 f s).2).1,(Di R it r (it 0 f s).2).2):=rfl
theorem UX(M:PZ step look Inv ok)(x:AD)(k6:x.l≠6->x.W=[])(k7:x.l≠7->x.R=[])(hf:VA step look Inv ok g it x.W)(hr:∀r∈x.R,∀c∈r.cells,VA step look Inv ok g it c.W)
 (out:List AD) (s t:σ) (ha:∀a∈x.an,ok a) (hi:Inv s) (hl:Qk look (x.an.foldl step s) t):
 Ej (GP step look g) it (out,s) x=(out++[AD.mi g (look t) x],x.an.foldl step s)/\Eh (GP step look g) it (out,s) x=(out++[AD.mi g (look t) x],x.an.foldl step s):=by
 rw[AD.an_eq]at ha hl ⊢;rw[qX,qX]at hl ⊢;obtain⟨s1,hs1⟩:∃s1,(if x.l=8 then[(x.code,x.id)]else[]).foldl step s=s1:=⟨_,rfl⟩
 obtain⟨i1,_⟩:=M.fold (if x.l=8 then[(x.code,x.id)]else[]) s hi λa h=>ha a (qx _ h);have af:∀a∈AD.anL x.W,ok a:=λa h=>ha a (by simp[h]);have ar:∀a∈AM.anL x.R,ok a:=λa h=>ha a (by simp[h]);rw[hs1]at i1 hl ⊢;obtain⟨i2,l2⟩:=M.fold (AD.anL x.W) s1 i1 af;obtain⟨i3,l3⟩:=M.fold (AM.anL x.R) _ i2 ar;have e1:=λid=>hf id s1 t af i1 (Qk.trans l3 hl);have e2:=UY (g:=g) (it:=it) M x.R [] _ t hr ar i2 hl;have hid:(if x.l=8 then look (step s (x.code,x.id)) (x.code,x.id)else x.id)=if x.l=8 then look t (x.code,x.id)else x.id:=by
  split
  . next k=>
    rw[nS k]at hs1;have hs1':step s (x.code,x.id)=s1:=hs1;rw[hs1'];refine((Qk.trans (Qk.trans l2 l3) hl) _ ?_).symm;rw[<-hs1'];exact M.new s _ hi (ha _ (by simp[k]))
  rfl
 have hrow:∀h s2,(GP step look g).H h s2=(g h,s2):=λ_ _=>rfl;rw[AD.mi_eq];constructor;unfold Ej;dsimp only;rw[O7,hs1,hid];dsimp only;rw[nS rfl,XS,hrow];dsimp only;rw[ZF,Uv];unfold Di;by_cases h6:x.l=6;rw[nS h6,e1,k7 nN,T2];rfl;rw[nR h6];rw[k6 h6,Zg]at e2 ⊢;by_cases h7:x.l=7;rw[nS h7];dsimp only[List.foldl_nil]at e2 ⊢;rw[e2,AM.miL_eq,AD.miL];simp;rw[nR h7,k7 h7,T2,AD.miL];rfl;unfold Eh;dsimp only;rw[O7,hs1,hid];dsimp only;rw[nS rfl,XS,hrow];dsimp only;rw[ZF,UA];unfold Di;rw[e1];dsimp only;rw[e2,AM.miL_eq];simp
theorem P4(M:PZ step look Inv ok)(F:List AD×σ->AD->List AD×σ):∀(l:List AD)(out:List AD)(s t:σ),
 (∀x∈l,∀out s t,(∀a∈x.an,ok a)->Inv s->Qk look (x.an.foldl step s) t->F (out,s) x=(out++[AD.mi g (look t) x],x.an.foldl step s))->
 (∀a∈AD.anL l,ok a)->Inv s->Qk look ((AD.anL l).foldl step s) t->l.foldl F (out,s)=(out++AD.miL g (look t) l,(AD.anL l).foldl step s)
 | [],out,s,t,_,_,_,_=>by rw[AD.miL,AD.anL];simp
 | x::l,out,s,t,hF,ha,hi,hl=>by
  rw[AD.anL]at ha hl ⊢;rw[qX]at hl ⊢;have a1:∀a∈x.an,ok a:=λa h=>ha a (by simp[h]);obtain⟨b,_⟩:=M.fold x.an s hi a1;obtain⟨_,c⟩:=M.fold (AD.anL l) _ b λa h=>ha a (by simp[h]);rw[qH,hF x nO out s t a1 hi (Qk.trans c hl),P4 M F l _ _ t (λx h=>hF x (by simp[h])) (λa h=>ha a (by simp[h])) b hl,AD.miL];simp
theorem PJ(M:PZ step look Inv ok):∀(N:Nat)(l:List AD),wf hp T N l->VA step look Inv ok g (Au (GP step look g) N) l/\VA step look Inv ok g (BK (GP step look g) N) l
 | 0,_,h=>h.elim
 | N+1,l,H=>by
  have key:∀x∈l,_:=λx a=>DP.1 H x a;constructor;intro id s t d hi f;rw[Au];refine P4 (g:=g) M _ l [] s t (λx a out s t h1 h2 b=>?_) d hi f;have w:=key x a;exact(UX M x w.k6 w.k7 (PJ M N _ w.W).1 (λr hr c e=>(PJ M N _ ((w.R r hr).2.2 c e).2.2).1) out s t h1 h2 b).1;intro id s t d hi f;rw[BK];refine P4 (g:=g) M _ l [] s t (λx a out s t h1 h2 b=>?_) d hi f;have w:=key x a;exact(UX M x w.k6 w.k7 (PJ M N _ w.W).2 (λr hr c e=>(PJ M N _ ((w.R r hr).2.2 c e).2.2).2) out s t h1 h2 b).2
end
end Go.Proofs.YthinbkgpjmjfeaaGreatDoor.Sh
