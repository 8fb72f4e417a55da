/- A part of the proof (part 10 of 17). -/
import Derived.Test.YthinbkgpjmjfeaaGreatDoorN9
import Derived.Sort.Grow
import Derived.Deep.Draws
import Derived.Shelf.SlSortCmp.WholeK
import Derived.Test.YthinbkgpjmjfeaaGreatDoorProg
namespace Go.Proofs.YthinbkgpjmjfeaaGreatDoor.Sh
open Go.Proofs.Tryz
section
variable{E:BZ}{P:Program}{N:Nat}{code:Code}{Q:CT}{sa:SA}{h h':Hp}{n n':Nat}{c:Cx}
theorem U6(s:n<=n')(hg:∀c,CB h c->Fr n c->∃b:Cx,b.w=c.w/\DV c b/\CB h' b/\Fr n' b/\∀j,j<n->b.ρ j=c.ρ j)(H:GU E P N code Q sa h' n'):GU E P N code Q sa h n:=by
 intro hd c a I R F A;obtain⟨b,hw,X,m,l,hρ⟩:=hg c R F;rw[<-hw];refine wpIn_mono (H hd b a (E.ext X I) m l (A.ext X)) ?_;rintro e a' w' ⟨i,h2,t,p,q,g,o,d,k,f⟩;exact⟨i,h2,t,p,q,g,o,d,k,⟨X.trans f.ext,qC s f.le,λj r=>(f.same j mq).trans (hρ j r)⟩⟩
end
open Proofs
theorem AU.pre{α β:Type}{R:α->β->Prop}:∀{l t:List α} {m:List β},AU R (l++t) m->AU R l (m.take l.length)
 | [],_,_,_=>trivial
 | _a::_l,_t,[],h=>h.elim
 | _a::_l,_t,_b::_m,h=>⟨h.1,AU.pre h.2⟩
section
variable{E:BZ}{P:Program}{N:Nat}{code:Code}{Q:CT}{sa:SA}{h:Hp}{n:Nat}
end
def kv(w:World):Cx:=⟨λ_=>none,λ_=>False,w,λ_=>none⟩
theorem mV(W:World):CB (λ_=>none) (kv W):=⟨λ_ _ h=>(by cases h),λ_ _ _ _ _ h=>(by cases h),λb=>⟨λh=>h.elim,λ⟨_,_,h,_⟩=>(by cases h)⟩⟩
theorem XJ{W a:World}(hs:W.heap.size<=a.heap.size)(hk:∀b,b<W.heap.size->a.heap[b]? = W.heap[b]?)(d:a.os=W.os)(hp:a.output=W.output)(ht:Td W a):∃q os,a=Go.Sort.grow (W.drewN q) os:=by
 refine⟨a.drawn-W.drawn,a.heap.extract W.heap.size a.heap.size,?_⟩;obtain⟨h1,h2⟩:=ht;have e:a.heap=W.heap++a.heap.extract W.heap.size a.heap.size:=by
  apply Array.ext_getElem?;intro i;by_cases hi:i<W.heap.size;rw[vS hi,hk i hi];rw[Array.getElem?_append_right mq];by_cases c:i<a.heap.size;rw[vj c,vj (by simp;omega)];simp only[Array.getElem_extract];congr 2;omega;rw[vt mq,vt (by simp;omega)]
 cases a with
 | mk heap tape drawn os output=>
  simp only at e h1 h2 d hp ⊢;subst h1 d hp;rw[e];simp only[Go.Sort.grow,World.drewN];congr 1;congr 1;rw[<-e];omega
theorem PC.grown{f:FuncId}{a:List SV}{v:SV}(h:PC f a v){W:World}{vs:List Value}(hv:AU (V (kv W)) a vs):Calls prog f vs.toArray W λe i=>(∃u d,e=.returned u/\V d v u)/\∃q os,i=Go.Sort.grow (W.drewN q) os:=by
 have:=(h (λ_=>none) 0).2 (kv W) vs trivial (mV W) (λ_ _=>rfl) hv;refine this.mono ?_;rintro e i ⟨u,v',h',n',d,rfl,⟨rfl,_⟩,rfl,j,_,_,c⟩;exact⟨⟨u,d,rfl,j⟩,XJ c.ext.size (λb hb=>(c.ext.keep b hb (λg=>g)).2) c.ext.os c.ext.out c.ext.td⟩
end Go.Proofs.YthinbkgpjmjfeaaGreatDoor.Sh
namespace Go.Proofs
open Go.Shelf
def Tryz.sortB_ren:Go.Shelf.Ren:=⟨fun|6=>183|15=>243|14=>242|28=>278|29=>266|20=>270|21=>271|22=>272|23=>273|24=>274|25=>275|26=>276|27=>277|46=>302|47=>303|48=>304|49=>305|50=>306|57=>318|n=>n,fun|22=>209|24=>142|25=>215|3=>3|39=>236|0=>0|53=>328|55=>307|4=>4|46=>345|45=>344|50=>188|5=>5|9=>9|66=>369|70=>177|76=>387|77=>388|n=>n,fun|n=>n⟩
theorem Tryz.sortB:Go.Proofs.SlLaysF0.n6 prog Tryz.sortB_ren:={
 mixed:=by kernel_rfl
 f6:=⟨Tryz.f183.name,by decide,func183.trans (congrArg some (by kernel_rfl))⟩
 f14:=⟨Tryz.f242.name,by decide,func242.trans (congrArg some (by kernel_rfl))⟩
 f15:=func243.trans (congrArg some (by kernel_rfl))
 f20:=⟨Tryz.f270.name,by decide,func270.trans (congrArg some (by kernel_rfl))⟩
 f21:=⟨Tryz.f271.name,by decide,func271.trans (congrArg some (by kernel_rfl))⟩
 f22:=⟨Tryz.f272.name,by decide,func272.trans (congrArg some (by kernel_rfl))⟩
 f23:=⟨Tryz.f273.name,by decide,func273.trans (congrArg some (by kernel_rfl))⟩
 f24:=⟨Tryz.f274.name,by decide,func274.trans (congrArg some (by kernel_rfl))⟩
 f25:=⟨Tryz.f275.name,by decide,func275.trans (congrArg some (by kernel_rfl))⟩
 f26:=⟨Tryz.f276.name,by decide,func276.trans (congrArg some (by kernel_rfl))⟩
 f27:=⟨Tryz.f277.name,by decide,func277.trans (congrArg some (by kernel_rfl))⟩
 f28:=func278.trans (congrArg some (by kernel_rfl))
 f29:=func266.trans (congrArg some (by kernel_rfl))
 f46:=⟨Tryz.f302.name,by decide,func302.trans (congrArg some (by kernel_rfl))⟩
 f47:=func303.trans (congrArg some (by kernel_rfl))
 f48:=func304.trans (congrArg some (by kernel_rfl))
 f49:=⟨Tryz.f305.name,by decide,func305.trans (congrArg some (by kernel_rfl))⟩
 f50:=⟨Tryz.f306.name,by decide,func306.trans (congrArg some (by kernel_rfl))⟩
 f57:=⟨Tryz.f318.name,by decide,func318.trans (congrArg some (by kernel_rfl))⟩
 t0:=Tryz.underlying0
 a0:=Tryz.isAgg0
 z0:=Tryz.sizeOf0
 v0:=Tryz.zeroValue0
 t3:=Tryz.underlying3
 a3:=Tryz.isAgg3
 z3:=Tryz.sizeOf3
 v3:=Tryz.zeroValue3
 t4:=Tryz.underlying4
 a4:=Tryz.isAgg4
 z4:=Tryz.sizeOf4
 v4:=Tryz.zeroValue4
 t5:=Tryz.underlying5
 a5:=Tryz.isAgg5
 z5:=Tryz.sizeOf5
 v5:=Tryz.zeroValue5
 t9:=Tryz.underlying9
 a9:=Tryz.isAgg9
 z9:=Tryz.sizeOf9
 v9:=Tryz.zeroValue9
 t22:=Tryz.underlying209
 a22:=Tryz.isAgg209
 z22:=Tryz.sizeOf209
 v22:=Tryz.zeroValue209
 t25:=Tryz.underlying215
 a25:=Tryz.isAgg215
 z25:=Tryz.sizeOf215
 v25:=Tryz.zeroValue215
 t39:=Tryz.underlying236
 a39:=Tryz.isAgg236
 z39:=Tryz.sizeOf236
 v39:=Tryz.zeroValue236
 t45:=Tryz.underlying344
 a45:=Tryz.isAgg344
 z45:=Tryz.sizeOf344
 v45:=Tryz.zeroValue344
 t46:=Tryz.underlying345
 a46:=Tryz.isAgg345
 z46:=Tryz.sizeOf345
 v46:=Tryz.zeroValue345
 t50:=Tryz.underlying188
 a50:=Tryz.isAgg188
 z50:=Tryz.sizeOf188
 v50:=Tryz.zeroValue188
 t53:=Tryz.underlying328
 a53:=Tryz.isAgg328
 z53:=Tryz.sizeOf328
 v53:=Tryz.zeroValue328
 t55:=Tryz.underlying307
 a55:=Tryz.isAgg307
 z55:=Tryz.sizeOf307
 v55:=Tryz.zeroValue307
 t66:=Tryz.underlying369
 a66:=Tryz.isAgg369
 z66:=Tryz.sizeOf369
 v66:=Tryz.zeroValue369
 t70:=Tryz.underlying177
 a70:=Tryz.isAgg177
 z70:=Tryz.sizeOf177
 v70:=Tryz.zeroValue177
 t76:=Tryz.underlying387
 a76:=Tryz.isAgg387
 z76:=Tryz.sizeOf387
 v76:=Tryz.zeroValue387
 t77:=Tryz.underlying388
 a77:=Tryz.isAgg388
 z77:=Tryz.sizeOf388
 v77:=Tryz.zeroValue388 }
end Go.Proofs
namespace Go.Proofs.YthinbkgpjmjfeaaGreatDoor.Sh
open Go.Proofs.Tryz
open Proofs
set_option maxRecDepth 10000
set_option maxHeartbeats 4000000
abbrev DA:=List (Nat×A9)
def Bw(ob:DA)(h:Hp):Hp:=λk=>match ob.lookup k with|some y=>some y|none=>h k
abbrev AJ(ob:DA):List Nat:=ob.map (·.1)
theorem Cf{ob:DA}{k:Nat}:ob.lookup k=none↔k∉AJ ob:=by
 induction ob with
 | nil=>simp
 | cons p l ih=>
  rcases p with⟨j,y⟩
  by_cases e:k=j;subst e;simp[List.lookup];have:(k==j)=false:=by simpa using e
  simp[List.lookup,this,ih,e]
theorem TA(a b:DA)(k:Nat):(a++b).lookup k=(a.lookup k).or (b.lookup k):=by
 induction a with
 | nil=>simp
 | cons p l ih=>
  rcases p with⟨j,y⟩
  by_cases e:k=j;subst e;simp[List.lookup];have:(k==j)=false:=by simpa using e
  simp[List.lookup,this,ih]
theorem TD{ob:DA}(a:(AJ ob).Nodup){k:Nat}{y:A9}(h:(k,y)∈ob):ob.lookup k=some y:=by
 induction ob with
 | nil=>cases h
 | cons p l ih=>
  rcases p with⟨j,z⟩
  simp only[AJ,qi,qU]at a;rcases qe.1 h with h0|h';cases h0;simp[List.lookup];have:k≠j:=by rintro rfl;exact a.1 (qa.2 ⟨(k,y),h',rfl⟩)
  have:(k==j)=false:=by simpa using this
  simp[List.lookup,this,ih a.2 h']
theorem RK{ob:DA}{k:Nat}{y:A9}(h:ob.lookup k=some y):(k,y)∈ob:=by
 induction ob with
 | nil=>cases h
 | cons p l ih=>
  rcases p with⟨j,z⟩
  by_cases e:k=j;subst e;simp[List.lookup]at h;subst h;simp;have:(k==j)=false:=by simpa using e
  simp[List.lookup,this]at h;exact qP _ (ih h)
theorem Ni(h:Hp):Bw [] h=h:=by funext k;rfl
theorem Ii(a b:DA)(h:Hp):Bw (a++b) h=Bw a (Bw b h):=by
 funext k;simp only[Bw,TA];cases a.lookup k<;>rfl
theorem Zv{ob:DA}(a:(AJ ob).Nodup){k:Nat}{y:A9}(h:(k,y)∈ob)(H:Hp):Bw ob H k=some y:=by simp[Bw,TD a h]
theorem Ay{ob:DA}{k:Nat}(h:k∉AJ ob)(H:Hp):Bw ob H k=H k:=by simp[Bw,Cf.2 h]
def BF(ob:DA)(H:Hp):Prop:=∀p∈ob,H p.1=some p.2
theorem BF.app{a b:DA}{H:Hp}:BF (a++b) H↔BF a H/\BF b H:=
 ⟨λh=>⟨λp hp=>h p (qz _ hp),λp hp=>h p (qx _ hp)⟩,λh p hp=>(qd.1 hp).elim (h.1 p) (h.2 p)⟩
def IN(z len:Nat)(L:List SV->DA->Prop)(v:SV)(ob:DA):Prop:=
 (len=0/\(∃z' full,v=.y z' [] full)/\ob=[])\/∃j full cs sub,v=.sl j 0 z len full/\ob=(j,.cells cs)::sub/\L cs sub
mutual
def D6:AB->List SV->DA->Prop
 | .mk k c i t h f r,cs,ob=>∃vf o1 vr o2,cs=[AA k,AA c,AA i,.str t]++h.j++[vf,vr]/\ob=o1++o2/\IN 11 f.length (λcs ob=>BK f cs ob) vf o1/\IN 6 r.length (λcs ob=>Bg r cs ob) vr o2
def BK:List AB->List SV->DA->Prop
 | [],cs,ob=>cs=[]/\ob=[]
 | x::l,cs,ob=>∃c1 c2 o1 o2,cs=c1++c2/\ob=o1++o2/\D6 x c1 o1/\BK l c2 o2
def Gc:AL->List SV->DA->Prop
 | .mk h c,cs,ob=>∃vc,cs=h.j++[vc]/\IN 7 c.length (λcs ob=>BJ c cs ob) vc ob
def Bg:List AL->List SV->DA->Prop
 | [],cs,ob=>cs=[]/\ob=[]
 | x::l,cs,ob=>∃c1 c2 o1 o2,cs=c1++c2/\ob=o1++o2/\Gc x c1 o1/\Bg l c2 o2
def Eu:AF->List SV->DA->Prop
 | .mk i h f,cs,ob=>∃vf,cs=[AA i]++h.j++[vf]/\IN 11 f.length (λcs ob=>BK f cs ob) vf ob
def BJ:List AF->List SV->DA->Prop
 | [],cs,ob=>cs=[]/\ob=[]
 | x::l,cs,ob=>∃c1 c2 o1 o2,cs=c1++c2/\ob=o1++o2/\Eu x c1 o1/\BJ l c2 o2
end
theorem M0:∀(x:AB)(a:List SV)(ob:DA),D6 x a ob->a.length=11
 | .mk _ _ _ _ _ _ _,_,_,h=>by rw[D6]at h;obtain⟨vf,o1,vr,o2,rfl,_⟩:=h;simp[AG.j]
theorem OZ:∀(x:AL)(a:List SV)(ob:DA),Gc x a ob->a.length=6
 | .mk _ _,_,_,h=>by rw[Gc]at h;obtain⟨vf,rfl,_⟩:=h;simp[AG.j]
theorem Mz:∀(x:AF)(a:List SV)(ob:DA),Eu x a ob->a.length=7
 | .mk _ _ _,_,_,h=>by rw[Eu]at h;obtain⟨vf,rfl,_⟩:=h;simp[AG.j]
theorem Ft:∀(l:List AB)(a:List SV)(ob:DA),BK l a ob->a.length=l.length*11
 | [],_,_,h=>by rw[BK]at h;rw[h.1];rfl
 | x::l,_,_,h=>by
  rw[BK]at h;obtain⟨c1,c2,o1,o2,rfl,rfl,h1,h2⟩:=h;rw[ql,M0 _ _ _ h1,Ft _ _ _ h2,qo];omega
theorem Jq:∀(l:List AL)(a:List SV)(ob:DA),Bg l a ob->a.length=l.length*6
 | [],_,_,h=>by rw[Bg]at h;rw[h.1];rfl
 | x::l,_,_,h=>by
  rw[Bg]at h;obtain⟨c1,c2,o1,o2,rfl,rfl,h1,h2⟩:=h;rw[ql,OZ _ _ _ h1,Jq _ _ _ h2,qo];omega
theorem Ic:∀(l:List AF)(a:List SV)(ob:DA),BJ l a ob->a.length=l.length*7
 | [],_,_,h=>by rw[BJ]at h;rw[h.1];rfl
 | x::l,_,_,h=>by
  rw[BJ]at h;obtain⟨c1,c2,o1,o2,rfl,rfl,h1,h2⟩:=h;rw[ql,Mz _ _ _ h1,Ic _ _ _ h2,qo];omega
theorem HG:∀(a b:List AB)(d:List SV)(ob:DA),BK (a++b) d ob↔∃c1 c o1 o2,d=c1++c/\ob=o1++o2/\BK a c1 o1/\BK b c o2
 | [],b,d,ob=>by
  constructor;intro h;exact⟨[],d,[],ob,rfl,rfl,by rw[BK];exact⟨rfl,rfl⟩,h⟩;rintro⟨c1,c,o1,o2,rfl,rfl,h1,h2⟩;rw[BK]at h1;obtain⟨rfl,rfl⟩:=h1;exact h2
 | x::a,b,d,ob=>by
  rw[qB,BK];constructor;rintro⟨c1,c,o1,o2,rfl,rfl,h1,h2⟩;obtain⟨e,f,p1,p2,rfl,rfl,g,i⟩:=(HG a b _ _).1 h2;exact⟨c1++e,f,o1++p1,p2,by simp,by simp,by rw[BK];exact⟨c1,e,o1,p1,rfl,rfl,h1,g⟩,i⟩;rintro⟨c1,c,o1,o2,rfl,rfl,h1,h2⟩;rw[BK]at h1;obtain⟨e,f,p1,p2,rfl,rfl,g,i⟩:=h1;exact⟨e,f++c,p1,p2++o2,by simp,by simp,g,(HG a b _ _).2 ⟨f,c,p2,o2,rfl,rfl,i,h2⟩⟩
theorem Hy:∀(a b:List AL)(d:List SV)(ob:DA),Bg (a++b) d ob↔∃c1 c o1 o2,d=c1++c/\ob=o1++o2/\Bg a c1 o1/\Bg b c o2
 | [],b,d,ob=>by
  constructor;intro h;exact⟨[],d,[],ob,rfl,rfl,by rw[Bg];exact⟨rfl,rfl⟩,h⟩;rintro⟨c1,c,o1,o2,rfl,rfl,h1,h2⟩;rw[Bg]at h1;obtain⟨rfl,rfl⟩:=h1;exact h2
 | x::a,b,d,ob=>by
  rw[qB,Bg];constructor;rintro⟨c1,c,o1,o2,rfl,rfl,h1,h2⟩;obtain⟨e,f,p1,p2,rfl,rfl,g,i⟩:=(Hy a b _ _).1 h2;exact⟨c1++e,f,o1++p1,p2,by simp,by simp,by rw[Bg];exact⟨c1,e,o1,p1,rfl,rfl,h1,g⟩,i⟩;rintro⟨c1,c,o1,o2,rfl,rfl,h1,h2⟩;rw[Bg]at h1;obtain⟨e,f,p1,p2,rfl,rfl,g,i⟩:=h1;exact⟨e,f++c,p1,p2++o2,by simp,by simp,g,(Hy a b _ _).2 ⟨f,c,p2,o2,rfl,rfl,i,h2⟩⟩
theorem HE:∀(a b:List AF)(d:List SV)(ob:DA),BJ (a++b) d ob↔∃c1 c o1 o2,d=c1++c/\ob=o1++o2/\BJ a c1 o1/\BJ b c o2
 | [],b,d,ob=>by
  constructor;intro h;exact⟨[],d,[],ob,rfl,rfl,by rw[BJ];exact⟨rfl,rfl⟩,h⟩;rintro⟨c1,c,o1,o2,rfl,rfl,h1,h2⟩;rw[BJ]at h1;obtain⟨rfl,rfl⟩:=h1;exact h2
 | x::a,b,d,ob=>by
  rw[qB,BJ];constructor;rintro⟨c1,c,o1,o2,rfl,rfl,h1,h2⟩;obtain⟨e,f,p1,p2,rfl,rfl,g,i⟩:=(HE a b _ _).1 h2;exact⟨c1++e,f,o1++p1,p2,by simp,by simp,by rw[BJ];exact⟨c1,e,o1,p1,rfl,rfl,h1,g⟩,i⟩;rintro⟨c1,c,o1,o2,rfl,rfl,h1,h2⟩;rw[BJ]at h1;obtain⟨e,f,p1,p2,rfl,rfl,g,i⟩:=h1;exact⟨e,f++c,p1,p2++o2,by simp,by simp,g,(HE a b _ _).2 ⟨f,c,p2,o2,rfl,rfl,i,h2⟩⟩
section
variable{h' h2:Hp}
def Jd(h' h2:Hp)(cs ds:List SV):Prop:=∃K0,∀K,K0<=K->AU (Fz h' h2 K) cs ds
theorem AU.app{α β:Type}{R:α->β->Prop}:∀{a b:List α} {c d:List β},AU R a c->AU R b d->AU R (a++b) (c++d)
 | [],_,[],_,_,g=>g
 | _::_,_,_::_,_,h,g=>⟨h.1,AU.app h.2 g⟩
 | [],_,_::_,_,h,_=>h.elim
 | _::_,_,[],_,h,_=>h.elim
theorem Jd.app{a b c d:List SV}(h:Jd h' h2 a c)(g:Jd h' h2 b d):Jd h' h2 (a++b) (c++d):=by
 obtain⟨e,h⟩:=h;obtain⟨f,g⟩:=g;exact⟨max e f,λK hK=>AU.app (h K mq) (g K mq)⟩
theorem Jd.same{a:List SV}:Jd h' h2 a a:=⟨0,λK _=>by
 induction a with
 | nil=>trivial
 | cons x l ih=>exact⟨Or,ih⟩⟩
theorem Lb{z len:Nat}{L:List SV->DA->Prop}{v:SV}{ob:DA}{es:List SV}(H:IN z len L v ob)(b:es.length=len)(n:∀e∈es,e.B=true/\e.cells.length=z)
 (h:BF ob h') (g:∀k∈AJ ob,h2 k=none) (l:∀a sub,L a sub->BF sub h'->(∀k∈AJ sub,h2 k=none)->a.length=len*z/\Jd h' h2 a (es.flatMap SV.cells)):Jd h' h2 [v] [.y z es false]:=by
 rcases H with⟨h0,⟨z',full,rfl⟩,rfl⟩|⟨j,full,a,sub,rfl,rfl,c⟩
 have:es=[]:=vb.1 mq;subst this;exact⟨1,λK d=>by
  obtain⟨K,rfl⟩:∃k,K=k+1:=⟨K-1,by omega⟩
  exact⟨.inr ⟨by simp,.inl rfl,trivial,by simp⟩,trivial⟩⟩
 obtain⟨f,i,d⟩:=l a sub c (λp hp=>h p (by simp[hp])) (λk hk=>g k (by simp only[AJ,qi,qe];exact .inr hk));have m:=h (j,.cells a) mr;exact⟨i+1,λK hK2=>by
  obtain⟨K,rfl⟩:∃k,K=k+1:=⟨K-1,by omega⟩
  refine⟨.inr ⟨g j mr,by simp,b,rfl,a,a,m,by simp[Cb,f];rw[<-f,qp],n,d K mq⟩,trivial⟩⟩
mutual
theorem Xd:∀(x:AB)(a:List SV)(ob:DA),D6 x a ob->BF ob h'->(∀k∈AJ ob,h2 k=none)->Jd h' h2 a x.h.cells
 | .mk k c i t h f r,_,_,H,ho,hn=>by
  rw[D6]at H;obtain⟨vf,o1,vr,o2,rfl,rfl,h1,h2⟩:=H;obtain⟨d,e⟩:=BF.app.1 ho;have a1:=Lb h1 (es:=f.map AB.h) mr (AB.E.size f) d (λk hk=>hn k (by simp only[AJ,qc,qd];exact .inl hk)) λa sub g1 b g3=>⟨Ft _ _ _ g1,JM f a sub g1 b g3⟩
  have a2:=Lb h2 (es:=r.map AL.h) mr (AL.E.size r) e (λk hk=>hn k (by simp only[AJ,qc,qd];exact .inr hk)) λa sub g1 b g3=>⟨Jq _ _ _ g1,RM r a sub g1 b g3⟩
  rw[AB.h,AB.encL_eq,AL.encL_eq];exact Jd.app Jd.same (Jd.app a1 a2)
theorem JM:∀(l:List AB)(c:List SV)(ob:DA),BK l c ob->BF ob h'->(∀k∈AJ ob,h2 k=none)->Jd h' h2 c ((l.map AB.h).flatMap SV.cells)
 | [],_,_,H,_,_=>by rw[BK]at H;rw[H.1];exact Jd.same
 | x::l,_,_,H,ho,hn=>by
  rw[BK]at H;obtain⟨c1,d,o1,o2,rfl,rfl,h1,h2⟩:=H;obtain⟨a,b⟩:=BF.app.1 ho;rw[qi,va];exact Jd.app (Xd x c1 o1 h1 a λk hk=>hn k (by simp only[AJ,qc,qd];exact .inl hk)) (JM l d o2 h2 b λk hk=>hn k (by simp only[AJ,qc,qd];exact .inr hk))
theorem Z7:∀(x:AL)(a:List SV)(ob:DA),Gc x a ob->BF ob h'->(∀k∈AJ ob,h2 k=none)->Jd h' h2 a x.h.cells
 | .mk h c,_,_,H,ho,hn=>by
  rw[Gc]at H;obtain⟨vc,rfl,h1⟩:=H;have a1:=Lb h1 (es:=c.map AF.h) mr (AF.E.size c) ho hn λa sub g1 b g3=>⟨Ic _ _ _ g1,Oy c a sub g1 b g3⟩
  rw[AL.h,AF.encL_eq];exact Jd.app Jd.same a1
theorem RM:∀(l:List AL)(c:List SV)(ob:DA),Bg l c ob->BF ob h'->(∀k∈AJ ob,h2 k=none)->Jd h' h2 c ((l.map AL.h).flatMap SV.cells)
 | [],_,_,H,_,_=>by rw[Bg]at H;rw[H.1];exact Jd.same
 | x::l,_,_,H,ho,hn=>by
  rw[Bg]at H;obtain⟨c1,d,o1,o2,rfl,rfl,h1,h2⟩:=H;obtain⟨a,b⟩:=BF.app.1 ho;rw[qi,va];exact Jd.app (Z7 x c1 o1 h1 a λk hk=>hn k (by simp only[AJ,qc,qd];exact .inl hk)) (RM l d o2 h2 b λk hk=>hn k (by simp only[AJ,qc,qd];exact .inr hk))
theorem Xc:∀(x:AF)(a:List SV)(ob:DA),Eu x a ob->BF ob h'->(∀k∈AJ ob,h2 k=none)->Jd h' h2 a x.h.cells
 | .mk i h f,_,_,H,ho,hn=>by
  rw[Eu]at H;obtain⟨vf,rfl,h1⟩:=H;have a1:=Lb h1 (es:=f.map AB.h) mr (AB.E.size f) ho hn λa sub g1 b g3=>⟨Ft _ _ _ g1,JM f a sub g1 b g3⟩
  rw[AF.h,AB.encL_eq];exact Jd.app Jd.same a1
theorem Oy:∀(l:List AF)(c:List SV)(ob:DA),BJ l c ob->BF ob h'->(∀k∈AJ ob,h2 k=none)->Jd h' h2 c ((l.map AF.h).flatMap SV.cells)
 | [],_,_,H,_,_=>by rw[BJ]at H;rw[H.1];exact Jd.same
 | x::l,_,_,H,ho,hn=>by
  rw[BJ]at H;obtain⟨c1,d,o1,o2,rfl,rfl,h1,h2⟩:=H;obtain⟨a,b⟩:=BF.app.1 ho;rw[qi,va];exact Jd.app (Xc x c1 o1 h1 a λk hk=>hn k (by simp only[AJ,qc,qd];exact .inl hk)) (Oy l d o2 h2 b λk hk=>hn k (by simp only[AJ,qc,qd];exact .inr hk))
end
end
def Ha(l:List AB)(v:SV)(ob:DA):Prop:=IN 11 l.length (λcs ob=>BK l cs ob) v ob
theorem TG{h' h2:Hp}{l:List AB}{v:SV}{ob:DA}(H:Ha l v ob)(f:BF ob h')(e:∀k∈AJ ob,h2 k=none):∃a,∀K,a<=K->Fz h' h2 K v (AH l):=by
 obtain⟨a,d⟩:=Lb H (es:=l.map AB.h) mr (AB.E.size l) f e λb sub g1 c g3=>⟨Ft _ _ _ g1,JM l b sub g1 c g3⟩
 exact⟨a,λK h=>(d K h).1⟩
mutual
def Fi:Int->AB->AB×Int
 | c,.mk k co i t h f r=>if k=6 then(.mk k co (c+1) t h (Cu (c+1) f).1 r,(Cu (c+1) f).2)else if k=7 then(.mk k co (c+1) t h f (Do (c+1) r).1,(Do (c+1) r).2)else(.mk k co i t h f r,c)
def Cu:Int->List AB->List AB×Int
 | c,[]=>([],c)
 | c,x::l=>((Fi c x).1::(Cu (Fi c x).2 l).1,(Cu (Fi c x).2 l).2)
def Ib:Int->AL->AL×Int
 | c,.mk h cs=>(.mk h (Dm c cs).1,(Dm c cs).2)
def Do:Int->List AL->List AL×Int
 | c,[]=>([],c)
 | c,x::l=>((Ib c x).1::(Do (Ib c x).2 l).1,(Do (Ib c x).2 l).2)
def Ia:Int->AF->AF×Int
 | c,.mk _ h f=>(.mk (c+1) h (Cu (c+1) f).1,(Cu (c+1) f).2)
def Dm:Int->List AF->List AF×Int
 | c,[]=>([],c)
 | c,x::l=>((Ia c x).1::(Dm (Ia c x).2 l).1,(Dm (Ia c x).2 l).2)
end
mutual
theorem X8:∀(x:AB)(c:Int),c<=(Fi c x).2
 | .mk k co i t h f r,c=>by
  rw[Fi];split;have:=Lh f (c+1);dsimp only;omega;split;have:=QB r (c+1);dsimp only;omega;exact Int.le_refl _
theorem Lh:∀(l:List AB)(c:Int),c<=(Cu c l).2
 | [],c=>by rw[Cu];exact Int.le_refl _
 | x::l,c=>by rw[Cu];have:=X8 x c;have:=Lh l (Fi c x).2;dsimp only;omega
theorem de:∀(x:AL)(c:Int),c<=(Ib c x).2
 | .mk h cs,c=>by rw[Ib];exact P9 cs c
theorem QB:∀(l:List AL)(c:Int),c<=(Do c l).2
 | [],c=>by rw[Do];exact Int.le_refl _
 | x::l,c=>by rw[Do];have:=de x c;have:=QB l (Ib c x).2;dsimp only;omega
theorem db:∀(x:AF)(c:Int),c<=(Ia c x).2
 | .mk i h f,c=>by rw[Ia];have:=Lh f (c+1);dsimp only;omega
theorem P9:∀(l:List AF)(c:Int),c<=(Dm c l).2
 | [],c=>by rw[Dm];exact Int.le_refl _
 | x::l,c=>by rw[Dm];have:=db x c;have:=P9 l (Ia c x).2;dsimp only;omega
end
theorem QA:∀(l:List AB)(c:Int),(Cu c l).1.length=l.length
 | [],c=>by rw[Cu]
 | x::l,c=>by rw[Cu];simp[QA l]
theorem Ms:∀(l:List AL)(c:Int),(Do c l).1.length=l.length
 | [],c=>by rw[Do]
 | x::l,c=>by rw[Do];simp[Ms l]
theorem Mp:∀(l:List AF)(c:Int),(Dm c l).1.length=l.length
 | [],c=>by rw[Dm]
 | x::l,c=>by rw[Dm];simp[Mp l]
theorem Ri:∀(a:List AB)(c:Int)(x:AB),Cu c (a++[x])=((Cu c a).1++[(Fi (Cu c a).2 x).1],(Fi (Cu c a).2 x).2)
 | [],c,x=>by simp[Cu]
 | y::a,c,x=>by rw[qB,Cu,Ri a,Cu];simp
theorem Rj:∀(a:List AL)(c:Int)(x:AL),Do c (a++[x])=((Do c a).1++[(Ib (Do c a).2 x).1],(Ib (Do c a).2 x).2)
 | [],c,x=>by simp[Do]
 | y::a,c,x=>by rw[qB,Do,Rj a,Do];simp
theorem Rh:∀(a:List AF)(c:Int)(x:AF),Dm c (a++[x])=((Dm c a).1++[(Ia (Dm c a).2 x).1],(Ia (Dm c a).2 x).2)
 | [],c,x=>by simp[Dm]
 | y::a,c,x=>by rw[qB,Dm,Rh a,Dm];simp
theorem YA{l:List AB}{i:Nat}{x:AB}(h:i<l.length)(a:l[i]=x)(c:Int):Cu c (l.take (i+1))=((Cu c (l.take i)).1++[(Fi (Cu c (l.take i)).2 x).1],(Fi (Cu c (l.take i)).2 x).2):=by
 rw[qb h,a,Ri]
theorem YB{l:List AL}{i:Nat}{x:AL}(h:i<l.length)(a:l[i]=x)(c:Int):Do c (l.take (i+1))=((Do c (l.take i)).1++[(Ib (Do c (l.take i)).2 x).1],(Ib (Do c (l.take i)).2 x).2):=by
 rw[qb h,a,Rj]
theorem X7{l:List AF}{i:Nat}{x:AF}(h:i<l.length)(a:l[i]=x)(c:Int):Dm c (l.take (i+1))=((Dm c (l.take i)).1++[(Ia (Dm c (l.take i)).2 x).1],(Ia (Dm c (l.take i)).2 x).2):=by
 rw[qb h,a,Rh]
theorem Uj:∀(a b:List AB)(c:Int),(Cu c (a++b)).2=(Cu (Cu c a).2 b).2
 | [],b,c=>by rw[Cu];rfl
 | x::a,b,c=>by rw[qB,Cu,Cu,Uj a b]
theorem Ul:∀(a b:List AL)(c:Int),(Do c (a++b)).2=(Do (Do c a).2 b).2
 | [],b,c=>by rw[Do];rfl
 | x::a,b,c=>by rw[qB,Do,Do,Ul a b]
theorem Uh:∀(a b:List AF)(c:Int),(Dm c (a++b)).2=(Dm (Dm c a).2 b).2
 | [],b,c=>by rw[Dm];rfl
 | x::a,b,c=>by rw[qB,Dm,Dm,Uh a b]
theorem dc(l:List AB)(i:Nat)(c:Int):(Cu c (l.take i)).2<=(Cu c l).2:=by
 have:(Cu c l).2=(Cu (Cu c (l.take i)).2 (l.drop i)).2:=by rw[<-Uj,vY]
 rw[this];exact Lh _ _
theorem dd(l:List AL)(i:Nat)(c:Int):(Do c (l.take i)).2<=(Do c l).2:=by
 have:(Do c l).2=(Do (Do c (l.take i)).2 (l.drop i)).2:=by rw[<-Ul,vY]
 rw[this];exact QB _ _
theorem da(l:List AF)(i:Nat)(c:Int):(Dm c (l.take i)).2<=(Dm c l).2:=by
 have:(Dm c l).2=(Dm (Dm c (l.take i)).2 (l.drop i)).2:=by rw[<-Uh,vY]
 rw[this];exact P9 _ _
theorem Av{A L:List SV}{p:Nat}(h:A.length=p)(m:Nat):(A++L).drop (p+m)=L.drop m:=by
 subst h;rw[List.drop_append,List.drop_eq_nil_of_le mq,qI];congr 1;omega
theorem Am{A L:List SV}{p:Nat}(h:A.length=p):(A++L).drop p=L:=Av h 0
theorem Ax{A L:List SV}{p:Nat}(h:A.length=p)(m:Nat):(A++L).take (p+m)=A++L.take m:=by
 subst h;rw[List.take_append,qQ mq];congr 2;omega
theorem An{A L:List SV}{p:Nat}(h:A.length=p):(A++L).take p=A:=by
 subst h;simp
theorem BF.off{ob:DA}{H a:Hp}(h:BF ob H)(hk:∀k∈AJ ob,a k=H k):BF ob a:=λp hp=>by
 rw[hk p.1 (qa.2 ⟨p,hp,rfl⟩)];exact h p hp
def AB.wHead(x:AB)(h:AG):AB:=.mk x.x x.code x.id x.J h x.W x.R
def AB.wFlow(x:AB)(l:List AB):AB:=.mk x.x x.code x.id x.J x.H l x.R
def AB.wRows(x:AB)(l:List AL):AB:=.mk x.x x.code x.id x.J x.H x.W l
structure PT(σ:Type) where
 W:Int->List AB->σ->List AB×σ
 H:AG->σ->AG×σ
 item:AB->σ->AB×Bool×σ
section
variable{σ:Type}(R:PT σ)(it:Int->List AB->σ->List AB×σ)
def Dd(q:List AF×σ)(c:AF):List AF×σ:=
 let h:=R.H c.H q.2
 let f:=it c.id c.W h.2
 (q.1++[.mk c.id h.1 f.1],f.2)
def IF(l:List AF)(s:σ):List AF×σ:=l.foldl (Dd R it) ([],s)
def E6(q:List AL×σ)(r:AL):List AL×σ:=
 let h:=R.H r.H q.2
 let c:=IF R it r.cells h.2
 (q.1++[.mk h.1 c.1],c.2)
def De(l:List AL)(s:σ):List AL×σ:=l.foldl (E6 R it) ([],s)
def F8(x:AB)(s:σ):AB×σ:=
 if x.x=6 then(x.wFlow (it x.id x.W s).1,(it x.id x.W s).2)else if x.x=7 then(x.wRows (De R it x.R s).1,(De R it x.R s).2)else(x,s)
def Eg(q:List AB×σ)(x:AB):List AB×σ:=
 let p:=R.item x q.2
 if p.2.1 then
  let h:=R.H p.1.H p.2.2
  let y:=F8 R it (p.1.wHead h.1) h.2
  (q.1++[y.1],y.2)
 else(q.1,p.2.2)
def Aw:Nat->Int->List AB->σ->List AB×σ
 | 0,_,_,s=>([],s)
 | N+1,id,l,s=>(R.W id l s).1.foldl (Eg R (Aw N)) ([],(R.W id l s).2)
end
section
variable{σ:Type}{R:PT σ}{it:Int->List AB->σ->List AB×σ}
theorem I1:∀(l:List AF)(q:List AF×σ),(l.foldl (Dd R it) q).1.length=q.1.length+l.length
 | [],_=>rfl
 | c::l,q=>by rw[qL,I1 l];simp[Dd];omega
theorem KL:∀(l:List AL)(q:List AL×σ),(l.foldl (E6 R it) q).1.length=q.1.length+l.length
 | [],_=>rfl
 | c::l,q=>by rw[qL,KL l];simp[E6];omega
theorem N2:∀(l:List AB)(q:List AB×σ),(l.foldl (Eg R it) q).1.length<=q.1.length+l.length
 | [],_=>IO _
 | c :: l, q => by
  rw[qL];have:=N2 l (Eg R it q c);have h2:(Eg R it q c).1.length<=q.1.length+1:=by
   unfold Eg;dsimp only;split<;>simp
  rw[qo];omega
end
section
variable{σ:Type}{R:PT σ}{it:Int->List AB->σ->List AB×σ}{rk:σ->Nat}
structure PT.Up(R:PT σ)(rk:σ->Nat):Prop where
 W:∀id l s,rk s<=rk (R.W id l s).2
 H:∀h s,rk s<=rk (R.H h s).2
 item:∀x s,rk s<=rk (R.item x s).2.2
theorem Ln(U:R.Up rk)(hi:∀id l s,rk s<=rk (it id l s).2)(q:List AF×σ)(c:AF):rk q.2<=rk (Dd R it q c).2:=
 qC (U.H _ _) (hi _ _ _)
theorem KJ(U:R.Up rk)(hi:∀id l s,rk s<=rk (it id l s).2)(l:List AF)(s:σ):rk s<=rk (IF R it l s).2:=JQ (G:=Dd R it) (Ln U hi) l ([],s)
theorem N4(U:R.Up rk)(hi:∀id l s,rk s<=rk (it id l s).2)(q:List AL×σ)(r:AL):rk q.2<=rk (E6 R it q r).2:=
 qC (U.H _ _) (KJ U hi _ _)
theorem Lo(U:R.Up rk)(hi:∀id l s,rk s<=rk (it id l s).2)(l:List AL)(s:σ):rk s<=rk (De R it l s).2:=JQ (G:=E6 R it) (N4 U hi) l ([],s)
theorem QH(U:R.Up rk)(hi:∀id l s,rk s<=rk (it id l s).2)(x:AB)(s:σ):rk s<=rk (F8 R it x s).2:=by
 unfold F8;split;exact hi _ _ _;split;exact Lo U hi _ _;exact IO _
theorem PA(U:R.Up rk)(hi:∀id l s,rk s<=rk (it id l s).2)(q:List AB×σ)(x:AB):rk q.2<=rk (Eg R it q x).2:=by
 unfold Eg;dsimp only;split;exact qC (qC (U.item _ _) (U.H _ _)) (QH U hi _ _);exact U.item _ _
theorem N3(U:R.Up rk):∀(N:Nat)(id:Int)(l:List AB)(s:σ),rk s<=rk (Aw R N id l s).2
 | 0,_,_,_=>IO _
 | N+1,id,l,s=>qC (U.W id l s) (JQ (G:=Eg R (Aw R N)) (PA U (N3 U N)) _ ([],_))
end
section
variable{σ:Type}
def gk(pf:Nat->List AB->Prop)(hp:AG->Prop)(N:Nat)(x:AB):Prop:=
 hp x.H/\(x.x=6->pf N x.W)/\(x.x=7->x.R.length<=1048576/\∀r∈x.R,hp r.H/\r.cells.length<=1048576/\∀c∈r.cells,hp c.H/\pf N c.W)
abbrev Sw(st:σ->Nat->Option A9)(s:σ)(H:Hp):Prop:=∀o y,st s o=some y->H o=some y
structure ak(st:σ->Nat->Option A9)(n0:Nat)(gF gH gI:FuncId)(bF bH bI:List SV)(R:PT σ)(pf:Nat->List AB->Prop)(pi:Nat->AB->Prop)(hp:AG->Prop)(rk:σ->Nat)(top:Nat):Prop where
 up:R.Up rk
 lt:∀s o,n0<=o->st s o=none
 dom:∀s s' o,st s o=none->st s' o=none
 cl:∀s o y,st s o=some y->BH n0 y=true
 zero:∀l,¬pf 0 l
 W:∀N id l s H n,pf (N+1) l->rk (R.W id l s).2<=top->n0<=n->Sw st s H->BP prog gF ([AA id,AH l]++bF) H n (λv h' n'=>v=AH (R.W id l s).1/\h'=Az st (R.W id l s).2 H/\n'=n)
 H:∀x s H n,hp x->rk (R.H x s).2<=top->n0<=n->Sw st s H->BP prog gH ([x.h]++bH) H n (λv h' n'=>v=(R.H x s).1.h/\h'=Az st (R.H x s).2 H/\n'=n)
 item:∀N x s H n,pi N x->rk (R.item x s).2.2<=top->n0<=n->Sw st s H->BP prog gI ([x.h]++bI) H n (λv h' n'=>v=.tup [(R.item x s).1.h,.bool (R.item x s).2.1]/\h'=Az st (R.item x s).2.2 H/\n'=n)
 flow_ok:∀N id l s,pf (N+1) l->(R.W id l s).1.length<=1048576/\∀x∈(R.W id l s).1,pi N x
 item_ok:∀N x s,pi N x->(R.item x s).2.1=true->gk pf hp N (R.item x s).1
variable{st:σ->Nat->Option A9}{n0:Nat}{gF gH gI:FuncId}{bF bH bI:List SV}{R:PT σ}{pf:Nat->List AB->Prop}{pi:Nat->AB->Prop}{hp:AG->Prop}{rk:σ->Nat}{top:Nat}
theorem ak.clo(C:ak st n0 gF gH gI bF bH bI R pf pi hp rk top):Tm st n0 0 [] [] (λs _=>(⟨[],0,0,[],[]⟩,true,s)) (λ_=>False) where
 lt:=C.lt
 dom:=C.dom
 cl:=C.cl
 call:=λ_ _ _ _ h=>h.elim
theorem Tm.ltU{g:FuncId}{a b:List SV}{f:σ->Ed->AG×Bool×σ}{ok:AG->Prop}{i:σ->Nat}{d:Nat}(C:Tm st n0 g a b f ok i d){B:Hp}{m:Nat}(hn:n0<=m)(hb:∀j y,B j=some y->j<m)(s:σ):∀j y,Az st s B j=some y->j<m:=λj y e=>by
 simp only[Az]at e;cases c:st s j with
 | some z=>
  by_cases h:n0<=j;rw[C.lt s j h]at c;cases c;omega
 | none=>rw[c]at e;exact hb j y e
def itW(gF gH gI:FuncId)(bF bH bI:List SV)(st:σ->Nat->Option A9)(n0:Nat)(it:Int->List AB->σ->List AB×σ)(P:List AB->Prop)(rk:σ->Nat)(top:Nat):Prop:=
 ∀id l s H n,P l->rk (it id l s).2<=top->n0<=n->Sw st s H->BP prog 116 [.agg [.fn (.func gF) [] bF,.fn (.func gH) [] bH,.fn (.func gI) [] bI],AA id,AH l] H n (λv h' n'=>v=AH (it id l s).1/\h'=Az st (it id l s).2 H/\n'=n)
theorem Ig{X h:Hp}{n m k p z:Nat}{es:List SV}{e:SV}{o:Option Nat}{t t2 el:TypeId}(ht:A5 prog t=some el)(g:(A5 prog t2).isSome=true)(w:Bj prog el=z)(i:z≠0)(f:(BU prog el).B=true)(l:(BU prog el).cells.length=z)
 (hb:Cv prog el<=65536) (a:es.length+1<=1073741824) (d:CD n m z o es) (v:e.B=true) (s:e.cells.length=z) (h1:X k=some (.cells e.cells)) (r:∀j y,Ae o es h j=some y->X j=some y) (hh:∀j y,h j=some y->j<n) (b:n<=p) (_hmp:m<=p) (c:Hn el=none:=by rfl):
 ∃out,Ak prog X p .append [t,t2] [AZ z o es,.sl k 0 z 1 true]=some out/\out.val=.sl p 0 z (es.length+1) false/\out.new.isSome=true/\CD n (p+1) z (some p) (es++[e])/\(∀j y,Ae (some p) (es++[e]) h j=some y->Cg.app X p out j=some y)/\(∀j,j≠p->o≠some j->Cg.app X p out j=X j):=by
 refine⟨_,Hf ht g w i f l hb a d s h1 (λj e=>r j _ (GF j e)) p c,rfl,rfl,d.push v s b mq,Hd hh b d λj y e=>r j y (GL hh d j y e),λj h1 h2=>?_⟩;cases o with
 | none=>simp[Cg.app,AD _ _ h1]
 | some q=>
  have u:j≠q:=λe=>h2 (by rw[e]);simp[Cg.app,AD _ _ h1,AD _ _ u]
theorem Tu{X Y:Hp}{p k:Nat}{es:List SV}{a bn:Option A9}(hpk:p≠k)(h:∀j y,Ae (some p) es (h_ X k a) j=some y->Y j=some y):∀j y,Ae (some p) es (h_ X k bn) j=some y->h_ Y k bn j=some y:=λj y e=>by
 have:=h j y;simp only[Ae,h_]at e this ⊢;split at e;rename_i h1;rw[mw mq];rw[my h1]at this;exact this e;rename_i h1;rw[mw h1]at this;split at e;rename_i h2;rw[my h2];exact e;rename_i h2;rw[mw h2];rw[mw h2]at this;exact this e
theorem WM{h' h2:Hp}{k j:Nat}{pre:List SV}{v w:SV}(h1:h2 k=none)(hh:h' k=some (.cells (pre++[v])))(hv:Fz h' h2 (j+1) v w):Fz h' h2 (j+2) (.ptr k 0) (.q (pre++[w])):=by
 refine .inr ⟨h1,_,hh,by simp,?_⟩;rw[vT];have:∀l,AU (Fz h' h2 (j+1)) (l++[v]) (l++[w]):=by
  intro l
  induction l with
  | nil=>exact⟨hv,trivial⟩
  | cons a l ih=>exact⟨Or,ih⟩
 exact this pre
theorem WA{h2 h':Hp}{n m z k:Nat}{o:Option Nat}{es:List SV}(H:CD n m z o es)(c:∀j,n<=j->j<m->h2 j=none)(hh:∀j,o=some j->h' j=some (.cells (es.flatMap SV.cells))):Fz h' h2 (k+1) (AZ z o es) (.y z es false):=by
 cases o with
 | none=>rw[H.none rfl];exact .inr ⟨by simp,.inl rfl,trivial,by simp⟩
 | some j =>
  have b:=hh j rfl;refine .inr ⟨c j (H.lt j rfl).1 (H.lt j rfl).2,by simp,rfl,rfl,_,_,b,by simp[Cb,Bq H.size];rfl,H.size,?_⟩;have:∀l:List SV,AU (Fz h' h2 k) l l:=by
   intro l;induction l with
   | nil=>trivial
   | cons a l ih=>exact⟨Or,ih⟩
  simp only[<-Bq H.size,qp];exact this _
def Yu:Tr:=.pure 0<|.pure 2<|.pure 3<|.pure 4<|.pure 5<|.pure 6<|.pure 7<|.pure 9<|.pure 10<|.pure 11<|.pure 12<|.pure 13 <|
 .two 1 8 (.one 8<|.one 14<|.one 15<|.one 16<|.one 17<|.one 18<|.one 19 .nil)
  (.two 1 14 (.one 14<|.one 15<|.one 16<|.one 17<|.one 18<|.one 19 .nil)
    (.two 1 15 (.one 15<|.one 16<|.one 17<|.one 18<|.one 19 .nil)
      (.two 1 16 (.one 16<|.one 17<|.one 18<|.one 19 .nil) (.one 1<|.one 17<|.one 18<|.one 19 .nil))))
theorem gA(C:ak st n0 gF gH gI bF bH bI R pf pi hp rk top):∀N,itW gF gH gI bF bH bI st n0 (Aw R N) (pf N) rk top
 | 0=>λid l s H n h=>(C.zero l h).elim
 | N + 1 => fun id l s H n hl ht hn hs => by
  have ih:=gA C N;have iu:=N3 C.up N;have K:=C.clo;obtain⟨hfl,hfi⟩:=C.flow_ok N id l s hl;refine FF func116 rfl λho=>?_;have hU:∀s',Hw (Az st s' H) n:=λs'=>K.old s' hn ho;have hUb:∀s' j y,Az st s' H j=some y->j<n:=λs' j y e=>(hU s' j y e).1;have hHb:=ho.lt;obtain⟨L,hL⟩:∃L,L=(R.W id l s).1:=⟨_,rfl⟩
  obtain⟨s1,hs1⟩:∃s1,s1=(R.W id l s).2:=⟨_,rfl⟩
  rw[<-hL]at hfl hfi;obtain⟨Q,hQ⟩:∃Q:Nat->List AB×σ,∀i,Q i=(L.take i).foldl (Eg R (Aw R N)) ([],s1):=⟨_,λ_=>rfl⟩
  have hQ0:Q 0=([],s1):=by rw[hQ];rfl
  have hQs:∀i x,(h:i<L.length)->L[i]=x->Q (i+1)=Eg R (Aw R N) (Q i) x:=λi x h hx=>by rw[hQ,hQ,Ff _ _ _ _ _ h hx]
  have hQl:Q L.length=Aw R (N+1) id l s:=by rw[hQ,qp,hL,hs1];rfl
  have hQn:∀i,(Q i).1.length<=i:=λi=>by rw[hQ];have:=N2 (R:=R) (it:=Aw R N) (L.take i) ([],s1);simp at this;omega
  have hQt:∀i,rk (Q i).2<=top:=λi=>by
   rw[hQ];refine qC (JR (PA C.up iu) _ _ i) ?_;rw[hL,hs1];exact ht
  have ht1:rk s1<=top:=by have:=hQt 0;rwa [hQ0]at this
  clear hQ;refine As 1 [(1,AA id),(2,AH l),(3,.q [.fn (.func gF) [] bF,.fn (.func gH) [] bH,.fn (.func gI) [] bI])] (Az st s H) n ?_ (λm hm=>?_);simp[go_sem,Or,DF s H hs];refine⟨Ap (ho.none (IO n)) (by simp[h_]),λj y e=>by rw[AD _ _ (by have:=(ho j y e).1;omega)];exact e⟩;refine Al 0 [(1,AA id),(2,AH l),(3,.q [.fn (.func gF) [] bF,.fn (.func gH) [] bH,.fn (.func gI) [] bI]),(7,.y 0 [] true)] (Az st s H) m ?_ (λm' hm'=>?_);simp[go_sem,Or];subst hm';refine AV 0 (α:=Option Nat) (λo=>[(7,AZ 11 o ((Q L.length).1.map AB.h))]) (λo=>Ae o ((Q L.length).1.map AB.h) (Az st (Q L.length).2 H)) (λo m=>n<=m/\CD n m 11 o ((Q L.length).1.map AB.h)) ?_ (λo m hm=>?_)
  . refine Al 0 [(3,.q [.fn (.func gF) [] bF,.fn (.func gH) [] bH,.fn (.func gI) [] bI]),(7,.y 0 [] true),(22,AH L),(23,AA L.length),(24,AA 0)] (Az st s1 H) m ?_ (λm' hm'=>?_);have hc:=C.W N id l s (Az st s H) m hl (by rw[<-hs1];exact ht1) mq CV;rw[K.up2,<-hL,<-hs1]at hc;simp[go_sem];refine qM (by simpa using hc) ?_;rintro v H' n' ⟨rfl,rfl,rfl⟩;simp[go_sem,Or];subst hm';refine AP (Aq 0 (α:=Nat×Option Nat) (λq=>[(3,.q [.fn (.func gF) [] bF,.fn (.func gH) [] bH,.fn (.func gI) [] bI]),(7,AZ 11 q.2 ((Q q.1).1.map AB.h)),(22,AH L),(23,AA L.length),(24,AA q.1)])
     (λq=>Ae q.2 ((Q q.1).1.map AB.h) (Az st (Q q.1).2 H)) (λq m=>q.1<=L.length/\n<=m/\CD n m 11 q.2 ((Q q.1).1.map AB.h)) (λq=>L.length-q.1) (0,none) ⟨qj _,hm,by simp only[hQ0];exact wQ _ _ _⟩ ?_ ?_ ?_)
    simp[go_sem,look,AZ,Or];simp only[hQ0];exact AC;clear hm m;rintro⟨i,o⟩ m1 ⟨hi,hm1,hA⟩;dsimp only at hi hm1 hA ⊢;have hEn:((Q i).1.map AB.h).length<=i:=by rw[qf];exact hQn i
    by_cases hlt:i<L.length
    · have w1 := wS i mq
      obtain⟨x,hx⟩:∃x,L[i]=x:=⟨_,rfl⟩
      have hpi:pi N x:=hfi x (hx▸qn hlt);have hst:=hQs i x hlt hx;have htop:=hQt (i+1);generalize hSi:(Q i).2=si at hst;generalize hEi:(Q i).1.map AB.h=E at hA hEn ⊢;have hXb:∀s' j y,Ae o E (Az st s' H) j=some y->j<m1:=λs'=>Gf (hUb s') hm1 hA;refine Al 0 [(3,.q [.fn (.func gF) [] bF,.fn (.func gH) [] bH,.fn (.func gI) [] bI]),(7,AZ 11 o E),(22,AH L),(23,AA L.length),(24,AA i),(25,.bool true)] (Ae o E (Az st si H)) m1 ?_ (λm' hm'=>?_);simp[go_sem,Or,hlt];subst hm';refine Al 0 [(3,.q [.fn (.func gF) [] bF,.fn (.func gH) [] bH,.fn (.func gI) [] bI]),(7,AZ 11 o E),(22,AH L),(23,AA L.length),(24,AA i)] (Ae o E (Az st si H)) m1 ?_ (λm2 hm2=>?_);simp[go_sem,Or];subst hm2;refine AV 0 (α:=Option Nat) (λo=>[(3,.q [.fn (.func gF) [] bF,.fn (.func gH) [] bH,.fn (.func gI) [] bI]),(7,AZ 11 o ((Q (i+1)).1.map AB.h)),(22,AH L),(23,AA L.length),(24,AA i)]) (λo=>Ae o ((Q (i+1)).1.map AB.h) (Az st (Q (i+1)).2 H)) (λo m=>n<=m/\CD n m 11 o ((Q (i+1)).1.map AB.h)) ?_ (λo m hm=>?_)
      . refine AP ?_;refine As 1 [(3,.q [.fn (.func gF) [] bF,.fn (.func gH) [] bH,.fn (.func gI) [] bI]),(7,AZ 11 o E),(22,AH L),(23,AA L.length),(24,AA i),(9,.q [AA x.x,AA x.code,AA x.id,.str x.J,AO x.H.Q,AA x.H.I,AA x.H.move,AX x.H.Y,AN x.H.Z,AH x.W,Au x.R])] (Ae o E (Az st si H)) m1 ?_ (λm2 hm2=>?_);simp[go_sem,Or,hlt,hx,qy,AE];refine⟨Ap (Ai (hXb _) (IO m1)) (AE _ _ _),AW (hXb _) (AW (hXb _) AC)⟩;have hXb2:∀s' j y,Ae o E (Az st s' H) j=some y->j<m2:=λs' j y e=>by have:=hXb s' j y e;omega
        have hci:=C.item N x si (Ae o E (Az st si H)) m2 hpi (by
         rw[hst]at htop;refine qC ?_ htop;unfold Eg;rw[hSi];dsimp only;split;exact qC (C.up.H _ _) (QH C.up iu _ _);exact IO _) mq (K.has hn hA CV)
        have hok:=C.item_ok N x si hpi;rw[K.acc hn hA,K.up2]at hci;have hst':Q (i+1)=if(R.item x si).2.1=true then((Q i).1++[(F8 R (Aw R N) ((R.item x si).1.wHead (R.H (R.item x si).1.H (R.item x si).2.2).1) (R.H (R.item x si).1.H (R.item x si).2.2).2).1],(F8 R (Aw R N) ((R.item x si).1.wHead (R.H (R.item x si).1.H (R.item x si).2.2).1) (R.H (R.item x si).1.H (R.item x si).2.2).2).2)else((Q i).1,(R.item x si).2.2):=by rw[hst,Eg,hSi]
        clear hst hSi;rcases hf:R.item x si with⟨x1,k,s2⟩
        rw[hf]at hci hst' hok;dsimp only at hci hst' hok;refine Bc 0 [(3,.q [.fn (.func gF) [] bF,.fn (.func gH) [] bH,.fn (.func gI) [] bI]),(7,AZ 11 o E),(22,AH L),(23,AA L.length),(24,AA i),(10,.ptr m2 0),(11,.bool k)] (h_ (Ae o E (Az st s2 H)) m2 (some (.cells [AA x1.x,AA x1.code,AA x1.id,.str x1.J,AO x1.H.Q,AA x1.H.I,AA x1.H.move,AX x1.H.Y,AN x1.H.Z,AH x1.W,Au x1.R]))) (λm3=>m2+1=m3) ?_ (λm3 hm3=>?_);rw[qy,qy]at hci;simp[go_sem];refine qM (by simpa using hci) ?_;rintro v H' n' ⟨rfl,rfl,rfl⟩;simp[go_sem,Or,AE,Ad];subst hm3;cases k with
        | false=>
         have hst3:Q (i+1)=((Q i).1,s2):=by simpa using hst'
         simp only[hst3,hEi];refine AK ?_;simp[go_sem,Or];exact⟨o,⟨by omega,hA.mono mq⟩,rfl,AW (hXb2 _) AC⟩
        | true=>
         rw[my rfl]at hst';have hst3:=hst';obtain⟨hk1,hk6,hk7⟩:=hok rfl;rcases hh:R.H x1.H s2 with⟨h3,s3⟩
         rw[hh]at hst3;dsimp only at hst3;obtain⟨y,hy⟩:∃y,y=x1.wHead h3:=⟨_,rfl⟩
         rw[<-hy]at hst3;have hit3:rk (F8 R (Aw R N) y s3).2<=top:=by have:=htop;rwa [hst3]at this
         have ht3:rk s3<=top:=qC (QH C.up iu y s3) hit3;simp only[hst3,qc,hEi,qi,vN];have hB0:∀(s:σ)(z:A9),h_ (Ae o E (Az st s H)) m2 (some z)=Az st s (h_ (Ae o E H) m2 (some z)):=λs z=>by rw[<-K.acc hn hA,K.h_ _ _ mq]
         refine Bc 0 [(3,.q [.fn (.func gF) [] bF,.fn (.func gH) [] bH,.fn (.func gI) [] bI]),(7,AZ 11 o E),(22,AH L),(23,AA L.length),(24,AA i),(10,.ptr m2 0)] (h_ (Ae o E (Az st s2 H)) m2 (some (.cells [AA x1.x,AA x1.code,AA x1.id,.str x1.J,AO x1.H.Q,AA x1.H.I,AA x1.H.move,AX x1.H.Y,AN x1.H.Z,AH x1.W,Au x1.R]))) (λm3=>m2+1=m3) ?_ (λm3 hm3=>?_);simp[go_sem,Or];subst hm3;have hch:=C.H x1.H s2 (h_ (Ae o E (Az st s2 H)) m2 (some (.cells [AA x1.x,AA x1.code,AA x1.id,.str x1.J,AO x1.H.Q,AA x1.H.I,AA x1.H.move,AX x1.H.Y,AN x1.H.Z,AH x1.W,Au x1.R]))) (m2+1) hk1 (by rw[hh];exact ht3) mq (by rw[hB0];exact CV);rw[hh,hB0,K.up2,<-hB0 s2,<-hB0 s3]at hch;dsimp only at hch;refine Bc 0 [(3,.q [.fn (.func gF) [] bF,.fn (.func gH) [] bH,.fn (.func gI) [] bI]),(7,AZ 11 o E),(22,AH L),(23,AA L.length),(24,AA i),(10,.ptr m2 0)] (h_ (Ae o E (Az st s3 H)) m2 (some (.cells [AA y.x,AA y.code,AA y.id,.str y.J,AO y.H.Q,AA y.H.I,AA y.H.move,AX y.H.Y,AN y.H.Z,AH y.W,Au y.R]))) (λm3=>m2+1=m3) ?_ (λm3 hm3=>?_);simp[go_sem,AE];refine qM (by simpa[AG.h,AG.j]using hch) ?_;rintro v H' n' ⟨rfl,rfl,rfl⟩;simp[go_sem,Or,AE,Ad,hy,AB.wHead,AB.x,AB.code,AB.id,AB.J,AB.H,AB.W,AB.R];subst hm3;have hyk:y.x=x1.x/\y.W=x1.W/\y.R=x1.R/\y.id=x1.id:=by rw[hy];cases x1;exact⟨rfl,rfl,rfl,rfl⟩
         obtain⟨y1,y2,y3,y4⟩:=hyk;rw[<-y1,<-y2]at hk6;rw[<-y1,<-y3]at hk7;clear hch hh hst' hf hci hok;refine CH 1 [(3,.q [.fn (.func gF) [] bF,.fn (.func gH) [] bH,.fn (.func gI) [] bI]),(7,AZ 11 o E),(22,AH L),(23,AA L.length),(24,AA i),(10,.q [AA (F8 R (Aw R N) y s3).1.x,AA (F8 R (Aw R N) y s3).1.code,AA (F8 R (Aw R N) y s3).1.id,.str (F8 R (Aw R N) y s3).1.J,AO (F8 R (Aw R N) y s3).1.H.Q,AA (F8 R (Aw R N) y s3).1.H.I,AA (F8 R (Aw R N) y s3).1.H.move,AX (F8 R (Aw R N) y s3).1.H.Y,AN (F8 R (Aw R N) y s3).1.H.Z,AH (F8 R (Aw R N) y s3).1.W,Au (F8 R (Aw R N) y s3).1.R])] (Ae o E (Az st (F8 R (Aw R N) y s3).2 H)) (λm3=>m2+1<=m3) ?_ (λm3 hm3=>?_)
         . refine Bc 0 [(3,.q [.fn (.func gF) [] bF,.fn (.func gH) [] bH,.fn (.func gI) [] bI]),(7,AZ 11 o E),(22,AH L),(23,AA L.length),(24,AA i),(10,.ptr m2 0),(44,AA y.x)] (h_ (Ae o E (Az st s3 H)) m2 (some (.cells [AA y.x,AA y.code,AA y.id,.str y.J,AO y.H.Q,AA y.H.I,AA y.H.move,AX y.H.Y,AN y.H.Z,AH y.W,Au y.R]))) (λm3=>m2+1=m3) ?_ (λm3 hm3=>?_);simp[go_sem,Or,AE];subst hm3;by_cases h6:y.x=6;have hw:F8 R (Aw R N) y s3=(y.wFlow (Aw R N y.id y.W s3).1,(Aw R N y.id y.W s3).2):=by unfold F8;rw[my h6]
           rw[hw]at hit3 ⊢;dsimp only at hit3 ⊢;have hcf:=ih y.id y.W s3 (h_ (Ae o E (Az st s3 H)) m2 (some (.cells [AA y.x,AA y.code,AA y.id,.str y.J,AO y.H.Q,AA y.H.I,AA y.H.move,AX y.H.Y,AN y.H.Z,AH y.W,Au y.R]))) (m2+1) (hk6 h6) hit3 mq (by rw[hB0];exact CV);rw[hB0,K.up2,<-hB0 s3,<-hB0 (Aw R N y.id y.W s3).2]at hcf;refine AK ?_;simp[go_sem,h6,AE];refine qM (by simpa[h6]using hcf) ?_;rintro v H' n' ⟨rfl,rfl,rfl⟩;simp[go_sem,Or,AE,Ad];refine⟨Ap (Ai (hXb2 _) (IO m2)) ?_,AW (hXb2 _) AC⟩;rw[AE];cases y;simp[AB.wFlow,AB.x,AB.code,AB.id,AB.J,AB.H,AB.W,AB.R]at h6 ⊢;exact h6.symm
           . by_cases h7:y.x=7
             . have hw:F8 R (Aw R N) y s3=(y.wRows (De R (Aw R N) y.R s3).1,(De R (Aw R N) y.R s3).2):=by unfold F8;rw[mw h6,my h7]
               obtain⟨hr1,hr2⟩:=hk7 h7;rw[hw]at hit3 ⊢;dsimp only at hit3 ⊢;obtain⟨B,hB⟩:∃B:Hp,B=h_ (Ae o E H) m2 (some (.cells [AA y.x,AA y.code,AA y.id,.str y.J,AO y.H.Q,AA y.H.I,AA y.H.move,AX y.H.Y,AN y.H.Z,AH y.W,Au y.R])):=⟨_,rfl⟩
               have hBs:∀s,h_ (Ae o E (Az st s H)) m2 (some (.cells [AA y.x,AA y.code,AA y.id,.str y.J,AO y.H.Q,AA y.H.I,AA y.H.move,AX y.H.Y,AN y.H.Z,AH y.W,Au y.R]))=Az st s B:=λs=>by rw[hB0,hB]
               have hBb:∀s' j z,Az st s' B j=some z->j<m2+1:=λs'=>K.ltU mq (λj z e=>by
                rw[hB]at e;by_cases e1:j=m2;omega;rw[AD _ _ e1]at e;have:=Gf hHb hm1 hA j z e;omega) s'
               rw[hBs];obtain⟨Rr,hRr⟩:∃Rr:Nat->List AL×σ,∀i,Rr i=(y.R.take i).foldl (E6 R (Aw R N)) ([],s3):=⟨_,λ_=>rfl⟩
               have hRr0:Rr 0=([],s3):=by rw[hRr];rfl
               have hRrs:∀i r,(h:i<y.R.length)->y.R[i]=r->Rr (i+1)=E6 R (Aw R N) (Rr i) r:=λi x h hx=>by rw[hRr,hRr,Ff _ _ _ _ _ h hx]
               have hRrl:Rr y.R.length=De R (Aw R N) y.R s3:=by rw[hRr,qp];rfl
               have hRrn:∀i,(Rr i).1.length<=i:=λi=>by rw[hRr];have:=KL (R:=R) (it:=Aw R N) (y.R.take i) ([],s3);simp at this;omega
               have hRrt:∀i,rk (Rr i).2<=top:=λi=>by rw[hRr];exact qC (JR (N4 C.up iu) _ _ i) hit3
               clear hRr;refine AP ?_;refine Bc 0 [(3,.q [.fn (.func gF) [] bF,.fn (.func gH) [] bH,.fn (.func gI) [] bI]),(7,AZ 11 o E),(22,AH L),(23,AA L.length),(24,AA i),(10,.ptr m2 0),(44,AA y.x),(45,.bool false)] (Az st s3 B) (λm3=>m2+1=m3) ?_ (λm3 hm3=>?_);simp[go_sem,Or,show(y.x==6)=false by simpa using h6];subst hm3;refine BD (b:=false) ms ?_;rw[mw mr];refine Bc 0 [(3,.q [.fn (.func gF) [] bF,.fn (.func gH) [] bH,.fn (.func gI) [] bI]),(7,AZ 11 o E),(22,AH L),(23,AA L.length),(24,AA i),(10,.ptr m2 0),(54,.bool true)] (Az st s3 B) (λm3=>m2+1=m3) ?_ (λm3 hm3=>?_);simp[go_sem,Or,h7];subst hm3;refine BD (b:=true) ms ?_;rw[my rfl];refine Bc 0 [(3,.q [.fn (.func gF) [] bF,.fn (.func gH) [] bH,.fn (.func gI) [] bI]),(7,AZ 11 o E),(22,AH L),(23,AA L.length),(24,AA i),(10,.ptr m2 0),(12,.y 0 [] true)] (Az st s3 B) (λm3=>m2+1=m3) ?_ (λm3 hm3=>?_);simp[go_sem,Or];subst hm3;refine CH 1 [(3,.q [.fn (.func gF) [] bF,.fn (.func gH) [] bH,.fn (.func gI) [] bI]),(7,AZ 11 o E),(22,AH L),(23,AA L.length),(24,AA i),(10,.ptr m2 0),(12,Au (Rr y.R.length).1)] (Az st (Rr y.R.length).2 B) (λm3=>m2+1<=m3) ?_ (λm3 hm3=>?_)
               . refine Bc 0 [(3,.q [.fn (.func gF) [] bF,.fn (.func gH) [] bH,.fn (.func gI) [] bI]),(7,AZ 11 o E),(22,AH L),(23,AA L.length),(24,AA i),(10,.ptr m2 0),(12,.y 0 [] true),(57,Au y.R),(58,AA y.R.length),(59,AA 0)] (Az st s3 B) (λm3=>m2+1=m3) ?_ (λm3 hm3=>?_);rw[<-hBs];simp[go_sem,Or,AE];subst hm3;refine AP (Aq 0 (α:=Nat×Option Nat) (λq=>[(3,.q [.fn (.func gF) [] bF,.fn (.func gH) [] bH,.fn (.func gI) [] bI]),(7,AZ 11 o E),(22,AH L),(23,AA L.length),(24,AA i),(10,.ptr m2 0),(12,AZ 6 q.2 ((Rr q.1).1.map AL.h)),(57,Au y.R),(58,AA y.R.length),(59,AA q.1)])
                  (λq=>Ae q.2 ((Rr q.1).1.map AL.h) (Az st (Rr q.1).2 B)) (λq m=>q.1<=y.R.length/\m2+1<=m/\CD (m2+1) m 6 q.2 ((Rr q.1).1.map AL.h)) (λq=>y.R.length-q.1) (0,none) ⟨qj _,IO _,by simp only[hRr0];exact wQ _ _ _⟩ ?_ ?_ ?_)
                 simp[go_sem,look,AZ,Or];simp only[hRr0];exact AC;rintro⟨a,o2⟩ m3 ⟨ha,hm3,hA2⟩;dsimp only at ha hm3 hA2 ⊢;have hGn:((Rr a).1.map AL.h).length<=a:=by rw[qf];exact hRrn a
                 by_cases halt:a<y.R.length
                 · have w2 := wS a mq
                   obtain⟨r,hr⟩:∃r,y.R[a]=r:=⟨_,rfl⟩
                   obtain⟨g1,g2,g3⟩:=hr2 r (hr▸qn halt);have hrst:=hRrs a r halt hr;have hrtop:=hRrt (a+1);generalize hSr:(Rr a).2=sr at hrst;generalize hGi:(Rr a).1.map AL.h=G at hA2 hGn ⊢;have hGb:∀s' j z,Ae o2 G (Az st s' B) j=some z->j<m3:=λs'=>Gf (hBb s') hm3 hA2;refine Al 0 [(3,.q [.fn (.func gF) [] bF,.fn (.func gH) [] bH,.fn (.func gI) [] bI]),(7,AZ 11 o E),(22,AH L),(23,AA L.length),(24,AA i),(10,.ptr m2 0),(12,AZ 6 o2 G),(57,Au y.R),(58,AA y.R.length),(59,AA a),(60,.bool true)] (Ae o2 G (Az st sr B)) m3 ?_ (λm' hm'=>?_);simp[go_sem,Or,halt];subst hm';refine Al 0 [(3,.q [.fn (.func gF) [] bF,.fn (.func gH) [] bH,.fn (.func gI) [] bI]),(7,AZ 11 o E),(22,AH L),(23,AA L.length),(24,AA i),(10,.ptr m2 0),(12,AZ 6 o2 G),(57,Au y.R),(58,AA y.R.length),(59,AA a)] (Ae o2 G (Az st sr B)) m3 ?_ (λm' hm'=>?_);simp[go_sem,Or];subst hm';refine AV 0 (α:=Option Nat) (λo2=>[(3,.q [.fn (.func gF) [] bF,.fn (.func gH) [] bH,.fn (.func gI) [] bI]),(7,AZ 11 o E),(22,AH L),(23,AA L.length),(24,AA i),(10,.ptr m2 0),(12,AZ 6 o2 ((Rr (a+1)).1.map AL.h)),(57,Au y.R),(58,AA y.R.length),(59,AA a)]) (λo2=>Ae o2 ((Rr (a+1)).1.map AL.h) (Az st (Rr (a+1)).2 B)) (λo2 m=>m2+1<=m/\CD (m2+1) m 6 o2 ((Rr (a+1)).1.map AL.h)) ?_ (λo2 m hm=>?_)
                   . refine AP ?_;refine As 1 [(3,.q [.fn (.func gF) [] bF,.fn (.func gH) [] bH,.fn (.func gI) [] bI]),(7,AZ 11 o E),(22,AH L),(23,AA L.length),(24,AA i),(10,.ptr m2 0),(12,AZ 6 o2 G),(57,Au y.R),(58,AA y.R.length),(59,AA a),(14,.q (r.H.j++[BS r.cells]))] (Ae o2 G (Az st sr B)) m3 ?_ (λm4 hm4=>?_);simp[go_sem,Or,halt,hr,qR,AG.j,AE];refine⟨Ap (Ai (hGb _) (IO m3)) (AE _ _ _),AW (hGb _) (AW (hGb _) AC)⟩;have hGb2:∀s' j z,Ae o2 G (Az st s' B) j=some z->j<m4:=λs' j z e=>by have:=hGb s' j z e;omega
                     rw[E6,hSr]at hrst;rcases hh:R.H r.H sr with⟨h4,sr1⟩
                     rw[hh]at hrst;dsimp only at hrst;rw[hrst]at hrtop;dsimp only at hrtop;have hct1:rk sr1<=top:=qC (KJ C.up iu r.cells sr1) hrtop;have hch:=C.H r.H sr (Ae o2 G (Az st sr B)) m4 g1 (by rw[hh];exact hct1) mq (K.has mq hA2 CV);rw[hh,K.acc mq hA2,K.up2]at hch;dsimp only at hch;refine Bc 0 [(3,.q [.fn (.func gF) [] bF,.fn (.func gH) [] bH,.fn (.func gI) [] bI]),(7,AZ 11 o E),(22,AH L),(23,AA L.length),(24,AA i),(10,.ptr m2 0),(12,AZ 6 o2 G),(57,Au y.R),(58,AA y.R.length),(59,AA a),(14,.q (r.H.j++[BS r.cells])),(15,.ptr m4 0)] (h_ (Ae o2 G (Az st sr1 B)) m4 (some (.cells (h4.j++[.y 0 [] true])))) (λm5=>m4+1=m5) ?_ (λm5 hm5=>?_);simp[go_sem,AG.j];refine qM (by simpa[AG.h,AG.j]using hch) ?_;rintro v H' n' ⟨rfl,rfl,rfl⟩;simp[go_sem,Or,AE,Ad];subst hm5;clear hch hh;obtain⟨B1,hB1⟩:∃B1:Hp,B1=Ae o2 G B:=⟨_,rfl⟩
                     have hB1s:∀s,Ae o2 G (Az st s B)=Az st s B1:=λs=>by rw[hB1,K.acc mq hA2]
                     have hB1b:∀s' j z,Az st s' B1 j=some z->j<m4:=λs' j z e=>hGb2 s' j z (by rw[hB1s];exact e);obtain⟨Rc,hRc⟩:∃Rc:Nat->List AF×σ,∀i,Rc i=(r.cells.take i).foldl (Dd R (Aw R N)) ([],sr1):=⟨_,λ_=>rfl⟩
                     have hRc0:Rc 0=([],sr1):=by rw[hRc];rfl
                     have hRcs:∀i c,(h:i<r.cells.length)->r.cells[i]=c->Rc (i+1)=Dd R (Aw R N) (Rc i) c:=λi x h hx=>by rw[hRc,hRc,Ff _ _ _ _ _ h hx]
                     have hRcl:Rc r.cells.length=IF R (Aw R N) r.cells sr1:=by rw[hRc,qp];rfl
                     have hRcn:∀i,(Rc i).1.length<=i:=λi=>by rw[hRc];have:=I1 (R:=R) (it:=Aw R N) (r.cells.take i) ([],sr1);simp at this;omega
                     have hRct:∀i,rk (Rc i).2<=top:=λi=>by rw[hRc];exact qC (JR (Ln C.up iu) _ _ i) hrtop
                     clear hRc;rw[<-hRcl]at hrst;refine CH 3 [(3,.q [.fn (.func gF) [] bF,.fn (.func gH) [] bH,.fn (.func gI) [] bI]),(7,AZ 11 o E),(22,AH L),(23,AA L.length),(24,AA i),(10,.ptr m2 0),(12,AZ 6 o2 G),(57,Au y.R),(58,AA y.R.length),(59,AA a),(15,.q (h4.j++[BS (Rc r.cells.length).1]))] (Ae o2 G (Az st (Rc r.cells.length).2 B)) (λm5=>m4+1<=m5) ?_ (λm5 hm5=>?_);refine Bc 0 [(3,.q [.fn (.func gF) [] bF,.fn (.func gH) [] bH,.fn (.func gI) [] bI]),(7,AZ 11 o E),(22,AH L),(23,AA L.length),(24,AA i),(10,.ptr m2 0),(12,AZ 6 o2 G),(57,Au y.R),(58,AA y.R.length),(59,AA a),(15,.ptr m4 0),(70,BS r.cells),(71,AA r.cells.length),(72,AA 0)] (h_ (Ae o2 G (Az st sr1 B)) m4 (some (.cells (h4.j++[.y 0 [] true])))) (λm5=>m4+1=m5) ?_ (λm5 hm5=>?_);simp[go_sem,Or,AG.j];subst hm5;rw[hB1s];refine AP (Aq 0 (α:=Nat×Option Nat) (λq=>[(3,.q [.fn (.func gF) [] bF,.fn (.func gH) [] bH,.fn (.func gI) [] bI]),(7,AZ 11 o E),(22,AH L),(23,AA L.length),(24,AA i),(10,.ptr m2 0),(12,AZ 6 o2 G),(57,Au y.R),(58,AA y.R.length),(59,AA a),(15,.ptr m4 0),(70,BS r.cells),(71,AA r.cells.length),(72,AA q.1)])
                      (λq=>Ae q.2 ((Rc q.1).1.map AF.h) (h_ (Az st (Rc q.1).2 B1) m4 (some (.cells (h4.j++[AZ 7 q.2 ((Rc q.1).1.map AF.h)]))))) (λq m=>q.1<=r.cells.length/\m4+1<=m/\CD (m4+1) m 7 q.2 ((Rc q.1).1.map AF.h)) (λq=>r.cells.length-q.1) (0,none) ⟨qj _,IO _,by simp only[hRc0];exact wQ _ _ _⟩ ?_ ?_ ?_)
                     simp[go_sem,look,Or];simp only[hRc0,hB1s];exact AC;rintro⟨b,o3⟩ m5 ⟨hb,hm5,hA3⟩;dsimp only at hb hm5 hA3 ⊢;have hDn:((Rc b).1.map AF.h).length<=b:=by rw[qf];exact hRcn b
                     by_cases hblt:b<r.cells.length;have w3:=wS b mq;obtain⟨c,hc⟩:∃c,r.cells[b]=c:=⟨_,rfl⟩
                     obtain⟨c1,c2⟩:=g3 c (hc▸qn hblt);have hcst:=hRcs b c hblt hc;have hctop:=hRct (b+1);generalize hSc:(Rc b).2=sc at hcst;generalize hCi:(Rc b).1.map AF.h=D at hA3 hDn ⊢;have hYb:∀s' z,∀j w,h_ (Az st s' B1) m4 z j=some w->j<m4+1:=λs' z j w e=>by
                      by_cases e1:j=m4;omega;rw[AD _ _ e1]at e;have:=hB1b s' j w e;omega
                     have hZb:∀s' z,∀j w,Ae o3 D (h_ (Az st s' B1) m4 z) j=some w->j<m5:=λs' z=>Gf (hYb s' z) hm5 hA3;refine Al 0 [(3,.q [.fn (.func gF) [] bF,.fn (.func gH) [] bH,.fn (.func gI) [] bI]),(7,AZ 11 o E),(22,AH L),(23,AA L.length),(24,AA i),(10,.ptr m2 0),(12,AZ 6 o2 G),(57,Au y.R),(58,AA y.R.length),(59,AA a),(15,.ptr m4 0),(70,BS r.cells),(71,AA r.cells.length),(72,AA b),(73,.bool true)] (Ae o3 D (h_ (Az st sc B1) m4 (some (.cells (h4.j++[AZ 7 o3 D]))))) m5 ?_ (λm' hm'=>?_);simp[go_sem,Or,hblt];subst hm';refine Al 0 [(3,.q [.fn (.func gF) [] bF,.fn (.func gH) [] bH,.fn (.func gI) [] bI]),(7,AZ 11 o E),(22,AH L),(23,AA L.length),(24,AA i),(10,.ptr m2 0),(12,AZ 6 o2 G),(57,Au y.R),(58,AA y.R.length),(59,AA a),(15,.ptr m4 0),(70,BS r.cells),(71,AA r.cells.length),(72,AA b)] (Ae o3 D (h_ (Az st sc B1) m4 (some (.cells (h4.j++[AZ 7 o3 D]))))) m5 ?_ (λm' hm'=>?_);simp[go_sem,Or];subst hm';refine AV 0 (α:=Option Nat) (λ_=>[(3,.q [.fn (.func gF) [] bF,.fn (.func gH) [] bH,.fn (.func gI) [] bI]),(7,AZ 11 o E),(22,AH L),(23,AA L.length),(24,AA i),(10,.ptr m2 0),(12,AZ 6 o2 G),(57,Au y.R),(58,AA y.R.length),(59,AA a),(15,.ptr m4 0),(70,BS r.cells),(71,AA r.cells.length),(72,AA b)]) (λo3=>Ae o3 ((Rc (b+1)).1.map AF.h) (h_ (Az st (Rc (b+1)).2 B1) m4 (some (.cells (h4.j++[AZ 7 o3 ((Rc (b+1)).1.map AF.h)]))))) (λo3 m=>m4+1<=m/\CD (m4+1) m 7 o3 ((Rc (b+1)).1.map AF.h)) ?_ (λo3 m hm=>?_);refine AP ?_;refine As 1 [(3,.q [.fn (.func gF) [] bF,.fn (.func gH) [] bH,.fn (.func gI) [] bI]),(7,AZ 11 o E),(22,AH L),(23,AA L.length),(24,AA i),(10,.ptr m2 0),(12,AZ 6 o2 G),(57,Au y.R),(58,AA y.R.length),(59,AA a),(15,.ptr m4 0),(70,BS r.cells),(71,AA r.cells.length),(72,AA b),(17,.q ([AA c.id]++c.H.j++[AH c.W]))] (Ae o3 D (h_ (Az st sc B1) m4 (some (.cells (h4.j++[AZ 7 o3 D]))))) m5 ?_ (λm6 hm6=>?_);simp[go_sem,Or,hblt,hc,vD,AG.j,AE];refine⟨Ap (Ai (hZb _ _) (IO m5)) (AE _ _ _),AW (hZb _ _) (AW (hZb _ _) AC)⟩;rw[Dd,hSc]at hcst;rcases hh:R.H c.H sc with⟨h5,sc1⟩
                     rw[hh]at hcst;dsimp only at hcst;rcases hi5:Aw R N c.id c.W sc1 with⟨q5,sc2⟩
                     rw[hi5]at hcst;dsimp only at hcst;rw[hcst]at hctop;dsimp only at hctop;have hct1:rk sc1<=top:=by have:=iu c.id c.W sc1;rw[hi5]at this;exact qC this hctop
                     obtain⟨B2,hB2⟩:∃B2:Hp,B2=Ae o3 D (h_ B1 m4 (some (.cells (h4.j++[AZ 7 o3 D])))):=⟨_,rfl⟩
                     have hB2s:∀s,Ae o3 D (h_ (Az st s B1) m4 (some (.cells (h4.j++[AZ 7 o3 D]))))=Az st s B2:=λs=>by rw[hB2,K.h_ _ _ mq,<-K.acc mq hA3]
                     have hch:=C.H c.H sc (Az st sc B2) m6 c1 (by rw[hh];exact hct1) mq CV;rw[hh,K.up2]at hch;dsimp only at hch;have hcf:=ih c.id c.W sc1 (Az st sc1 B2) m6 c2 (by rw[hi5];exact hctop) mq CV;rw[hi5,K.up2]at hcf;dsimp only at hcf;have hk4:∀s,Az st s B2 m4=some (.cells (h4.j++[AZ 7 o3 D])):=λs=>by
                      rw[<-hB2s];cases o3 with
                      | none=>exact AE _ _ _
                      | some j=>have:=(hA3.lt j rfl).1;simp only[Ae];rw[AD _ _ mq,AE]
                     have hk5:∀s j,o3=some j->Az st s B2 j=some (.cells (D.flatMap SV.cells)):=λs j e=>by rw[<-hB2s];exact GF j e
                     have h46:m4≠m6:=by omega
                     have h47:m4≠m6+1:=by omega
                     rw[hB2s];rw[hcst];simp only[qc,hCi,qi,vN];obtain⟨out,ho1,ho2,ho3,ho4,ho5,ho6⟩:=Ig (X:=h_ (Az st sc2 B2) m6 (some (.cells (AF.mk c.id h5 q5).h.cells))) (h:=h_ (Az st sc2 B1) m4 (some (.cells (h4.j++[AZ 7 o3 D])))) (k:=m6) (p:=m6+1) (t:=169) (t2:=169) (el:=173) (z:=7) (e:=(AF.mk c.id h5 q5).h) ms ms ms mr ms ms ms mq hA3 (AF.E.st _) (AF.E.len _) (AE _ _ _)
                      (λj w e=>by
                        have:=hZb sc2 _ j w e;rw[AD _ _ mq,<-hB2s];exact e) (hYb _ _) mq mq
                     have hkA:Cg.app (h_ (Az st sc2 B2) m6 (some (.cells (AF.mk c.id h5 q5).h.cells))) (m6+1) out m4=some (.cells (h4.j++[AZ 7 o3 D])):=by
                      rw[ho6 m4 h47 (λe=>by have:=(hA3.lt m4 e).1;omega),AD _ _ h46,hk4]
                     have fin:=Tu (bn:=some (.cells (h4.j++[AZ 7 (some (m6+1)) (D++[(AF.mk c.id h5 q5).h])]))) (show m6+1≠m4 by omega) ho5;have hce:(AF.mk c.id h5 q5).h.cells=[AA c.id,AO h5.Q,AA h5.I,AA h5.move,AX h5.Y,AN h5.Z,AH q5]:=by rw[vD];rfl
                     have hvv:AZ 7 (some (m6+1)) (D++[(AF.mk c.id h5 q5).h])=.sl (m6+1) 0 7 (D.length+1) false:=by simp[AZ]
                     rw[hvv]at fin;simp only[Cg.app,hce,AG.j,qB,qI]at hkA fin ho1;refine CN Yu rfl mu mu ?_;simp[go_sem,Yu,hk4,AG.j];refine⟨?_,?_⟩;refine qM (by simpa[AG.h,AG.j]using hch) ?_;rintro v H' n' ⟨rfl,rfl,rfl⟩;simp[go_sem];refine qM hcf ?_;rintro v H' n' ⟨rfl,rfl,rfl⟩;simp[go_sem];rw[ho1];simp[go_sem,hkA,ho2,ho3];exact⟨some (n'+1),⟨by omega,ho4⟩,by rw[hvv];exact fin⟩;refine qM (by simpa[AG.h,AG.j]using hch) ?_;rintro v H' n' ⟨rfl,rfl,rfl⟩;have h46':=Ne.symm h46;simp[go_sem,AG.j,hk4];refine⟨?_,?_⟩;refine qM hcf ?_;rintro v H' n' ⟨rfl,rfl,rfl⟩;simp[go_sem];rw[ho1];simp[go_sem,hkA,ho2,ho3];exact⟨some (n'+1),⟨by omega,ho4⟩,by rw[hvv];exact fin⟩;refine qM hcf ?_;rintro v H' n' ⟨rfl,rfl,rfl⟩;simp[go_sem,AG.j,hk4,AD _ _ h46];rw[ho1];simp[go_sem,hkA,ho2,ho3];exact⟨some (n'+1),⟨by omega,ho4⟩,by rw[hvv];exact fin⟩;refine AK ?_;simp[go_sem,w3,Or,-Int.natCast_add];exact⟨b+1,by omega,o3,⟨by omega,hm.1,hm.2⟩,rfl,AC⟩;have hbe:b=r.cells.length:=by omega
                     subst hbe;refine AK ?_;simp[go_sem,Or];have hYb:∀s' z,∀j w,h_ (Az st s' B1) m4 z j=some w->j<m4+1:=λs' z j w e=>by
                      by_cases e1:j=m4;omega;rw[AD _ _ e1]at e;have:=hB1b s' j w e;omega
                     refine⟨by omega,WM (Ai (hB1b _) (IO _)) ?_ (WA hA3 (λj h1 h2=>Ai (hB1b _) mq) λj e=>GF j e),λj w e=>?_⟩;cases o3 with
                     | none=>exact AE _ _ _
                     | some j=>have:=(hA3.lt j rfl).1;simp only[Ae];rw[AD _ _ mq,AE]
                     refine GL (hYb _ _) hA3 _ _ ?_;rw[AD _ _ (by have:=hB1b _ j w e;omega)];exact e
                     . generalize Rc r.cells.length=rc at hrst ⊢;obtain⟨q2,sr2⟩:=rc;dsimp only at hrst ⊢;rw[hrst];simp only[qc,hGi,qi,vN];refine AK ?_;simp[go_sem,AG.j];have hpush:=hA2.push (j:=m5+1) (m':=m5+1+1) (e:=(AL.mk h4 q2).h) (AL.E.st _) (AL.E.len _) mq mq;rw[Hf (es:=G) (e:=(AL.mk h4 q2).h) (o:=o2) (t:=78) (t2:=78) (el:=171) (z:=6) ms ms ms mr ms ms ms mq (hA2.mono mq) (AL.E.len _) ?a1 ?a2]
                       case a1=>simp[AE,qR,SV.cells,AL.H,AL.cells]
                       case a2=>
                        intro j e;have:=(hA2.lt j e).2;rw[AD _ _ mq];exact GF j e
                       have hlive:=Hd (p:=m5+1) (v:=.sl (m5+1) 0 6 (G.length+1) false) (e:=(AL.mk h4 q2).h) (hBb sr2) mq (hA2.mono (m':=m5) mq) (H:=h_ (Ae o2 G (Az st sr2 B)) m5 (some (.cells [AO h4.Q,AA h4.I,AA h4.move,AX h4.Y,AN h4.Z,BS q2]))) (AW (λj z e=>by have:=hBb sr2 j z e;omega) (GL (hBb sr2) hA2));have hvv:AZ 6 (some (m5+1)) (G++[(AL.mk h4 q2).h])=.sl (m5+1) 0 6 (G.length+1) false:=by simp[AZ]
                       simp[go_sem];exact⟨some (m5+1),⟨by omega,hpush⟩,hvv.symm,by simpa[Cg.app,SV.cells,qR,AL.H,AL.cells]using hlive⟩
                   refine AK ?_;simp[go_sem,w2,Or,-Int.natCast_add];exact⟨a+1,by omega,o2,⟨by omega,hm.1,hm.2⟩,⟨rfl,rfl⟩,AC⟩
                 have hae:a=y.R.length:=by omega
                 subst hae;refine AK ?_;simp[go_sem,Or];exact⟨by omega,AZ.fz' (λj hj=>Ai (hBb _) hj) hA2 AC,GL (hBb _) hA2⟩
               rw[hRrl]at *;rw[<-hBs];refine AK ?_;simp[go_sem,Or,AE,Ad];refine⟨by omega,Ap (Ai (hXb2 _) (IO m2)) ?_,AW (hXb2 _) AC⟩;rw[AE];cases y;simp[AB.wRows,AB.x,AB.code,AB.id,AB.J,AB.H,AB.W,AB.R]
             have hw:F8 R (Aw R N) y s3=(y,s3):=by unfold F8;rw[mw h6,mw h7]
             rw[hw];refine AK ?_;simp[go_sem,h6,h7];exact⟨Ap (Ai (hXb2 _) (IO m2)) (AE _ _ _),AW (hXb2 _) AC⟩
         . generalize F8 R (Aw R N) y s3=r2 at hit3 hst3 ⊢;obtain⟨z,s4⟩:=r2;dsimp only at hit3 hst3 ⊢;refine AK ?_;simp[go_sem];have hpush:=hA.push (j:=m3+1) (m':=m3+1+1) (e:=z.h) (AB.E.st _) (AB.E.len _) mq mq;rw[Hf (es:=E) (e:=z.h) (o:=o) (t:=22) (t2:=22) (el:=80) (z:=11) ms ms ms mr ms ms ms mq (hA.mono mq) (AB.E.len _) ?a1 ?a2]
           case a1=>simp[AE,qy,SV.cells]
           case a2=>
            intro j e;have:=(hA.lt j e).2;rw[AD _ _ mq];exact GF j e
           have hlive:=Hd (p:=m3+1) (v:=.sl (m3+1) 0 11 (E.length+1) false) (e:=z.h) (hUb s4) mq (hA.mono (m':=m3) mq) (H:=h_ (Ae o E (Az st s4 H)) m3 (some (.cells [AA z.x,AA z.code,AA z.id,.str z.J,AO z.H.Q,AA z.H.I,AA z.H.move,AX z.H.Y,AN z.H.Z,AH z.W,Au z.R]))) (AW (λj z e=>by have:=hUb s4 j z e;omega) (GL (hUb s4) hA));have hvv:AZ 11 (some (m3+1)) (E++[z.h])=.sl (m3+1) 0 11 (E.length+1) false:=by simp[AZ]
           simp[go_sem];exact⟨some (m3+1),⟨by omega,hpush⟩,hvv.symm,by simpa[Cg.app,SV.cells,qy]using hlive⟩
      refine AK ?_;simp[go_sem,w1,Or,-Int.natCast_add];exact⟨i+1,by omega,o,⟨by omega,hm.1,hm.2⟩,⟨rfl,rfl⟩,AC⟩
    have hie:i=L.length:=by omega
    subst hie;refine AK ?_;simp[go_sem];exact⟨o,⟨hm1,hA⟩,rfl,AC⟩
  refine AK ?_;simp[go_sem];rw[hQl]at hm ⊢;exact Re (hU _) hm.2 (λe he=>by obtain⟨x,_,rfl⟩:=qa.1 he;exact AB.cl n x)
end
def DW(L:SV->DA->Prop)(h:Hp)(n:Nat)(v:SV)(h':Hp)(n':Nat):Prop:=
 n<=n'/\∃ob,L v ob/\(AJ ob).Nodup/\(∀k∈AJ ob,n<=k/\k<n')/\∀k y,Bw ob h k=some y->h' k=some y
def NC(f:FuncId)(args:List SV)(L:SV->DA->Prop):Prop:=∀h n,BP prog f args h n (DW L h n)
theorem NC.use{f:FuncId}{args:List SV}{L:SV->DA->Prop}(H:NC f args L){E:BZ}{h:Hp}{n:Nat}{K:SV->Hp->Nat->Prop}(hk:∀v h' n',DW L h n v h' n'->K v h' n'):Ab E prog f args h n K:=qM (H h n) hk
def SL(L:List SV->DA->Prop)(v:SV)(ob:DA):Prop:=∃cs,v=.agg cs/\L cs ob
structure KZ where
 k:Nat
 o:Option Nat
 es:List SV
 ob:DA
theorem NA(es:List SV)(a:List SV):(es++[SV.agg a]).flatMap SV.cells=es.flatMap SV.cells++a:=by simp[SV.cells]
def KY(z n m:Nat)(L:List SV->DA->Prop)(len:Nat)(o:Option Nat)(es:List SV)(ob:DA):Prop:=
 n<=m/\CD n m z o es/\es.length=len/\L (es.flatMap SV.cells) ob/\(AJ ob).Nodup/\(∀k∈AJ ob,n<=k/\k<m)/\∀j,o=some j->j∉AJ ob
theorem lu(l:List AB)(hl:l.length<=1048576)(g:FuncId)(H:∀(i:Nat)(h:i<l.length),NC g [(l[i]).h] (SL λs ob=>D6 l[i] s ob)):NC 155 [AH l,.fn (.func g) [] []] (IN 11 l.length λs ob=>BK l s ob):=by
 intro h n;refine FF func155 rfl λho=>?_;have w:=ho.lt;refine Al 0 [(0,AH l),(1,.fn (.func g) [] [])] h n ?_ (λm hm=>?_);simp[go_sem,Or];subst hm;refine Al 0 [(0,AH l),(1,.fn (.func g) [] []),(5,.y 0 [] true)] h n ?_ (λm hm=>?_);simp[go_sem,Or];subst hm;refine AV 0 (α:=KZ) (λq=>[(5,AZ 11 q.o q.es)]) (λq=>Ae q.o q.es (Bw q.ob h)) (λq m=>KY 11 n m (λs ob=>BK l s ob) l.length q.o q.es q.ob) ?_ (λq m hq=>?_);refine Al 0 [(1,.fn (.func g) [] []),(5,.y 0 [] true),(8,AH l),(9,AA l.length),(10,AA 0)] h n ?_ (λm hm=>?_);simp[go_sem,Or];subst hm;refine AP (Aq 0 (α:=KZ) (λq=>[(1,.fn (.func g) [] []),(5,AZ 11 q.o q.es),(8,AH l),(9,AA l.length),(10,AA q.k)]) (λq=>Ae q.o q.es (Bw q.ob h))
  (λq m=>q.k<=l.length/\KY 11 n m (λs ob=>BK (l.take q.k) s ob) q.k q.o q.es q.ob) (λq=>l.length-q.k) ⟨0,none,[],[]⟩ ?_ ?_ ?_ ?_)
 exact⟨qj _,IO _,wQ _ _ _,rfl,by show BK (l.take 0) _ _;rw[vk,BK];exact⟨rfl,rfl⟩,by simp,by simp,by simp⟩;simp[go_sem,look,AZ,Or];simp only[Ae,Ni];exact AC;rintro⟨i,o,es,ob⟩ m ⟨hi,hm,I,A,r,B,c,C⟩;dsimp only at hi hm I A r B c C ⊢;by_cases K:i<l.length;have w1:=wS i mq;obtain⟨x,hx⟩:∃x,l[i]=x:=⟨_,rfl⟩
 have Z:=H i K;rw[hx]at Z;have O:∀j y,Bw ob h j=some y->j<m:=λj y e=>by
  by_cases f:j∈AJ ob;exact(c j f).2;rw[Ay f]at e;have:=w j y e;omega
 have V:∀j,o=some j->n<=j/\j<m:=λj e=>I.lt j e;have L:∀j y,Ae o es (Bw ob h) j=some y->j<m:=λj y e=>by
  cases o with
  | none=>exact O j y e
  | some q=>
   simp only[Ae]at e;by_cases D:j=q;have:=V q rfl;omega;rw[AD _ _ D]at e;exact O j y e
 refine Al 0 [(1,.fn (.func g) [] []),(5,AZ 11 o es),(8,AH l),(9,AA l.length),(10,AA i),(11,.bool true)] (Ae o es (Bw ob h)) m ?_ (λm' N=>?_);simp[go_sem,Or,K];subst N;refine Al 0 [(1,.fn (.func g) [] []),(5,AZ 11 o es),(8,AH l),(9,AA l.length),(10,AA i)] (Ae o es (Bw ob h)) m ?_ (λm' N=>?_);simp[go_sem,Or];subst N;refine AV 0 (α:=KZ) (λq=>[(1,.fn (.func g) [] []),(5,AZ 11 q.o q.es),(8,AH l),(9,AA l.length),(10,AA i)]) (λq=>Ae q.o q.es (Bw q.ob h)) (λq m=>KY 11 n m (λs ob=>BK (l.take (i+1)) s ob) (i+1) q.o q.es q.ob) (AP ?_) (λq m hq=>?_);refine As 1 [(1,.fn (.func g) [] []),(5,AZ 11 o es),(7,.q x.h.cells),(8,AH l),(9,AA l.length),(10,AA i)] (Ae o es (Bw ob h)) m ?_ (λm1 hm1=>?_);rw[qy];simp[go_sem,Or,K,hx,qy,AE];refine⟨Ap (Ai L (IO m)) (AE _ _ _),AW L (AW L AC)⟩;refine AK ?_;have W:x.h=.agg x.h.cells:=by rw[qy];rfl
 have Y:x.h.cells.length=11:=AB.E.len x;generalize x.h.cells=xc at W Y ⊢;rw[W]at Z;have hxt:List.take 11 xc=xc:=qQ mq;simp[go_sem,Y,hxt];refine NC.use Z ?_;rintro v h1 n1 ⟨hn1,d,⟨s,rfl,Q⟩,S,u,R⟩;have P:=M0 _ _ _ Q;have M:∀j y,Ae o es h j=some y->h_ h1 n1 (some (.cells s)) j=some y:=λj y e=>by
  have f:j<m:=Gf w hm I j y e;rw[AD _ _ mq];refine R j y ?_;have hj1:j∉AJ d:=λg=>by have:=(u j g).1;omega
  rw[Ay hj1];cases o with
  | none=>
   have:j∉AJ ob:=λg=>by have:=(c j g).1;have:=w j y e;omega
   simp only[Ae]at e ⊢;rw[Ay this];exact e
  | some q=>
   simp only[Ae]at e ⊢;by_cases D:j=q;subst D;rw[AE]at e ⊢;exact e;rw[AD _ _ D]at e ⊢;have:j∉AJ ob:=λg=>by have:=(c j g).1;have:=w j y e;omega
   rw[Ay this];exact e
 obtain⟨out,ho1,ho2,ho3,ho4,ho5,ho6⟩:=Ig (X:=h_ h1 n1 (some (.cells s))) (h:=h) (k:=n1) (p:=n1+1) (t:=22) (t2:=22) (el:=80) (z:=11) (e:=.agg s) (es:=es) ms ms ms mr ms ms ms mq I rfl P (AE _ _ _) M w mq mq;have hvv:AZ 11 (some (n1+1)) (es++[.agg s])=.sl (n1+1) 0 11 (es.length+1) false:=by simp[AZ]
 have T:(AJ (ob++d)).Nodup:=by
  rw[AJ,qc,qu];exact⟨B,S,λa ha b hb e=>by have:=(c a ha).2;have:=(u b hb).1;omega⟩
 have F:∀k∈AJ (ob++d),n<=k/\k<n1:=λk hk=>by
  rw[AJ,qc,qd]at hk;rcases hk with hk|hk;have:=c k hk;omega;have:=u k hk;omega
 have fin:∀j y,Ae (some (n1+1)) (es++[.agg s]) (Bw (ob++d) h) j=some y->Cg.app (h_ h1 n1 (some (.cells s))) (n1+1) out j=some y:=λj y e=>by
  by_cases D:j=n1+1;refine ho5 j y ?_;subst D;simp only[Ae,AE]at e ⊢;exact e;simp only[Ae]at e;rw[AD _ _ D]at e;have hjb:j<n1:=by
   by_cases f:j∈AJ (ob++d);exact(F j f).2;rw[Ay f]at e;have:=w j y e;omega
  have U:o≠some j:=λg=>by
   have h3:=V j g;by_cases f:j∈AJ (ob++d);rw[AJ,qc,qd]at f;rcases f with f|f;exact C j g f;have:=(u j f).1;omega;rw[Ay f]at e;have:=w j y e;omega
  rw[ho6 j D U,AD _ _ mq];refine R j y ?_;rw[Ii]at e;by_cases f:j∈AJ d;have J:j∉AJ ob:=λg=>by have:=(c j g).2;have:=(u j f).1;omega
  rw[Ay J]at e;simp only[Bw]at e ⊢;cases G:d.lookup j with
  | none=>exact absurd f (Cf.1 G)
  | some z=>rw[G]at e;exact e
  rw[Ay f];have G:Bw ob h j=some y:=by
   by_cases J:j∈AJ ob;simp only[Bw]at e ⊢;cases G:ob.lookup j with
   | none=>exact absurd J (Cf.1 G)
   | some z=>rw[G]at e;exact e
   rw[Ay J]at e ⊢;rw[Ay f]at e;exact e
  cases o with
  | none=>exact G
  | some q=>
   simp only[Ae];rw[AD _ _ (λg=>U (by rw[g]))];exact G
 simp only[Cg.app]at fin;simp[go_sem,P];rw[ho1];simp[go_sem,ho2,ho3];refine⟨⟨i+1,some (n1+1),es++[.agg s],ob++d⟩,⟨by omega,ho4,by rw[ql,A];rfl,?_,T,λk hk=>by have:=F k hk;omega,λj e=>by cases e;exact λg=>by have:=(F _ g).2;omega⟩,?_,?_⟩;simp only[NA];rw[qb K,hx,HG];exact⟨_,_,_,_,rfl,rfl,r,by rw[BK];exact⟨s,[],d,[],by simp,by simp,Q,by rw[BK];exact⟨rfl,rfl⟩⟩⟩;simp[hvv,Or];exact fin;refine AK ?_;simp[go_sem,w1,Or,-Int.natCast_add];exact⟨⟨i+1,q.o,q.es,q.ob⟩,by simp only;omega,⟨by simp only;omega,hq⟩,⟨rfl,rfl⟩,AC⟩;have hie:i=l.length:=by omega
 subst hie;rw[qp]at r;refine AK ?_;simp[go_sem];exact⟨⟨l.length,o,es,ob⟩,⟨hm,I,A,r,B,c,C⟩,rfl,AC⟩;rcases q with⟨_,o,es,ob⟩
 obtain⟨hm,I,A,r,B,c,C⟩:=hq;dsimp only at hm I A r B c C ⊢;refine AK ?_;simp[go_sem];refine .inl ⟨by omega,?_⟩;cases o with
 | none =>
  have he:=I.none rfl;subst he;have hl0:l=[]:=vb.1 A.symm;subst hl0;exact⟨[],.inl ⟨rfl,⟨0,true,rfl⟩,rfl⟩,by simp,by simp,λk y e=>by
   rw[BK]at r;rw[r.2];exact e⟩
 | some j=>
  have f:=I.lt j rfl;refine⟨(j,.cells (es.flatMap SV.cells))::ob,.inr ⟨j,false,_,ob,by rw[AZ,A],rfl,r⟩,?_,?_,λk y e=>?_⟩;simp only[AJ,qi,qU];exact⟨C j rfl,B⟩;intro k hk;simp only[AJ,qi,qe]at hk;rcases hk with rfl|hk;omega;exact c k hk;simp only[Ae,h_];by_cases D:k=j;subst D;simp[Bw,List.lookup]at e;rw[my rfl,e];have G:(k==j)=false:=by simpa using D
  rw[mw D];simpa[Bw,List.lookup,G]using e
theorem lx(l:List AL)(hl:l.length<=1048576)(g:FuncId)(H:∀(i:Nat)(h:i<l.length),NC g [(l[i]).h] (SL λs ob=>Gc l[i] s ob)):NC 157 [Au l,.fn (.func g) [] []] (IN 6 l.length λs ob=>Bg l s ob):=by
 intro h n;refine FF func157 rfl λho=>?_;have w:=ho.lt;refine Al 0 [(0,Au l),(1,.fn (.func g) [] [])] h n ?_ (λm hm=>?_);simp[go_sem,Or];subst hm;refine Al 0 [(0,Au l),(1,.fn (.func g) [] []),(5,.y 0 [] true)] h n ?_ (λm hm=>?_);simp[go_sem,Or];subst hm;refine AV 0 (α:=KZ) (λq=>[(5,AZ 6 q.o q.es)]) (λq=>Ae q.o q.es (Bw q.ob h)) (λq m=>KY 6 n m (λs ob=>Bg l s ob) l.length q.o q.es q.ob) ?_ (λq m hq=>?_);refine Al 0 [(1,.fn (.func g) [] []),(5,.y 0 [] true),(8,Au l),(9,AA l.length),(10,AA 0)] h n ?_ (λm hm=>?_);simp[go_sem,Or];subst hm;refine AP (Aq 0 (α:=KZ) (λq=>[(1,.fn (.func g) [] []),(5,AZ 6 q.o q.es),(8,Au l),(9,AA l.length),(10,AA q.k)]) (λq=>Ae q.o q.es (Bw q.ob h))
  (λq m=>q.k<=l.length/\KY 6 n m (λs ob=>Bg (l.take q.k) s ob) q.k q.o q.es q.ob) (λq=>l.length-q.k) ⟨0,none,[],[]⟩ ?_ ?_ ?_ ?_)
 exact⟨qj _,IO _,wQ _ _ _,rfl,by show Bg (l.take 0) _ _;rw[vk,Bg];exact⟨rfl,rfl⟩,by simp,by simp,by simp⟩;simp[go_sem,look,AZ,Or];simp only[Ae,Ni];exact AC;rintro⟨i,o,es,ob⟩ m ⟨hi,hm,I,A,r,B,c,C⟩;dsimp only at hi hm I A r B c C ⊢;by_cases K:i<l.length;have w1:=wS i mq;obtain⟨x,hx⟩:∃x,l[i]=x:=⟨_,rfl⟩
 have Z:=H i K;rw[hx]at Z;have O:∀j y,Bw ob h j=some y->j<m:=λj y e=>by
  by_cases f:j∈AJ ob;exact(c j f).2;rw[Ay f]at e;have:=w j y e;omega
 have V:∀j,o=some j->n<=j/\j<m:=λj e=>I.lt j e;have L:∀j y,Ae o es (Bw ob h) j=some y->j<m:=λj y e=>by
  cases o with
  | none=>exact O j y e
  | some q=>
   simp only[Ae]at e;by_cases D:j=q;have:=V q rfl;omega;rw[AD _ _ D]at e;exact O j y e
 refine Al 0 [(1,.fn (.func g) [] []),(5,AZ 6 o es),(8,Au l),(9,AA l.length),(10,AA i),(11,.bool true)] (Ae o es (Bw ob h)) m ?_ (λm' N=>?_);simp[go_sem,Or,K];subst N;refine Al 0 [(1,.fn (.func g) [] []),(5,AZ 6 o es),(8,Au l),(9,AA l.length),(10,AA i)] (Ae o es (Bw ob h)) m ?_ (λm' N=>?_);simp[go_sem,Or];subst N;refine AV 0 (α:=KZ) (λq=>[(1,.fn (.func g) [] []),(5,AZ 6 q.o q.es),(8,Au l),(9,AA l.length),(10,AA i)]) (λq=>Ae q.o q.es (Bw q.ob h)) (λq m=>KY 6 n m (λs ob=>Bg (l.take (i+1)) s ob) (i+1) q.o q.es q.ob) (AP ?_) (λq m hq=>?_);refine As 1 [(1,.fn (.func g) [] []),(5,AZ 6 o es),(7,.q x.h.cells),(8,Au l),(9,AA l.length),(10,AA i)] (Ae o es (Bw ob h)) m ?_ (λm1 hm1=>?_);rw[qR];simp[go_sem,Or,K,hx,qR,AE];refine⟨Ap (Ai L (IO m)) (AE _ _ _),AW L (AW L AC)⟩;refine AK ?_;have W:x.h=.agg x.h.cells:=by rw[qR];rfl
 have Y:x.h.cells.length=6:=AL.E.len x;generalize x.h.cells=xc at W Y ⊢;rw[W]at Z;have hxt:List.take 6 xc=xc:=qQ mq;simp[go_sem,Y,hxt];refine NC.use Z ?_;rintro v h1 n1 ⟨hn1,d,⟨s,rfl,Q⟩,S,u,R⟩;have P:=OZ _ _ _ Q;have M:∀j y,Ae o es h j=some y->h_ h1 n1 (some (.cells s)) j=some y:=λj y e=>by
  have f:j<m:=Gf w hm I j y e;rw[AD _ _ mq];refine R j y ?_;have hj1:j∉AJ d:=λg=>by have:=(u j g).1;omega
  rw[Ay hj1];cases o with
  | none=>
   have:j∉AJ ob:=λg=>by have:=(c j g).1;have:=w j y e;omega
   simp only[Ae]at e ⊢;rw[Ay this];exact e
  | some q=>
   simp only[Ae]at e ⊢;by_cases D:j=q;subst D;rw[AE]at e ⊢;exact e;rw[AD _ _ D]at e ⊢;have:j∉AJ ob:=λg=>by have:=(c j g).1;have:=w j y e;omega
   rw[Ay this];exact e
 obtain⟨out,ho1,ho2,ho3,ho4,ho5,ho6⟩:=Ig (X:=h_ h1 n1 (some (.cells s))) (h:=h) (k:=n1) (p:=n1+1) (t:=78) (t2:=78) (el:=171) (z:=6) (e:=.agg s) (es:=es) ms ms ms mr ms ms ms mq I rfl P (AE _ _ _) M w mq mq;have hvv:AZ 6 (some (n1+1)) (es++[.agg s])=.sl (n1+1) 0 6 (es.length+1) false:=by simp[AZ]
 have T:(AJ (ob++d)).Nodup:=by
  rw[AJ,qc,qu];exact⟨B,S,λa ha b hb e=>by have:=(c a ha).2;have:=(u b hb).1;omega⟩
 have F:∀k∈AJ (ob++d),n<=k/\k<n1:=λk hk=>by
  rw[AJ,qc,qd]at hk;rcases hk with hk|hk;have:=c k hk;omega;have:=u k hk;omega
 have fin:∀j y,Ae (some (n1+1)) (es++[.agg s]) (Bw (ob++d) h) j=some y->Cg.app (h_ h1 n1 (some (.cells s))) (n1+1) out j=some y:=λj y e=>by
  by_cases D:j=n1+1;refine ho5 j y ?_;subst D;simp only[Ae,AE]at e ⊢;exact e;simp only[Ae]at e;rw[AD _ _ D]at e;have hjb:j<n1:=by
   by_cases f:j∈AJ (ob++d);exact(F j f).2;rw[Ay f]at e;have:=w j y e;omega
  have U:o≠some j:=λg=>by
   have h3:=V j g;by_cases f:j∈AJ (ob++d);rw[AJ,qc,qd]at f;rcases f with f|f;exact C j g f;have:=(u j f).1;omega;rw[Ay f]at e;have:=w j y e;omega
  rw[ho6 j D U,AD _ _ mq];refine R j y ?_;rw[Ii]at e;by_cases f:j∈AJ d;have J:j∉AJ ob:=λg=>by have:=(c j g).2;have:=(u j f).1;omega
  rw[Ay J]at e;simp only[Bw]at e ⊢;cases G:d.lookup j with
  | none=>exact absurd f (Cf.1 G)
  | some z=>rw[G]at e;exact e
  rw[Ay f];have G:Bw ob h j=some y:=by
   by_cases J:j∈AJ ob;simp only[Bw]at e ⊢;cases G:ob.lookup j with
   | none=>exact absurd J (Cf.1 G)
   | some z=>rw[G]at e;exact e
   rw[Ay J]at e ⊢;rw[Ay f]at e;exact e
  cases o with
  | none=>exact G
  | some q=>
   simp only[Ae];rw[AD _ _ (λg=>U (by rw[g]))];exact G
 simp only[Cg.app]at fin;simp[go_sem,P];rw[ho1];simp[go_sem,ho2,ho3];refine⟨⟨i+1,some (n1+1),es++[.agg s],ob++d⟩,⟨by omega,ho4,by rw[ql,A];rfl,?_,T,λk hk=>by have:=F k hk;omega,λj e=>by cases e;exact λg=>by have:=(F _ g).2;omega⟩,?_,?_⟩;simp only[NA];rw[qb K,hx,Hy];exact⟨_,_,_,_,rfl,rfl,r,by rw[Bg];exact⟨s,[],d,[],by simp,by simp,Q,by rw[Bg];exact⟨rfl,rfl⟩⟩⟩;simp[hvv,Or];exact fin;refine AK ?_;simp[go_sem,w1,Or,-Int.natCast_add];exact⟨⟨i+1,q.o,q.es,q.ob⟩,by simp only;omega,⟨by simp only;omega,hq⟩,⟨rfl,rfl⟩,AC⟩;have hie:i=l.length:=by omega
 subst hie;rw[qp]at r;refine AK ?_;simp[go_sem];exact⟨⟨l.length,o,es,ob⟩,⟨hm,I,A,r,B,c,C⟩,rfl,AC⟩;rcases q with⟨_,o,es,ob⟩
 obtain⟨hm,I,A,r,B,c,C⟩:=hq;dsimp only at hm I A r B c C ⊢;refine AK ?_;simp[go_sem];refine .inl ⟨by omega,?_⟩;cases o with
 | none =>
  have he:=I.none rfl;subst he;have hl0:l=[]:=vb.1 A.symm;subst hl0;exact⟨[],.inl ⟨rfl,⟨0,true,rfl⟩,rfl⟩,by simp,by simp,λk y e=>by
   rw[Bg]at r;rw[r.2];exact e⟩
 | some j=>
  have f:=I.lt j rfl;refine⟨(j,.cells (es.flatMap SV.cells))::ob,.inr ⟨j,false,_,ob,by rw[AZ,A],rfl,r⟩,?_,?_,λk y e=>?_⟩;simp only[AJ,qi,qU];exact⟨C j rfl,B⟩;intro k hk;simp only[AJ,qi,qe]at hk;rcases hk with rfl|hk;omega;exact c k hk;simp only[Ae,h_];by_cases D:k=j;subst D;simp[Bw,List.lookup]at e;rw[my rfl,e];have G:(k==j)=false:=by simpa using D
  rw[mw D];simpa[Bw,List.lookup,G]using e
theorem l8(l:List AF)(hl:l.length<=1048576)(g:FuncId)(H:∀(i:Nat)(h:i<l.length),NC g [(l[i]).h] (SL λs ob=>Eu l[i] s ob)):NC 204 [BS l,.fn (.func g) [] []] (IN 7 l.length λs ob=>BJ l s ob):=by
 intro h n;refine FF func204 rfl λho=>?_;have w:=ho.lt;refine Al 0 [(0,BS l),(1,.fn (.func g) [] [])] h n ?_ (λm hm=>?_);simp[go_sem,Or];subst hm;refine Al 0 [(0,BS l),(1,.fn (.func g) [] []),(5,.y 0 [] true)] h n ?_ (λm hm=>?_);simp[go_sem,Or];subst hm;refine AV 0 (α:=KZ) (λq=>[(5,AZ 7 q.o q.es)]) (λq=>Ae q.o q.es (Bw q.ob h)) (λq m=>KY 7 n m (λs ob=>BJ l s ob) l.length q.o q.es q.ob) ?_ (λq m hq=>?_);refine Al 0 [(1,.fn (.func g) [] []),(5,.y 0 [] true),(8,BS l),(9,AA l.length),(10,AA 0)] h n ?_ (λm hm=>?_);simp[go_sem,Or];subst hm;refine AP (Aq 0 (α:=KZ) (λq=>[(1,.fn (.func g) [] []),(5,AZ 7 q.o q.es),(8,BS l),(9,AA l.length),(10,AA q.k)]) (λq=>Ae q.o q.es (Bw q.ob h))
  (λq m=>q.k<=l.length/\KY 7 n m (λs ob=>BJ (l.take q.k) s ob) q.k q.o q.es q.ob) (λq=>l.length-q.k) ⟨0,none,[],[]⟩ ?_ ?_ ?_ ?_)
 exact⟨qj _,IO _,wQ _ _ _,rfl,by show BJ (l.take 0) _ _;rw[vk,BJ];exact⟨rfl,rfl⟩,by simp,by simp,by simp⟩;simp[go_sem,look,AZ,Or];simp only[Ae,Ni];exact AC;rintro⟨i,o,es,ob⟩ m ⟨hi,hm,I,A,r,B,c,C⟩;dsimp only at hi hm I A r B c C ⊢;by_cases K:i<l.length;have w1:=wS i mq;obtain⟨x,hx⟩:∃x,l[i]=x:=⟨_,rfl⟩
 have Z:=H i K;rw[hx]at Z;have O:∀j y,Bw ob h j=some y->j<m:=λj y e=>by
  by_cases f:j∈AJ ob;exact(c j f).2;rw[Ay f]at e;have:=w j y e;omega
 have V:∀j,o=some j->n<=j/\j<m:=λj e=>I.lt j e;have L:∀j y,Ae o es (Bw ob h) j=some y->j<m:=λj y e=>by
  cases o with
  | none=>exact O j y e
  | some q=>
   simp only[Ae]at e;by_cases D:j=q;have:=V q rfl;omega;rw[AD _ _ D]at e;exact O j y e
 refine Al 0 [(1,.fn (.func g) [] []),(5,AZ 7 o es),(8,BS l),(9,AA l.length),(10,AA i),(11,.bool true)] (Ae o es (Bw ob h)) m ?_ (λm' N=>?_);simp[go_sem,Or,K];subst N;refine Al 0 [(1,.fn (.func g) [] []),(5,AZ 7 o es),(8,BS l),(9,AA l.length),(10,AA i)] (Ae o es (Bw ob h)) m ?_ (λm' N=>?_);simp[go_sem,Or];subst N;refine AV 0 (α:=KZ) (λq=>[(1,.fn (.func g) [] []),(5,AZ 7 q.o q.es),(8,BS l),(9,AA l.length),(10,AA i)]) (λq=>Ae q.o q.es (Bw q.ob h)) (λq m=>KY 7 n m (λs ob=>BJ (l.take (i+1)) s ob) (i+1) q.o q.es q.ob) (AP ?_) (λq m hq=>?_);refine As 1 [(1,.fn (.func g) [] []),(5,AZ 7 o es),(7,.q x.h.cells),(8,BS l),(9,AA l.length),(10,AA i)] (Ae o es (Bw ob h)) m ?_ (λm1 hm1=>?_);rw[vD];simp[go_sem,Or,K,hx,vD,AE];refine⟨Ap (Ai L (IO m)) (AE _ _ _),AW L (AW L AC)⟩;refine AK ?_;have W:x.h=.agg x.h.cells:=by rw[vD];rfl
 have Y:x.h.cells.length=7:=AF.E.len x;generalize x.h.cells=xc at W Y ⊢;rw[W]at Z;have hxt:List.take 7 xc=xc:=qQ mq;simp[go_sem,Y,hxt];refine NC.use Z ?_;rintro v h1 n1 ⟨hn1,d,⟨s,rfl,Q⟩,S,u,R⟩;have P:=Mz _ _ _ Q;have M:∀j y,Ae o es h j=some y->h_ h1 n1 (some (.cells s)) j=some y:=λj y e=>by
  have f:j<m:=Gf w hm I j y e;rw[AD _ _ mq];refine R j y ?_;have hj1:j∉AJ d:=λg=>by have:=(u j g).1;omega
  rw[Ay hj1];cases o with
  | none=>
   have:j∉AJ ob:=λg=>by have:=(c j g).1;have:=w j y e;omega
   simp only[Ae]at e ⊢;rw[Ay this];exact e
  | some q=>
   simp only[Ae]at e ⊢;by_cases D:j=q;subst D;rw[AE]at e ⊢;exact e;rw[AD _ _ D]at e ⊢;have:j∉AJ ob:=λg=>by have:=(c j g).1;have:=w j y e;omega
   rw[Ay this];exact e
 obtain⟨out,ho1,ho2,ho3,ho4,ho5,ho6⟩:=Ig (X:=h_ h1 n1 (some (.cells s))) (h:=h) (k:=n1) (p:=n1+1) (t:=169) (t2:=169) (el:=173) (z:=7) (e:=.agg s) (es:=es) ms ms ms mr ms ms ms mq I rfl P (AE _ _ _) M w mq mq;have hvv:AZ 7 (some (n1+1)) (es++[.agg s])=.sl (n1+1) 0 7 (es.length+1) false:=by simp[AZ]
 have T:(AJ (ob++d)).Nodup:=by
  rw[AJ,qc,qu];exact⟨B,S,λa ha b hb e=>by have:=(c a ha).2;have:=(u b hb).1;omega⟩
 have F:∀k∈AJ (ob++d),n<=k/\k<n1:=λk hk=>by
  rw[AJ,qc,qd]at hk;rcases hk with hk|hk;have:=c k hk;omega;have:=u k hk;omega
 have fin:∀j y,Ae (some (n1+1)) (es++[.agg s]) (Bw (ob++d) h) j=some y->Cg.app (h_ h1 n1 (some (.cells s))) (n1+1) out j=some y:=λj y e=>by
  by_cases D:j=n1+1;refine ho5 j y ?_;subst D;simp only[Ae,AE]at e ⊢;exact e;simp only[Ae]at e;rw[AD _ _ D]at e;have hjb:j<n1:=by
   by_cases f:j∈AJ (ob++d);exact(F j f).2;rw[Ay f]at e;have:=w j y e;omega
  have U:o≠some j:=λg=>by
   have h3:=V j g;by_cases f:j∈AJ (ob++d);rw[AJ,qc,qd]at f;rcases f with f|f;exact C j g f;have:=(u j f).1;omega;rw[Ay f]at e;have:=w j y e;omega
  rw[ho6 j D U,AD _ _ mq];refine R j y ?_;rw[Ii]at e;by_cases f:j∈AJ d;have J:j∉AJ ob:=λg=>by have:=(c j g).2;have:=(u j f).1;omega
  rw[Ay J]at e;simp only[Bw]at e ⊢;cases G:d.lookup j with
  | none=>exact absurd f (Cf.1 G)
  | some z=>rw[G]at e;exact e
  rw[Ay f];have G:Bw ob h j=some y:=by
   by_cases J:j∈AJ ob;simp only[Bw]at e ⊢;cases G:ob.lookup j with
   | none=>exact absurd J (Cf.1 G)
   | some z=>rw[G]at e;exact e
   rw[Ay J]at e ⊢;rw[Ay f]at e;exact e
  cases o with
  | none=>exact G
  | some q=>
   simp only[Ae];rw[AD _ _ (λg=>U (by rw[g]))];exact G
 simp only[Cg.app]at fin;simp[go_sem,P];rw[ho1];simp[go_sem,ho2,ho3];refine⟨⟨i+1,some (n1+1),es++[.agg s],ob++d⟩,⟨by omega,ho4,by rw[ql,A];rfl,?_,T,λk hk=>by have:=F k hk;omega,λj e=>by cases e;exact λg=>by have:=(F _ g).2;omega⟩,?_,?_⟩;simp only[NA];rw[qb K,hx,HE];exact⟨_,_,_,_,rfl,rfl,r,by rw[BJ];exact⟨s,[],d,[],by simp,by simp,Q,by rw[BJ];exact⟨rfl,rfl⟩⟩⟩;simp[hvv,Or];exact fin;refine AK ?_;simp[go_sem,w1,Or,-Int.natCast_add];exact⟨⟨i+1,q.o,q.es,q.ob⟩,by simp only;omega,⟨by simp only;omega,hq⟩,⟨rfl,rfl⟩,AC⟩;have hie:i=l.length:=by omega
 subst hie;rw[qp]at r;refine AK ?_;simp[go_sem];exact⟨⟨l.length,o,es,ob⟩,⟨hm,I,A,r,B,c,C⟩,rfl,AC⟩;rcases q with⟨_,o,es,ob⟩
 obtain⟨hm,I,A,r,B,c,C⟩:=hq;dsimp only at hm I A r B c C ⊢;refine AK ?_;simp[go_sem];refine .inl ⟨by omega,?_⟩;cases o with
 | none =>
  have he:=I.none rfl;subst he;have hl0:l=[]:=vb.1 A.symm;subst hl0;exact⟨[],.inl ⟨rfl,⟨0,true,rfl⟩,rfl⟩,by simp,by simp,λk y e=>by
   rw[BJ]at r;rw[r.2];exact e⟩
 | some j=>
  have f:=I.lt j rfl;refine⟨(j,.cells (es.flatMap SV.cells))::ob,.inr ⟨j,false,_,ob,by rw[AZ,A],rfl,r⟩,?_,?_,λk y e=>?_⟩;simp only[AJ,qi,qU];exact⟨C j rfl,B⟩;intro k hk;simp only[AJ,qi,qe]at hk;rcases hk with rfl|hk;omega;exact c k hk;simp only[Ae,h_];by_cases D:k=j;subst D;simp[Bw,List.lookup]at e;rw[my rfl,e];have G:(k==j)=false:=by simpa using D
  rw[mw D];simpa[Bw,List.lookup,G]using e
inductive Qi where
 | nil
 | pure (i:Nat) (t:Qi)
 | one (i:Nat) (t:Qi)
 | two (i j:Nat) (t u:Qi)
 | three (i j k:Nat) (t u v:Qi)
def G5(ops:Array Oper):Array Bool->Qi->Bool
 | listed,.nil=>(Region.ready .any ops listed).isEmpty
 | listed,.pure i t=>Region.free .any ops listed i&&(Region.ready .any ops listed).contains i&&G5 ops (listed.setIfInBounds i true) t
 | listed,.one i t=>Region.ready .any ops listed==[i]&&G5 ops (listed.setIfInBounds i true) t
 | listed,.two i j t u=>Region.ready .any ops listed==[i,j]&&G5 ops (listed.setIfInBounds i true) t&&G5 ops (listed.setIfInBounds j true) u
 | listed,.three i j k t u v=>Region.ready .any ops listed==[i,j,k]&&G5 ops (listed.setIfInBounds i true) t&&G5 ops (listed.setIfInBounds j true) u&&G5 ops (listed.setIfInBounds k true) v
section
variable(E:BZ)(P:Program)(ops:Array Oper)(K:SA->Hp->Nat->Prop)
def G6:Bool->Qi->SA->Hp->Nat->Prop
 | _,.nil,sa,h,n=>K sa h n
 | st,.pure i t,sa,h,n=>match ops[i]? with|some o=>K5 P ops st o sa λsa'=>G6 st t sa' h n|none=>False
 | _,.one i t,sa,h,n=>match ops[i]? with|some o=>Df E P ops o sa h n (G6 false t)|none=>False
 | _,.two i j t u,sa,h,n=>match ops[i]?,ops[j]? with|some o,some q=>Df E P ops o sa h n (G6 false t)/\Df E P ops q sa h n (G6 false u)|_,_=>False
 | _,.three i j k t u v,sa,h,n=>match ops[i]?,ops[j]?,ops[k]? with|some o,some q,some r=>Df E P ops o sa h n (G6 false t)/\Df E P ops q sa h n (G6 false u)/\Df E P ops r sa h n (G6 false v)|_,_,_=>False
end
section
variable{E:BZ}{P:Program}{N:Nat}{ops:Array Oper}{K:SA->Hp->Nat->Prop}
theorem Vr(hro:E.ro=none)(hdst:∀(i:Nat)(o:Oper),ops[i]? = some o->∀d,o.dst=some d->d<N)(hsel:∀(j:Nat)(o:Oper) cs b,ops[j]? = some o->o.op≠.select cs b){n0:Nat}{c0 c1:Cx}:
 ∀(t:Qi)(st:Bool)(listed:Array Bool)(fuel:Nat)(sa:SA)(h:Hp)(n:Nat)(c:Cx)(a:Act),listed.size=ops.size->MO listed=fuel->G5 ops listed t=true->G6 E P ops K st t sa h n->
  E.inv c->CB h c->Fr n c->FR E N sa c a->Fo n0 c0 n c->DV c1 c->(st=true->c=c1)->
  KU E.fc 0 P .any ops (OY E N n0 c0 K) (λw=>∃c',c'.w=w/\DV c1 c') fuel listed a c.w:=by
 have hfr:E.fc.round=none:=hro;intro t
 induction t with
 | nil=>
  intro st listed fuel sa h n c a _ _ hok H I R F A X _ _;have hr:Region.ready .any ops listed=[]:=by simpa[G5]using hok
  have hq:OY E N n0 c0 K .normal a c.w:=⟨rfl,sa,h,n,c,H,rfl,R,F,A,X⟩
  cases fuel with
  | zero=>exact⟨hr,hq⟩
  | succ fuel=>exact⟨λ_=>hq,by rw[hr];simp⟩
 | pure i t ih=>
  intro st listed fuel sa h n c a hs hu hok H I R F A X X1 hst;simp only[G5,qg]at hok;obtain⟨⟨hfree,hr⟩,hok⟩:=hok;simp only[G6]at H;split at H
  case h_2=>exact H.elim
  rename_i o ho;have hmem:i∈Region.ready .any ops listed:=by simpa using hr
  obtain⟨hun,_,_,_⟩:=mem_ready.1 hmem;have hlt:=(qh.1 ho).1;have hF:listed.getD i false=false:=by rw[C5 mq]at hun ⊢;exact hun
  have hu2:=Ds mq hF;obtain⟨fuel,rfl⟩:∃f,fuel=f+1:=⟨fuel-1,by omega⟩
  unfold K5 at H;split at H
  case h_2=>exact H.elim
  rename_i b hg;have hw:=Ga A hg;cases b;simp only[qt,if_false]at H;refine Ec (v:=undef) hfr ho hsel (λ_ _ _ e=>by cases e.1) fuel listed a c.w (Region.free_spec ho hfree) hmem ⟨.inr ⟨hw,rfl⟩,λw=>J9 H.1 w⟩ ⟨c,rfl,X1⟩ (ih st _ fuel _ h n c _ (by simp[hs]) mq hok H.2 I R F (A.put (hdst i o ho) Hz) X X1 hst)
  . simp only[if_true]at H;split at H
    case h_2=>exact H.elim
    rename_i v hv;obtain⟨u,hvu,hrun⟩:=Nx (c:=c) (W:=λw=>∃c',c'.w=w/\DV c1 c') hv (λx _=>A.ev x) (λe w hw=>by rw[hst e];exact hw);refine Ec (v:=u) hfr ho hsel (λ_ _ _ e=>by cases e.1) fuel listed a c.w (Region.free_spec ho hfree) hmem ⟨.inl ⟨hw,hrun⟩,λw=>KF hv w⟩ ⟨c,rfl,X1⟩
     (ih st _ fuel _ h n c _ (by simp[hs]) mq hok H I R F (A.put (hdst i o ho) hvu) X X1 hst)
 | one i t ih=>
  intro st listed fuel sa h n c a hs hu hok H I R F A X X1 hst;simp only[G5,qg,beq_iff_eq]at hok;obtain⟨hr,hok⟩:=hok;simp only[G6]at H;split at H
  case h_2=>exact H.elim
  rename_i o ho;have hmem:i∈Region.ready .any ops listed:=by rw[hr];simp
  obtain⟨hun,_,_,_⟩:=mem_ready.1 hmem;have hlt:=(qh.1 ho).1;have hF:listed.getD i false=false:=by rw[C5 mq]at hun ⊢;exact hun
  have hu2:=Ds mq hF;obtain⟨fuel,rfl⟩:∃f,fuel=f+1:=⟨fuel-1,by omega⟩
  refine⟨λe=>(by rw[e]at hr;cases hr),λj hj=>?_⟩;rw[hr]at hj;obtain rfl:=qw.1 hj;exact BT ho (hdst j o ho) H I R F A λsa' h' n' c' a' hT R' F' A' X'=>⟨⟨c',rfl,X1.trans X'.ext⟩,ih false _ fuel _ h' n' c' a' (by simp[hs]) mq hok hT (E.ext X'.ext I) R' F' A' (X.trans X') (X1.trans X'.ext) mr⟩
 | two i j t u iht ihu =>
  intro st listed fuel sa h n c a hs hu hok H I R F A X X1 hst;simp only[G5,qg,beq_iff_eq]at hok;obtain⟨⟨hr,hok1⟩,hok2⟩:=hok;simp only[G6]at H;split at H
  case h_2=>exact H.elim
  rename_i o q ho hq;have hun:∀k,k∈Region.ready .any ops listed->MO (listed.setIfInBounds k true)+1=MO listed:=λk hk=>by
   obtain⟨hun,o',ho',_⟩:=mem_ready.1 hk;have hlt:=(qh.1 ho').1;have hF:listed.getD k false=false:=by rw[C5 mq]at hun ⊢;exact hun
   exact Ds mq hF
  have hui:=hun i (by rw[hr];simp);have huj:=hun j (by rw[hr];simp);obtain⟨fuel,rfl⟩:∃f,fuel=f+1:=⟨fuel-1,by omega⟩
  refine⟨λe=>(by rw[e]at hr;cases hr),λk hk=>?_⟩;rw[hr]at hk;rcases qe.1 hk with rfl|hk;exact BT ho (hdst _ o ho) H.1 I R F A λsa' h' n' c' a' hT R' F' A' X'=>⟨⟨c',rfl,X1.trans X'.ext⟩,iht false _ fuel _ h' n' c' a' (by simp[hs]) mq hok1 hT (E.ext X'.ext I) R' F' A' (X.trans X') (X1.trans X'.ext) mr⟩
  obtain rfl:=qw.1 hk;exact BT hq (hdst _ q hq) H.2 I R F A λsa' h' n' c' a' hT R' F' A' X'=>⟨⟨c',rfl,X1.trans X'.ext⟩,ihu false _ fuel _ h' n' c' a' (by simp[hs]) mq hok2 hT (E.ext X'.ext I) R' F' A' (X.trans X') (X1.trans X'.ext) mr⟩
 | three i j k t u v iht ihu ihv =>
  intro st listed fuel sa h n c a hs hu hok H I R F A X X1 hst;simp only[G5,qg,beq_iff_eq]at hok;obtain⟨⟨⟨hr,hok1⟩,hok2⟩,hok3⟩:=hok;simp only[G6]at H;split at H
  case h_2=>exact H.elim
  rename_i o q r ho hq hr3;have hun:∀k,k∈Region.ready .any ops listed->MO (listed.setIfInBounds k true)+1=MO listed:=λk hk=>by
   obtain⟨hun,o',ho',_⟩:=mem_ready.1 hk;have hlt:=(qh.1 ho').1;have hF:listed.getD k false=false:=by rw[C5 mq]at hun ⊢;exact hun
   exact Ds mq hF
  have hui:=hun i (by rw[hr];simp);have huj:=hun j (by rw[hr];simp);have huk:=hun k (by rw[hr];simp);obtain⟨fuel,rfl⟩:∃f,fuel=f+1:=⟨fuel-1,by omega⟩
  refine⟨λe=>(by rw[e]at hr;cases hr),λk' hk=>?_⟩;rw[hr]at hk;rcases qe.1 hk with rfl|hk;exact BT ho (hdst _ o ho) H.1 I R F A λsa' h' n' c' a' hT R' F' A' X'=>⟨⟨c',rfl,X1.trans X'.ext⟩,iht false _ fuel _ h' n' c' a' (by simp[hs]) mq hok1 hT (E.ext X'.ext I) R' F' A' (X.trans X') (X1.trans X'.ext) mr⟩
  rcases qe.1 hk with rfl|hk;exact BT hq (hdst _ q hq) H.2.1 I R F A λsa' h' n' c' a' hT R' F' A' X'=>⟨⟨c',rfl,X1.trans X'.ext⟩,ihu false _ fuel _ h' n' c' a' (by simp[hs]) mq hok2 hT (E.ext X'.ext I) R' F' A' (X.trans X') (X1.trans X'.ext) mr⟩
  obtain rfl:=qw.1 hk;exact BT hr3 (hdst _ r hr3) H.2.2 I R F A λsa' h' n' c' a' hT R' F' A' X'=>⟨⟨c',rfl,X1.trans X'.ext⟩,ihv false _ fuel _ h' n' c' a' (by simp[hs]) mq hok3 hT (E.ext X'.ext I) R' F' A' (X.trans X') (X1.trans X'.ext) mr⟩
theorem ZQ(k:E.ro=none)(hm:P.follows .mixedOrders=true)(t:Qi){id:Nat}{Q:CT}{sa:SA}{h:Hp}{n:Nat}(v:Region.noSelect ops=true)(g:G5 ops (Array.replicate ops.size false) t=true)
 (H:G6 E P ops (Q .normal) true t sa h n):GU E P N (.region id ops true) Q sa h n:=by
 intro hd c a I R F A;simp only[Code.dok,qG]at hd;have f:∀(i:Nat)(o:Oper),ops[i]? = some o->∀d,o.dst=some d->d<N:=λi o u d e=>by
  have:=hd o (by simpa using Array.mem_of_getElem? u);rw[e]at this;simpa using this
 have:=Vr (E:=E) (P:=P) (N:=N) (K:=Q .normal) (n0:=n) (c0:=c) (c1:=c.drew) k f (Region.noSelect_spec v) t true (Array.replicate ops.size false) ops.size sa h n c.drew a mr (by simp[MO]) g H
  (E.ext c.zc I) R.drew (λj s=>F j s) (A.ext c.zc) ⟨c.zc,IO _,λ_ _=>rfl⟩ (wT _) (λ_=>rfl)
 refine wpIn_mono (wpIn_region_any hm (GS (S:=λw=>∃b,b.w=w/\DV c.drew b) _ _ _ _ this)) ?_;rintro e a' w' ⟨rfl,l,h',n',b,h1,h2,m,p,q,r⟩;exact⟨l,h',n',b,h1,h2,m,p,q,r⟩
end
noncomputable def L0:(E:BZ)->(P:Program)->(ops:Array Oper)->(K:SA->Hp->Nat->Prop)->Bool->Qi->SA->Hp->Nat->Prop:=Classical.choose (BW G6)
theorem HV:L0=G6:=vg (BW G6)
noncomputable def Z1:(E:BZ)->(P:Program)->(ops:Array Oper)->(K:SA->Hp->Nat->Prop)->Qi->SA->Option Tmp->SV->Hp->Nat->Prop:=
 Classical.choose (BW λE P ops K t sa dst v h n=>L0 E P ops K false t (C1 sa dst v) h n)
section
variable(E:BZ)(P:Program)(ops:Array Oper)(K:SA->Hp->Nat->Prop)(st:Bool)(t u:Qi)(sa:SA)(h:Hp)(n i j:Nat)
@[go_sem] theorem Z3(dst:Option Tmp)(w:SV):Z1 E P ops K t sa dst w h n=L0 E P ops K false t (C1 sa dst w) h n:=by
 unfold Z1;rw[vg (BW λE P ops K t sa dst v h n=>L0 E P ops K false t (C1 sa dst v) h n)]
theorem XU(o:Oper):Z1 E P ops K t sa o.dst=λv h' n'=>G6 E P ops K false t (C1 sa o.dst v) h' n':=by
 funext v h' n';rw[Z3,HV]
@[go_sem] theorem i7:L0 E P ops K st .nil sa h n=K sa h n:=by rw[HV];simp only[G6]
@[go_sem] theorem fS:L0 E P ops K st (.pure i t) sa h n=match ops[i]? with
 | some o=>(match Cz ops sa o with
  | some b=>if b=true then(match IR P st (EV sa) o.op with|some v=>L0 E P ops K st t (C1 sa o.dst v) h n|none=>False)else Gy o.op=true/\L0 E P ops K st t (C1 sa o.dst (.tup [])) h n
  | none=>False)
 | none=>False:=by
 rw[HV];simp only[G6,K5]
 all_goals
  cases ops[i]? with
  | none=>rfl
  | some o =>
   simp only;cases Cz ops sa o with
   | none=>rfl
   | some b=>cases b with
    | false=>rfl
    | true=>simp only[if_true];cases IR P st (EV sa) o.op<;>rfl
def II(o:Oper):Prop:=
 match Cz ops sa o with
 | some b=>if b=true then Fa E P o sa h n (Z1 E P ops K t sa o.dst)else L0 E P ops K false t (C1 sa o.dst (.tup [])) h n
 | none=>False
theorem Lx(o:Oper):II E P ops K t sa h n o=Df E P ops o sa h n (G6 E P ops K false t):=by
 unfold II Df;rw[XU,HV]
 all_goals
  cases Cz ops sa o with
  | none=>rfl
  | some b=>cases b<;>rfl
@[go_sem] theorem jA:L0 E P ops K st (.one i t) sa h n=match ops[i]? with|some o=>II E P ops K t sa h n o|none=>False:=by
 rw[HV];simp only[G6,Lx]<;>cases ops[i]? <;> rfl
@[go_sem] theorem jD:L0 E P ops K st (.two i j t u) sa h n=match ops[i]?,ops[j]? with|some o,some q=>II E P ops K t sa h n o/\II E P ops K u sa h n q|_,_=>False:=by
 rw[HV];simp only[G6,Lx]<;>cases ops[i]? <;> cases ops[j]? <;> rfl
variable(v:Qi)(k:Nat)
@[go_sem] theorem eq:L0 E P ops K st (.three i j k t u v) sa h n=match ops[i]?,ops[j]?,ops[k]? with|some o,some q,some r=>II E P ops K t sa h n o/\II E P ops K u sa h n q/\II E P ops K v sa h n r|_,_,_=>False:=by
 rw[HV];simp only[G6,Lx]<;>cases ops[i]? <;> cases ops[j]? <;> cases ops[k]? <;> rfl
end
attribute [go_sem] II
theorem PV{E:BZ}{N id:Nat}{a:Array Oper}{Q:CT}{sa:SA}{h:Hp}{n:Nat}(t:Qi)(c:E.ro=none)(d:Region.noSelect a=true)(b:G5 a (Array.replicate a.size false) t=true)
 (H:L0 E prog a (Q .normal) true t sa h n):SP E N (.region id a true) Q sa h n:=
 ZQ c follows t d b (by rw[<-HV];exact H)
end Go.Proofs.YthinbkgpjmjfeaaGreatDoor.Sh
