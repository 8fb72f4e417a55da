/- A part of the proof (part 11 of 18). -/
import Derived.Test.YthinbkgpjmjfeaaGreatDoorM10
namespace Go.Proofs.YthinbkgpjmjfeaaGreatDoor.Sh
open Go.Proofs.Tryz
abbrev ua:=@Jc.same
abbrev wE:=@BL.app
abbrev wM:=@NC.use
inductive Og where
 | nil
 | pure (i:Nat) (t:Og)
 | one (i:Nat) (t:Og)
 | two (i j:Nat) (t u:Og)
 | three (i j k:Nat) (t u v:Og)
def HI(ops:Array Oper):Array Bool->Og->Bool
 | listed,.nil=>(Region.ready .any ops listed).isEmpty
 | listed,.pure i t=>Region.free .any ops listed i&&(Region.ready .any ops listed).contains i&&HI ops (listed.setIfInBounds i true) t
 | listed,.one i t=>Region.ready .any ops listed==[i]&&HI ops (listed.setIfInBounds i true) t
 | listed,.two i j t u=>Region.ready .any ops listed==[i,j]&&HI ops (listed.setIfInBounds i true) t&&HI ops (listed.setIfInBounds j true) u
 | listed,.three i j k t u v=>Region.ready .any ops listed==[i,j,k]&&HI ops (listed.setIfInBounds i true) t&&HI ops (listed.setIfInBounds j true) u&&HI ops (listed.setIfInBounds k true) v
section
variable(E:BU)(P:Program)(ops:Array Oper)(K:SA->Hp->Nat->Prop)
def HJ:Bool->Og->SA->Hp->Nat->Prop
 | _,.nil,sa,h,n=>K sa h n
 | st,.pure i t,sa,h,n=>match ops[i]? with|some o=>K4 P ops st o sa λsa'=>HJ st t sa' h n|none=>False
 | _,.one i t,sa,h,n=>match ops[i]? with|some o=>Da E P ops o sa h n (HJ false t)|none=>False
 | _,.two i j t u,sa,h,n=>match ops[i]?,ops[j]? with|some o,some q=>Da E P ops o sa h n (HJ false t)/\Da E P ops q sa h n (HJ false u)|_,_=>False
 | _,.three i j k t u v,sa,h,n=>match ops[i]?,ops[j]?,ops[k]? with|some o,some q,some r=>Da E P ops o sa h n (HJ false t)/\Da E P ops q sa h n (HJ false u)/\Da E P ops r sa h n (HJ false v)|_,_,_=>False
end
section
variable{E:BU}{P:Program}{N:Nat}{ops:Array Oper}{K:SA->Hp->Nat->Prop}
theorem Vy(hro:E.ro=none)(hdst:∀(i:Nat)(o:Oper),ops[i]? = some o->∀d,o.dst=some d->d<N)(hsel:∀(j:Nat)(o:Oper) cs b,ops[j]? = some o->o.op≠.select cs b){n0:Nat}{c0 c1:Cx}:
 ∀(t:Og)(st:Bool)(listed:Array Bool)(fuel:Nat)(sa:SA)(h:Hp)(n:Nat)(c:Cx)(a:Act),listed.size=ops.size->MR listed=fuel->HI ops listed t=true->HJ E P ops K st t sa h n->
  E.inv c->Bk h c->Fr n c->FR E N sa c a->Fx n0 c0 n c->DF c1 c->(st=true->c=c1)->
  KU E.fc 0 P .any ops (Oc E N n0 c0 K) (λw=>∃c',c'.w=w/\DF c1 c') fuel listed a c.w:=by
 have hfr:E.fc.round=none:=hro;intro t
 induction t with
 | nil=>
  intro st listed fuel sa h n c a _ _ hok H I R F A X _ _;have hr:Region.ready .any ops listed=[]:=by simpa[HI]using hok
  have hq:Oc E N n0 c0 K .normal a c.w:=⟨rfl,sa,h,n,c,H,rfl,R,F,A,X⟩
  cases fuel with
  | zero=>exact⟨hr,hq⟩
  | succ fuel=>exact⟨λ_=>hq,by rw[hr];simp⟩
 | pure i t ih=>
  intro st listed fuel sa h n c a hs hu hok H I R F A X X1 hst;simp only[HI,qh]at hok;obtain⟨⟨hfree,hr⟩,hok⟩:=hok;simp only[HJ]at H;split at H
  case h_2=>exact H.elim
  rename_i o ho;have hmem:i∈Region.ready .any ops listed:=by simpa using hr
  obtain⟨hun,_,_,_⟩:=mem_ready.1 hmem;have hlt:=(qe.1 ho).1;have hF:listed.getD i false=false:=by rw[C6 nN]at hun ⊢;exact hun
  have hu2:=Dk nN hF;obtain⟨fuel,rfl⟩:∃f,fuel=f+1:=⟨fuel-1,by omega⟩
  unfold K4 at H;split at H
  case h_2=>exact H.elim
  rename_i b hg;have hw:=Gl A hg;cases b;simp only[qq,if_false]at H;refine Ee (v:=undef) hfr ho hsel (λ_ _ _ e=>by cases e.1) fuel listed a c.w (Region.free_spec ho hfree) hmem ⟨.inr ⟨hw,rfl⟩,λw=>J8 H.1 w⟩ ⟨c,rfl,X1⟩ (ih st _ fuel _ h n c _ (by simp[hs]) nN hok H.2 I R F (A.put (hdst i o ho) IE) X X1 hst)
  . simp only[if_true]at H;split at H
    case h_2=>exact H.elim
    rename_i v hv;obtain⟨u,hvu,hrun⟩:=N6 (c:=c) (W:=λw=>∃c',c'.w=w/\DF c1 c') hv (λx _=>A.ev x) (λe w hw=>by rw[hst e];exact hw);refine Ee (v:=u) hfr ho hsel (λ_ _ _ e=>by cases e.1) fuel listed a c.w (Region.free_spec ho hfree) hmem ⟨.inl ⟨hw,hrun⟩,λw=>KF hv w⟩ ⟨c,rfl,X1⟩
     (ih st _ fuel _ h n c _ (by simp[hs]) nN hok H I R F (A.put (hdst i o ho) hvu) X X1 hst)
 | one i t ih=>
  intro st listed fuel sa h n c a hs hu hok H I R F A X X1 hst;simp only[HI,qh,beq_iff_eq]at hok;obtain⟨hr,hok⟩:=hok;simp only[HJ]at H;split at H
  case h_2=>exact H.elim
  rename_i o ho;have hmem:i∈Region.ready .any ops listed:=by rw[hr];simp
  obtain⟨hun,_,_,_⟩:=mem_ready.1 hmem;have hlt:=(qe.1 ho).1;have hF:listed.getD i false=false:=by rw[C6 nN]at hun ⊢;exact hun
  have hu2:=Dk nN hF;obtain⟨fuel,rfl⟩:∃f,fuel=f+1:=⟨fuel-1,by omega⟩
  refine⟨λe=>(by rw[e]at hr;cases hr),λj hj=>?_⟩;rw[hr]at hj;obtain rfl:=qA.1 hj;exact BS ho (hdst j o ho) H I R F A λsa' h' n' c' a' hT R' F' A' X'=>⟨⟨c',rfl,X1.trans X'.ext⟩,ih false _ fuel _ h' n' c' a' (by simp[hs]) nN hok hT (E.ext X'.ext I) R' F' A' (X.trans X') (X1.trans X'.ext) nO⟩
 | two i j t u iht ihu =>
  intro st listed fuel sa h n c a hs hu hok H I R F A X X1 hst;simp only[HI,qh,beq_iff_eq]at hok;obtain⟨⟨hr,hok1⟩,hok2⟩:=hok;simp only[HJ]at H;split at H
  case h_2=>exact H.elim
  rename_i o q ho hq;have hun:∀k,k∈Region.ready .any ops listed->MR (listed.setIfInBounds k true)+1=MR listed:=λk hk=>by
   obtain⟨hun,o',ho',_⟩:=mem_ready.1 hk;have hlt:=(qe.1 ho').1;have hF:listed.getD k false=false:=by rw[C6 nN]at hun ⊢;exact hun
   exact Dk nN hF
  have hui:=hun i (by rw[hr];simp);have huj:=hun j (by rw[hr];simp);obtain⟨fuel,rfl⟩:∃f,fuel=f+1:=⟨fuel-1,by omega⟩
  refine⟨λe=>(by rw[e]at hr;cases hr),λk hk=>?_⟩;rw[hr]at hk;rcases qd.1 hk with rfl|hk;exact BS ho (hdst _ o ho) H.1 I R F A λsa' h' n' c' a' hT R' F' A' X'=>⟨⟨c',rfl,X1.trans X'.ext⟩,iht false _ fuel _ h' n' c' a' (by simp[hs]) nN hok1 hT (E.ext X'.ext I) R' F' A' (X.trans X') (X1.trans X'.ext) nO⟩
  obtain rfl:=qA.1 hk;exact BS hq (hdst _ q hq) H.2 I R F A λsa' h' n' c' a' hT R' F' A' X'=>⟨⟨c',rfl,X1.trans X'.ext⟩,ihu false _ fuel _ h' n' c' a' (by simp[hs]) nN hok2 hT (E.ext X'.ext I) R' F' A' (X.trans X') (X1.trans X'.ext) nO⟩
 | three i j k t u v iht ihu ihv =>
  intro st listed fuel sa h n c a hs hu hok H I R F A X X1 hst;simp only[HI,qh,beq_iff_eq]at hok;obtain⟨⟨⟨hr,hok1⟩,hok2⟩,hok3⟩:=hok;simp only[HJ]at H;split at H
  case h_2=>exact H.elim
  rename_i o q r ho hq hr3;have hun:∀k,k∈Region.ready .any ops listed->MR (listed.setIfInBounds k true)+1=MR listed:=λk hk=>by
   obtain⟨hun,o',ho',_⟩:=mem_ready.1 hk;have hlt:=(qe.1 ho').1;have hF:listed.getD k false=false:=by rw[C6 nN]at hun ⊢;exact hun
   exact Dk nN hF
  have hui:=hun i (by rw[hr];simp);have huj:=hun j (by rw[hr];simp);have huk:=hun k (by rw[hr];simp);obtain⟨fuel,rfl⟩:∃f,fuel=f+1:=⟨fuel-1,by omega⟩
  refine⟨λe=>(by rw[e]at hr;cases hr),λk' hk=>?_⟩;rw[hr]at hk;rcases qd.1 hk with rfl|hk;exact BS ho (hdst _ o ho) H.1 I R F A λsa' h' n' c' a' hT R' F' A' X'=>⟨⟨c',rfl,X1.trans X'.ext⟩,iht false _ fuel _ h' n' c' a' (by simp[hs]) nN hok1 hT (E.ext X'.ext I) R' F' A' (X.trans X') (X1.trans X'.ext) nO⟩
  rcases qd.1 hk with rfl|hk;exact BS hq (hdst _ q hq) H.2.1 I R F A λsa' h' n' c' a' hT R' F' A' X'=>⟨⟨c',rfl,X1.trans X'.ext⟩,ihu false _ fuel _ h' n' c' a' (by simp[hs]) nN hok2 hT (E.ext X'.ext I) R' F' A' (X.trans X') (X1.trans X'.ext) nO⟩
  obtain rfl:=qA.1 hk;exact BS hr3 (hdst _ r hr3) H.2.2 I R F A λsa' h' n' c' a' hT R' F' A' X'=>⟨⟨c',rfl,X1.trans X'.ext⟩,ihv false _ fuel _ h' n' c' a' (by simp[hs]) nN hok3 hT (E.ext X'.ext I) R' F' A' (X.trans X') (X1.trans X'.ext) nO⟩
theorem Zc(k:E.ro=none)(hm:P.follows .mixedOrders=true)(t:Og){id:Nat}{Q:Ca}{sa:SA}{h:Hp}{n:Nat}(v:Region.noSelect ops=true)(g:HI ops (Array.replicate ops.size false) t=true)
 (H:HJ E P ops (Q .normal) true t sa h n):Fc E P N (.region id ops true) Q sa h n:=by
 intro hd c a I R F A;simp only[Code.dok,qE]at hd;have f:∀(i:Nat)(o:Oper),ops[i]? = some o->∀d,o.dst=some d->d<N:=λi o u d e=>by
  have:=hd o (by simpa using Array.mem_of_getElem? u);rw[e]at this;simpa using this
 have:=Vy (E:=E) (P:=P) (N:=N) (K:=Q .normal) (n0:=n) (c0:=c) (c1:=c.drew) k f (Region.noSelect_spec v) t true (Array.replicate ops.size false) ops.size sa h n c.drew a nO (by simp[MR]) g H
  (E.ext c.zc I) R.drew (λj s=>F j s) (A.ext c.zc) ⟨c.zc,IO _,λ_ _=>rfl⟩ (wR _) (λ_=>rfl)
 refine wpIn_mono (wpIn_region_any hm (Gd (S:=λw=>∃b,b.w=w/\DF c.drew b) _ _ _ _ this)) ?_;rintro e a' w' ⟨rfl,l,h',n',b,h1,h2,m,p,q,r⟩;exact⟨l,h',n',b,h1,h2,m,p,q,r⟩
end
open Proofs
noncomputable def L8:(E:BU)->(P:Program)->(ops:Array Oper)->(K:SA->Hp->Nat->Prop)->Bool->Og->SA->Hp->Nat->Prop:=Classical.choose (BT HJ)
theorem Hd:L8=HJ:=vb (BT HJ)
noncomputable def aF:(E:BU)->(P:Program)->(ops:Array Oper)->(K:SA->Hp->Nat->Prop)->Og->SA->Option Tmp->SV->Hp->Nat->Prop:=
 Classical.choose (BT λE P ops K t sa dst v h n=>L8 E P ops K false t (C3 sa dst v) h n)
section
variable(E:BU)(P:Program)(ops:Array Oper)(K:SA->Hp->Nat->Prop)(st:Bool)(t u:Og)(sa:SA)(h:Hp)(n i j:Nat)
@[go_sem] theorem aH(dst:Option Tmp)(w:SV):aF E P ops K t sa dst w h n=L8 E P ops K false t (C3 sa dst w) h n:=by
 unfold aF;rw[vb (BT λE P ops K t sa dst v h n=>L8 E P ops K false t (C3 sa dst v) h n)]
theorem XZ(o:Oper):aF E P ops K t sa o.dst=λv h' n'=>HJ E P ops K false t (C3 sa o.dst v) h' n':=by
 funext v h' n';rw[aH,Hd]
@[go_sem] theorem jJ:L8 E P ops K st .nil sa h n=K sa h n:=by rw[Hd];simp only[HJ]
@[go_sem] theorem fh:L8 E P ops K st (.pure i t) sa h n=match ops[i]? with
 | some o=>(match C1 ops sa o with
  | some b=>if b=true then(match IY P st (EV sa) o.op with|some v=>L8 E P ops K st t (C3 sa o.dst v) h n|none=>False)else G9 o.op=true/\L8 E P ops K st t (C3 sa o.dst (.tup [])) h n
  | none=>False)
 | none=>False:=by
 rw[Hd];simp only[HJ,K4]
 all_goals
  cases ops[i]? with
  | none=>rfl
  | some o =>
   simp only;cases C1 ops sa o with
   | none=>rfl
   | some b=>cases b with
    | false=>rfl
    | true=>simp only[if_true];cases IY P st (EV sa) o.op<;>rfl
def IR(o:Oper):Prop:=
 match C1 ops sa o with
 | some b=>if b=true then Fj E P o sa h n (aF E P ops K t sa o.dst)else L8 E P ops K false t (C3 sa o.dst (.tup [])) h n
 | none=>False
theorem L4(o:Oper):IR E P ops K t sa h n o=Da E P ops o sa h n (HJ E P ops K false t):=by
 unfold IR Da;rw[XZ,Hd]
 all_goals
  cases C1 ops sa o with
  | none=>rfl
  | some b=>cases b<;>rfl
@[go_sem] theorem jL:L8 E P ops K st (.one i t) sa h n=match ops[i]? with|some o=>IR E P ops K t sa h n o|none=>False:=by
 rw[Hd];simp only[HJ,L4]<;>cases ops[i]? <;> rfl
@[go_sem] theorem jO:L8 E P ops K st (.two i j t u) sa h n=match ops[i]?,ops[j]? with|some o,some q=>IR E P ops K t sa h n o/\IR E P ops K u sa h n q|_,_=>False:=by
 rw[Hd];simp only[HJ,L4]<;>cases ops[i]? <;> cases ops[j]? <;> rfl
variable(v:Og)(k:Nat)
@[go_sem] theorem fJ:L8 E P ops K st (.three i j k t u v) sa h n=match ops[i]?,ops[j]?,ops[k]? with|some o,some q,some r=>IR E P ops K t sa h n o/\IR E P ops K u sa h n q/\IR E P ops K v sa h n r|_,_,_=>False:=by
 rw[Hd];simp only[HJ,L4]<;>cases ops[i]? <;> cases ops[j]? <;> cases ops[k]? <;> rfl
end
attribute [go_sem] IR
theorem Il{E:BU}{N id:Nat}{a:Array Oper}{Q:Ca}{sa:SA}{h:Hp}{n:Nat}(t:Og)(c:E.ro=none)(d:Region.noSelect a=true)(b:HI a (Array.replicate a.size false) t=true)
 (H:L8 E prog a (Q .normal) true t sa h n):SP E N (.region id a true) Q sa h n:=
 Zc c follows t d b (by rw[<-Hd];exact H)
set_option maxRecDepth 10000
set_option maxHeartbeats 4000000
theorem TL(l:List AD)(c:l.length<=1048576)(H:∀(i:Nat)(h:i<l.length),NC 156 [(l[i]).h] (SU λa ob=>EE l[i] a ob)):NC 96 [AI l] (IV l):=by
 intro h n;refine gq func96 rfl λho=>?_;simp[go_sem];refine wM (mO l c 156 H) ?_;rintro v h1 n1 b;simp[go_sem];exact .inl b
theorem Dm.old{_L:SV->DN->Prop}{h:Hp}{n:Nat}{_v:SV}{h':Hp}{n':Nat}{ob:DN}(a:∀k∈AK ob,n<=k/\k<n')(hh:∀k y,By ob h k=some y->h' k=some y){j:Nat}{y:A7}(hj:j<n)(e:h j=some y):h' j=some y:=
 hh j y (by rw[Aw λg=>by have:=(a j g).1;omega];exact e)
theorem JG.look{z len:Nat}{L:List SV->DN->Prop}{v:SV}{ob:DN}(H:JG z len L v ob):(∃z' full,v=.x z' [] full)\/∃j full,v=.sl j 0 z len full:=by
 rcases H with⟨_,h,_⟩|⟨j,full,_,_,h,_⟩
 exact .inl h;exact .inr ⟨j,full,h⟩
theorem Mr{h X h1:Hp}{n m p n1:Nat}{ob:DN}{f:Option A7}(a:∀j y,h j=some y->j<n)(hp:n<=p)(hpm:p<m)(b:∀j y,j≠p->h j=some y->X j=some y)(c:∀k∈AK ob,m<=k/\k<n1)(hh:∀k y,By ob X k=some y->h1 k=some y):∀k y,By ob h k=some y->h_ h1 p f k=some y:=λk y e=>by
 by_cases hk:k∈AK ob;have:=c k hk;rw[AB _ _ nN];refine hh k y ?_;simp only[By]at e ⊢;cases d:ob.lookup k with
 | none=>exact absurd hk (Cg.1 d)
 | some z=>rw[d]at e;exact e
 rw[Aw hk]at e;have:=a k y e;rw[AB _ _ nN];refine hh k y ?_;rw[Aw hk];exact b k y nN e
def Y3:Tr:=.pure 0<|.pure 1<|.pure 2<|.pure 3<|.pure 5<|.pure 6<|.one 4<|.one 7<|.one 8<|.one 9 .nil
theorem aW(x:AG)(p:x.H.D)(H:NC 96 [AI x.W] (IV x.W)):NC 205 [x.h] (SU λd ob=>FM x d ob):=by
 intro h n;refine E8 func205 rfl λi=>?_;have f:=i.lt;refine A6 1 [(1,.q ([AA x.id]++x.H.j++[AI x.W])),(2,.ptr (n+1) 0)] (h_ h (n+1) (some (.cells [AA 0,.x 0 [] true,AA 0,AA 0,.x 0 [] true,.x 0 [] true,.x 0 [] true]))) (λm=>n+2=m) ?_ (λm hm=>?_);rw[vB];simp[go_sem,Or,AF.j];refine⟨Ak (by rw[AB _ _ nN];exact i.none (IO n)) (by simp[h_]),λj y=>?_⟩;have:=i j y;simp only[h_];grind;subst hm;have o:(h_ h (n+1) (some (.cells [AA 0,.x 0 [] true,AA 0,AA 0,.x 0 [] true,.x 0 [] true,.x 0 [] true]))) (n+1)=some (.cells [AA 0,.x 0 [] true,AA 0,AA 0,.x 0 [] true,.x 0 [] true,.x 0 [] true]):=AC _ _ _;have b:∀j y,j≠n+1->h j=some y->(h_ h (n+1) (some (.cells [AA 0,.x 0 [] true,AA 0,AA 0,.x 0 [] true,.x 0 [] true,.x 0 [] true]))) j=some y:=λj y h1 e=>by rw[AB _ _ h1];exact e
 generalize h_ h (n+1) (some (.cells [AA 0,.x 0 [] true,AA 0,AA 0,.x 0 [] true,.x 0 [] true,.x 0 [] true]))=X at o b ⊢;refine LN (CJ Y3 rfl nQ nQ ?_);simp[go_sem,Y3,AF.j];refine qO (by simpa[AF.h,AF.j]using NS x.H p) ?_;simp[go_sem];refine wM H ?_;rintro v h1 n1 ⟨hn1,ob,l,g,a,hh⟩;have c:=Dm.old (_L:=IV x.W) (_v:=v) a hh (show n+1<n+2 by omega) o;have fin:Cb n (h_ h1 (n+1) (some (.cells [AA x.id,AU x.H.Q,AA x.H.I,AA x.H.move,Aa x.H.Y,AN x.H.Z,v]))) n1 (.agg [AA x.id,AU x.H.Q,AA x.H.I,AA x.H.move,Aa x.H.Y,AN x.H.Z,v]) (Dm (SU λd ob=>FM x d ob) h n):=
  .inl ⟨by omega,ob,⟨_,rfl,by cases x;rw[FM];exact⟨v,rfl,l⟩⟩,g,λk hk=>by have:=a k hk;omega,Mr f nN nN b a hh⟩
 rcases l.look with⟨z',full,rfl⟩|⟨j,full,rfl⟩
 simp[go_sem,c];refine AJ ?_;simp[go_sem,AC];exact fin;simp[go_sem,c];refine AJ ?_;simp[go_sem,AC];exact fin
def Y2:Tr:=.pure 0<|.pure 1<|.pure 3<|.pure 4<|.one 2<|.one 5<|.one 6<|.one 7 .nil
theorem aV(x:AM)(p:x.H.D)(H:NC 204 [Bf x.cells,.fn (.func 205) [] []] (JG 7 x.cells.length λb ob=>BP x.cells b ob)):NC 158 [x.h] (SU λb ob=>HP x b ob):=by
 intro h n;refine E8 func158 rfl λi=>?_;have f:=i.lt;refine A6 1 [(1,.q (x.H.j++[Bf x.cells])),(2,.ptr (n+1) 0)] (h_ h (n+1) (some (.cells [.x 0 [] true,AA 0,AA 0,.x 0 [] true,.x 0 [] true,.x 0 [] true]))) (λm=>n+2=m) ?_ (λm hm=>?_);rw[qR];simp[go_sem,Or,AF.j];refine⟨Ak (by rw[AB _ _ nN];exact i.none (IO n)) (by simp[h_]),λj y=>?_⟩;have:=i j y;simp only[h_];grind;subst hm;have o:(h_ h (n+1) (some (.cells [.x 0 [] true,AA 0,AA 0,.x 0 [] true,.x 0 [] true,.x 0 [] true]))) (n+1)=some (.cells [.x 0 [] true,AA 0,AA 0,.x 0 [] true,.x 0 [] true,.x 0 [] true]):=AC _ _ _;have c:∀j y,j≠n+1->h j=some y->(h_ h (n+1) (some (.cells [.x 0 [] true,AA 0,AA 0,.x 0 [] true,.x 0 [] true,.x 0 [] true]))) j=some y:=λj y h1 e=>by rw[AB _ _ h1];exact e
 generalize h_ h (n+1) (some (.cells [.x 0 [] true,AA 0,AA 0,.x 0 [] true,.x 0 [] true,.x 0 [] true]))=X at o c ⊢;refine LN (CJ Y2 rfl nQ nQ ?_);simp[go_sem,Y2,AF.j];refine qO (by simpa[AF.h,AF.j]using NS x.H p) ?_;simp[go_sem];refine wM H ?_;rintro v h1 n1 ⟨hn1,ob,l,g,a,hh⟩;have d:=Dm.old (_L:=IV []) (_v:=v) a hh (show n+1<n+2 by omega) o;have fin:Cb n (h_ h1 (n+1) (some (.cells [AU x.H.Q,AA x.H.I,AA x.H.move,Aa x.H.Y,AN x.H.Z,v]))) n1 (.agg [AU x.H.Q,AA x.H.I,AA x.H.move,Aa x.H.Y,AN x.H.Z,v]) (Dm (SU λb ob=>HP x b ob) h n):=
  .inl ⟨by omega,ob,⟨_,rfl,by cases x;rw[HP];exact⟨v,rfl,l⟩⟩,g,λk hk=>by have:=a k hk;omega,Mr f nN nN c a hh⟩
 rcases l.look with⟨z',full,rfl⟩|⟨j,full,rfl⟩
 simp[go_sem,d];refine AJ ?_;simp[go_sem,AC];exact fin;simp[go_sem,d];refine AJ ?_;simp[go_sem,AC];exact fin
def Y1:Og:=(.pure 0 (.pure 3 (.pure 6 (.three 1 4 7 (.three 2 4 7 (.two 4 7 (.two 5 7 (.one 7 (.pure 9 (.one 8 (.one 10 (.pure 11 (.one 12 (.pure 13 (.one 14 .nil)))))))) (.pure 9 (.one 5 (.one 8 (.one 10 (.pure 11 (.one 12 (.pure 13 (.one 14 .nil))))))))) (.one 4 (.pure 9 (.one 5 (.one 8 (.one 10 (.pure 11 (.one 12 (.pure 13 (.one 14 .nil)))))))))) (.two 2 7 (.two 5 7 (.one 7 (.pure 9 (.one 8 (.one 10 (.pure 11 (.one 12 (.pure 13 (.one 14 .nil)))))))) (.pure 9 (.one 5 (.one 8 (.one 10 (.pure 11 (.one 12 (.pure 13 (.one 14 .nil))))))))) (.one 2 (.pure 9 (.one 5 (.one 8 (.one 10 (.pure 11 (.one 12 (.pure 13 (.one 14 .nil)))))))))) (.two 2 4 (.one 4 (.pure 9 (.one 5 (.one 8 (.one 10 (.pure 11 (.one 12 (.pure 13 (.one 14 .nil))))))))) (.one 2 (.pure 9 (.one 5 (.one 8 (.one 10 (.pure 11 (.one 12 (.pure 13 (.one 14 .nil))))))))))) (.two 1 7 (.two 2 7 (.two 5 7 (.one 7 (.pure 9 (.one 8 (.one 10 (.pure 11 (.one 12 (.pure 13 (.one 14 .nil)))))))) (.pure 9 (.one 5 (.one 8 (.one 10 (.pure 11 (.one 12 (.pure 13 (.one 14 .nil))))))))) (.one 2 (.pure 9 (.one 5 (.one 8 (.one 10 (.pure 11 (.one 12 (.pure 13 (.one 14 .nil)))))))))) (.one 1 (.one 2 (.pure 9 (.one 5 (.one 8 (.one 10 (.pure 11 (.one 12 (.pure 13 (.one 14 .nil))))))))))) (.two 1 4 (.two 2 4 (.one 4 (.pure 9 (.one 5 (.one 8 (.one 10 (.pure 11 (.one 12 (.pure 13 (.one 14 .nil))))))))) (.one 2 (.pure 9 (.one 5 (.one 8 (.one 10 (.pure 11 (.one 12 (.pure 13 (.one 14 .nil)))))))))) (.one 1 (.one 2 (.pure 9 (.one 5 (.one 8 (.one 10 (.pure 11 (.one 12 (.pure 13 (.one 14 .nil)))))))))))))))
theorem JG.st{z len:Nat}{L:List SV->DN->Prop}{v:SV}{ob:DN}(H:JG z len L v ob):v.B=true/\v.cells=[v]:=by
 rcases H.look with⟨z',full,rfl⟩|⟨j,full,rfl⟩<;>exact⟨rfl,rfl⟩
theorem aU(x:AD)(hs:x.H.D)(V:NC 96 [AI x.W] (IV x.W))(H2:NC 157 [Ap x.R,.fn (.func 158) [] []] (JG 6 x.R.length λr ob=>Bw x.R r ob)):NC 156 [x.h] (SU λr ob=>EE x r ob):=by
 intro h n;refine E8 func156 rfl λho=>?_;have t:=ho.lt;refine A6 0 [(1,.ptr n 0),(2,.ptr (n+1) 0)] (h_ (h_ h n (some (.cells [AA x.l,AA x.code,AA x.id,.str x.J,AU x.H.Q,AA x.H.I,AA x.H.move,Aa x.H.Y,AN x.H.Z,AI x.W,Ap x.R]))) (n+1) (some (.cells [AA 0,AA 0,AA 0,.str .empty,.x 0 [] true,AA 0,AA 0,.x 0 [] true,.x 0 [] true,.x 0 [] true,.x 0 [] true]))) (λm=>n+2=m) ?_ (λm hm=>?_);rw[qz];simp[go_sem,Or,SV.cells];subst hm;obtain⟨X,A⟩:∃X:Hp,X=h_ (h_ h n (some (.cells [AA x.l,AA x.code,AA x.id,.str x.J,AU x.H.Q,AA x.H.I,AA x.H.move,Aa x.H.Y,AN x.H.Z,AI x.W,Ap x.R]))) (n+1) (some (.cells [AA 0,AA 0,AA 0,.str .empty,.x 0 [] true,AA 0,AA 0,.x 0 [] true,.x 0 [] true,.x 0 [] true,.x 0 [] true])):=⟨_,rfl⟩
 have P:X n=some (.cells [AA x.l,AA x.code,AA x.id,.str x.J,AU x.H.Q,AA x.H.I,AA x.H.move,Aa x.H.Y,AN x.H.Z,AI x.W,Ap x.R]):=by rw[A,AB _ _ nN,AC]
 have hy:X (n+1)=some (.cells [AA 0,AA 0,AA 0,.str .empty,.x 0 [] true,AA 0,AA 0,.x 0 [] true,.x 0 [] true,.x 0 [] true,.x 0 [] true]):=by rw[A,AC]
 have K:∀j y,j<n->h j=some y->X j=some y:=λj y h1 e=>by rw[A,AB _ _ nN,AB _ _ nN];exact e
 rw[<-A];clear A;have M:n≠n+1:=by omega
 refine LN (Il Y1 rfl nQ nQ ?_);simp[go_sem,Y1,P]
 repeat' (with_reducible refine And.intro ?_ ?_)
 all_goals
  refine qO (by simpa[AF.h,AF.j]using NS x.H hs) ?_;simp[go_sem,P]
 all_goals repeat' (with_reducible refine And.intro ?_ ?_)
 all_goals
  refine wM V ?_;rintro q h1 n1 ⟨hn1,f,u,E,c,o⟩;have G:=Dm.old (_L:=IV []) (_v:=q) c o (show n<n+2 by omega) P;have N:=Dm.old (_L:=IV []) (_v:=q) c o (show n+1<n+2 by omega) hy;simp[go_sem,G]
 all_goals repeat' (with_reducible refine And.intro ?_ ?_)
 all_goals
  refine wM H2 ?_;rintro p h2 n2 ⟨hn2,i,w,F,d,g⟩;have S:=Dm.old (_L:=IV []) (_v:=p) d g (show n<n1 by omega) G;have O:=Dm.old (_L:=IV []) (_v:=p) d g (show n+1<n1 by omega) N;have fin:Cb n (h_ (h_ h2 n (some (.cells [AA x.l,AA x.code,AA x.id,.str x.J,AU x.H.Q,AA x.H.I,AA x.H.move,Aa x.H.Y,AN x.H.Z,q,p]))) (n+1) (some (.cells [AA x.l,AA x.code,AA x.id,.str x.J,AU x.H.Q,AA x.H.I,AA x.H.move,Aa x.H.Y,AN x.H.Z,q,p]))) n2 (.agg [AA x.l,AA x.code,AA x.id,.str x.J,AU x.H.Q,AA x.H.I,AA x.H.move,Aa x.H.Y,AN x.H.Z,q,p]) (Dm (SU λr ob=>EE x r ob) h n):=by
   refine .inl ⟨by omega,f++i,⟨_,rfl,by cases x;rw[EE];exact⟨q,f,p,i,rfl,rfl,u,w⟩⟩,?_,λk hk=>?_,λk y e=>?_⟩;rw[AK,qc,qr];exact⟨E,F,λa ha b hb e=>by have:=(c a ha).2;have:=(d b hb).1;omega⟩;rw[AK,qc,qf]at hk;rcases hk with hk|hk;have:=c k hk;omega;have:=d k hk;omega;have C:k≠n/\k≠n+1:=by
    by_cases hk:k∈AK (f++i);rw[AK,qc,qf]at hk;rcases hk with hk|hk;have:=c k hk;omega;have:=d k hk;omega;rw[Aw hk]at e;have:=t k y e;omega
   rw[AB _ _ C.2,AB _ _ C.1];rw[It]at e;by_cases T:k∈AK f;have e3:f.lookup k=some y:=by
    simp only[By]at e;cases s:f.lookup k with
    | none=>exact absurd T (Cg.1 s)
    | some z=>rw[s]at e;exact e
   exact Dm.old (_L:=IV []) (_v:=p) d g (c k T).2 (o k y (by simp only[By,e3]));rw[Aw T]at e;by_cases U:k∈AK i;refine g k y ?_;simp only[By]at e ⊢;cases s:i.lookup k with
   | none=>exact absurd U (Cg.1 s)
   | some z=>rw[s]at e;exact e
   rw[Aw U]at e;have:=t k y e;exact Dm.old (_L:=IV []) (_v:=p) d g nN (Dm.old (_L:=IV []) (_v:=q) c o nN (K k y this e))
  obtain⟨s1,s2⟩:=u.st;obtain⟨s3,s4⟩:=w.st;unfold SV.B at s1 s3;unfold SV.cells at s2 s4;simp[go_sem,S,s1,s2,s3,s4,AC,AZ];refine AJ ?_;simp[go_sem,AC,AB,O];exact fin
mutual
theorem mP:∀x:AD,x.D->NC 156 [x.h] (SU λa ob=>EE x a ob)
 | .mk k c i t hd f r,hs=>by
  rw[AD.D]at hs;exact aU (.mk k c i t hd f r) hs.2.1 (TL f hs.2.2.1 (Ua f hs.2.2.2.2.1)) (mQ r hs.2.2.2.1 158 (bl r hs.2.2.2.2.2))
theorem Ua:∀l:List AD,AD.G l->∀(i:Nat)(h:i<l.length),NC 156 [(l[i]).h] (SU λa ob=>EE l[i] a ob)
 | [],_,i,h=>by simp at h
 | x::l,hs,0,_=>by rw[AD.G]at hs;exact mP x hs.1
 | x::l,hs,i+1,h=>by rw[AD.G]at hs;exact Ua l hs.2 i (by simpa using h)
theorem mR:∀x:AM,x.D->NC 158 [x.h] (SU λa ob=>HP x a ob)
 | .mk hd c,hs=>by
  rw[AM.D]at hs;exact aV (.mk hd c) hs.1 (mT c hs.2.1 205 (bp c hs.2.2))
theorem bl:∀l:List AM,AM.G l->∀(i:Nat)(h:i<l.length),NC 158 [(l[i]).h] (SU λa ob=>HP l[i] a ob)
 | [],_,i,h=>by simp at h
 | x::l,hs,0,_=>by rw[AM.G]at hs;exact mR x hs.1
 | x::l,hs,i+1,h=>by rw[AM.G]at hs;exact bl l hs.2 i (by simpa using h)
theorem mU:∀x:AG,x.D->NC 205 [x.h] (SU λa ob=>FM x a ob)
 | .mk i hd f,hs=>by
  rw[AG.D]at hs;exact aW (.mk i hd f) hs.1 (TL f hs.2.1 (Ua f hs.2.2))
theorem bp:∀l:List AG,AG.G l->∀(i:Nat)(h:i<l.length),NC 205 [(l[i]).h] (SU λa ob=>FM l[i] a ob)
 | [],_,i,h=>by simp at h
 | x::l,hs,0,_=>by rw[AG.G]at hs;exact mU x hs.1
 | x::l,hs,i+1,h=>by rw[AG.G]at hs;exact bp l hs.2 i (by simpa using h)
end
theorem n96(l:List AD)(a:l.length<=1048576)(b:AD.G l):NC 96 [AI l] (IV l):=TL l a (Ua l b)
def RnQ(l:List AD)(c:Int)(v:SV)(ob:DN)(q:Nat)(H:Hp)(n:Nat)(r:SV)(h':Hp)(n':Nat):Prop:=
 r=.tup []/\n'=n/\∃ob',AK ob'=AK ob/\IV (Cz c l).1 v ob'/\BL ob' h'/\h' q=some (.cells [AA (Cz c l).2])/\∀k,k∉AK ob->k≠q->h' k=H k
def ZH(l:List AD):Prop:=∀(c:Int)(v:SV)(ob:DN)(q:Nat)(H:Hp)(n:Nat),IV l v ob->BL ob H->(AK ob).Nodup->q∉AK ob->H q=some (.cells [AA c])->0<=c->(Cz c l).2<=1099511627776->BF prog 132 [v,.ptr q 0] H n (RnQ l c v ob q H n)
structure ZY where
 i:Nat
 cA:List SV
 cD:List SV
 oA:DN
 oD:DN
 hh:Hp
def bG(l:List AD)(c:Int)(j:Nat)(ks:List Nat)(q:Nat)(H:Hp)(s:ZY):Prop:=
 s.i<=l.length/\BQ (Cz c (l.take s.i)).1 s.cA s.oA/\BQ (l.drop s.i) s.cD s.oD/\AK (s.oA++s.oD)=ks/\BL ((j,.cells (s.cA++s.cD))::(s.oA++s.oD)) s.hh/\s.hh q=some (.cells [AA (Cz c (l.take s.i)).2])/\∀k,k∉j::ks->k≠q->s.hh k=H k
def VB(l:List AM)(c:Int)(j:Nat)(ks:List Nat)(q:Nat)(H:Hp)(s:ZY):Prop:=
 s.i<=l.length/\Bw (Dh c (l.take s.i)).1 s.cA s.oA/\Bw (l.drop s.i) s.cD s.oD/\AK (s.oA++s.oD)=ks/\BL ((j,.cells (s.cA++s.cD))::(s.oA++s.oD)) s.hh/\s.hh q=some (.cells [AA (Dh c (l.take s.i)).2])/\∀k,k∉j::ks->k≠q->s.hh k=H k
def WC(l:List AG)(c:Int)(j:Nat)(ks:List Nat)(q:Nat)(H:Hp)(s:ZY):Prop:=
 s.i<=l.length/\BP (Dg c (l.take s.i)).1 s.cA s.oA/\BP (l.drop s.i) s.cD s.oD/\AK (s.oA++s.oD)=ks/\BL ((j,.cells (s.cA++s.cD))::(s.oA++s.oD)) s.hh/\s.hh q=some (.cells [AA (Dg c (l.take s.i)).2])/\∀k,k∉j::ks->k≠q->s.hh k=H k
theorem Ad(a b:DN):AK (a++b)=AK a++AK b:=qc
theorem bG.next{l:List AD}{c ci:Int}{j:Nat}{ks:List Nat}{q:Nat}{H:Hp}{i:Nat}{x:AD}{cA c1' c2:List SV}{oA o1 o1' o2:DN}{hh h':Hp}(hlt:i<l.length)(htk:Cz c (l.take (i+1))=((Cz c (l.take i)).1++[(Ft ci x).1],(Ft ci x).2))
 (hA:BQ (Cz c (l.take i)).1 cA oA) (hD:BQ (l.drop (i+1)) c2 o2) (hks:AK (oA++(o1++o2))=ks) (hob:BL (oA++(o1++o2)) hh) (hoff:∀k,k∉j::ks->k≠q->hh k=H k) (hnd:ks.Nodup) (hjk:j∉ks) (hqk:q∉ks)
 (hX:EE (Ft ci x).1 c1' o1') (hk1:AK o1'=AK o1) (ho1:BL o1' h') (hj':h' j=some (.cells (cA++(c1'++c2)))) (hq':h' q=some (.cells [AA (Ft ci x).2])) (hoff':∀k,k≠j->k∉AK o1->k≠q->h' k=hh k):
 bG l c j ks q H ⟨i+1,cA++c1',c2,oA++o1',o2,h'⟩:=by
 have hnd2:=hnd;rw[<-hks,Ad,Ad,qr]at hnd2;obtain⟨n1,n2,n3⟩:=hnd2;rw[qr]at n2;obtain⟨n4,n5,n6⟩:=n2;obtain⟨hoA,hob2⟩:=wE.1 hob;obtain⟨_,hoD⟩:=wE.1 hob2;have inA:∀k∈AK oA,k∈ks:=λk hk=>by rw[<-hks,Ad];exact qx _ hk
 have in1:∀k∈AK o1,k∈ks:=λk hk=>by rw[<-hks,Ad,Ad];exact qt _ (qx _ hk)
 have inD:∀k∈AK o2,k∈ks:=λk hk=>by rw[<-hks,Ad,Ad];exact qt _ (qt _ hk)
 refine⟨hlt,?_,hD,?_,?_,by simp only[htk];exact hq',λk h1 h2=>?_⟩;simp only[htk];rw[HN];exact⟨cA,c1',oA,o1',rfl,rfl,hA,by rw[BQ];exact⟨c1',[],o1',[],by simp,by simp,hX,by rw[BQ];exact⟨rfl,rfl⟩⟩⟩;simp only[Ad,hk1]at hks ⊢;rw[<-hks];simp;intro p hp;dsimp only at hp ⊢;rcases qd.1 hp with rfl|hp;show h' j=_;rw[hj',qv];rcases qf.1 hp with hp|hp;rcases qf.1 hp with hp|hp;have hk:p.1∈AK oA:=qb.2 ⟨p,hp,rfl⟩;rw[hoff' p.1 (λe=>hjk (e▸inA _ hk)) (λg=>n3 _ hk _ (qx _ g) rfl) (λe=>hqk (e▸inA _ hk))];exact hoA p hp;exact ho1 p hp;have hk:p.1∈AK o2:=qb.2 ⟨p,hp,rfl⟩;rw[hoff' p.1 (λe=>hjk (e▸inD _ hk)) (λg=>n6 _ g _ hk rfl) (λe=>hqk (e▸inD _ hk))];exact hoD p hp;dsimp only;rw[hoff' k (λe=>h1 (by simp[e])) (λg=>h1 (qT _ (in1 k g))) h2];exact hoff k h1 h2
theorem VB.next{l:List AM}{c ci:Int}{j:Nat}{ks:List Nat}{q:Nat}{H:Hp}{i:Nat}{x:AM}{cA c1' c2:List SV}{oA o1 o1' o2:DN}{hh h':Hp}(hlt:i<l.length)(htk:Dh c (l.take (i+1))=((Dh c (l.take i)).1++[(Ii ci x).1],(Ii ci x).2))
 (hA:Bw (Dh c (l.take i)).1 cA oA) (hD:Bw (l.drop (i+1)) c2 o2) (hks:AK (oA++(o1++o2))=ks) (hob:BL (oA++(o1++o2)) hh) (hoff:∀k,k∉j::ks->k≠q->hh k=H k) (hnd:ks.Nodup) (hjk:j∉ks) (hqk:q∉ks)
 (hX:HP (Ii ci x).1 c1' o1') (hk1:AK o1'=AK o1) (ho1:BL o1' h') (hj':h' j=some (.cells (cA++(c1'++c2)))) (hq':h' q=some (.cells [AA (Ii ci x).2])) (hoff':∀k,k≠j->k∉AK o1->k≠q->h' k=hh k):
 VB l c j ks q H ⟨i+1,cA++c1',c2,oA++o1',o2,h'⟩:=by
 have hnd2:=hnd;rw[<-hks,Ad,Ad,qr]at hnd2;obtain⟨n1,n2,n3⟩:=hnd2;rw[qr]at n2;obtain⟨n4,n5,n6⟩:=n2;obtain⟨hoA,hob2⟩:=wE.1 hob;obtain⟨_,hoD⟩:=wE.1 hob2;have inA:∀k∈AK oA,k∈ks:=λk hk=>by rw[<-hks,Ad];exact qx _ hk
 have in1:∀k∈AK o1,k∈ks:=λk hk=>by rw[<-hks,Ad,Ad];exact qt _ (qx _ hk)
 have inD:∀k∈AK o2,k∈ks:=λk hk=>by rw[<-hks,Ad,Ad];exact qt _ (qt _ hk)
 refine⟨hlt,?_,hD,?_,?_,by simp only[htk];exact hq',λk h1 h2=>?_⟩;simp only[htk];rw[ID];exact⟨cA,c1',oA,o1',rfl,rfl,hA,by rw[Bw];exact⟨c1',[],o1',[],by simp,by simp,hX,by rw[Bw];exact⟨rfl,rfl⟩⟩⟩;simp only[Ad,hk1]at hks ⊢;rw[<-hks];simp;intro p hp;dsimp only at hp ⊢;rcases qd.1 hp with rfl|hp;show h' j=_;rw[hj',qv];rcases qf.1 hp with hp|hp;rcases qf.1 hp with hp|hp;have hk:p.1∈AK oA:=qb.2 ⟨p,hp,rfl⟩;rw[hoff' p.1 (λe=>hjk (e▸inA _ hk)) (λg=>n3 _ hk _ (qx _ g) rfl) (λe=>hqk (e▸inA _ hk))];exact hoA p hp;exact ho1 p hp;have hk:p.1∈AK o2:=qb.2 ⟨p,hp,rfl⟩;rw[hoff' p.1 (λe=>hjk (e▸inD _ hk)) (λg=>n6 _ g _ hk rfl) (λe=>hqk (e▸inD _ hk))];exact hoD p hp;dsimp only;rw[hoff' k (λe=>h1 (by simp[e])) (λg=>h1 (qT _ (in1 k g))) h2];exact hoff k h1 h2
theorem WC.next{l:List AG}{c ci:Int}{j:Nat}{ks:List Nat}{q:Nat}{H:Hp}{i:Nat}{x:AG}{cA c1' c2:List SV}{oA o1 o1' o2:DN}{hh h':Hp}(hlt:i<l.length)(htk:Dg c (l.take (i+1))=((Dg c (l.take i)).1++[(Ih ci x).1],(Ih ci x).2))
 (hA:BP (Dg c (l.take i)).1 cA oA) (hD:BP (l.drop (i+1)) c2 o2) (hks:AK (oA++(o1++o2))=ks) (hob:BL (oA++(o1++o2)) hh) (hoff:∀k,k∉j::ks->k≠q->hh k=H k) (hnd:ks.Nodup) (hjk:j∉ks) (hqk:q∉ks)
 (hX:FM (Ih ci x).1 c1' o1') (hk1:AK o1'=AK o1) (ho1:BL o1' h') (hj':h' j=some (.cells (cA++(c1'++c2)))) (hq':h' q=some (.cells [AA (Ih ci x).2])) (hoff':∀k,k≠j->k∉AK o1->k≠q->h' k=hh k):
 WC l c j ks q H ⟨i+1,cA++c1',c2,oA++o1',o2,h'⟩:=by
 have hnd2:=hnd;rw[<-hks,Ad,Ad,qr]at hnd2;obtain⟨n1,n2,n3⟩:=hnd2;rw[qr]at n2;obtain⟨n4,n5,n6⟩:=n2;obtain⟨hoA,hob2⟩:=wE.1 hob;obtain⟨_,hoD⟩:=wE.1 hob2;have inA:∀k∈AK oA,k∈ks:=λk hk=>by rw[<-hks,Ad];exact qx _ hk
 have in1:∀k∈AK o1,k∈ks:=λk hk=>by rw[<-hks,Ad,Ad];exact qt _ (qx _ hk)
 have inD:∀k∈AK o2,k∈ks:=λk hk=>by rw[<-hks,Ad,Ad];exact qt _ (qt _ hk)
 refine⟨hlt,?_,hD,?_,?_,by simp only[htk];exact hq',λk h1 h2=>?_⟩;simp only[htk];rw[HM];exact⟨cA,c1',oA,o1',rfl,rfl,hA,by rw[BP];exact⟨c1',[],o1',[],by simp,by simp,hX,by rw[BP];exact⟨rfl,rfl⟩⟩⟩;simp only[Ad,hk1]at hks ⊢;rw[<-hks];simp;intro p hp;dsimp only at hp ⊢;rcases qd.1 hp with rfl|hp;show h' j=_;rw[hj',qv];rcases qf.1 hp with hp|hp;rcases qf.1 hp with hp|hp;have hk:p.1∈AK oA:=qb.2 ⟨p,hp,rfl⟩;rw[hoff' p.1 (λe=>hjk (e▸inA _ hk)) (λg=>n3 _ hk _ (qx _ g) rfl) (λe=>hqk (e▸inA _ hk))];exact hoA p hp;exact ho1 p hp;have hk:p.1∈AK o2:=qb.2 ⟨p,hp,rfl⟩;rw[hoff' p.1 (λe=>hjk (e▸inD _ hk)) (λg=>n6 _ g _ hk rfl) (λe=>hqk (e▸inD _ hk))];exact hoD p hp;dsimp only;rw[hoff' k (λe=>h1 (by simp[e])) (λg=>h1 (qT _ (in1 k g))) h2];exact hoff k h1 h2
theorem Pr(l:List AD)(hl:l.length<=1048576)(hr:∀x∈l,x.R.length<=1048576/\∀r∈x.R,r.cells.length<=1048576)(ih:∀x∈l,ZH x.W/\∀r∈x.R,∀e∈r.cells,ZH e.W):ZH l:=by
 intro c v ob q H n hL ho hnd hq hHq hc0 hcb;refine goS func132 rfl nQ nQ nP λAr=>?_;rcases hL with⟨hl0,⟨z',full,rfl⟩,rfl⟩|⟨j,full,cs,sub,rfl,rfl,hcs⟩
 have:l=[]:=vg.1 hl0;subst this;refine Ai 0 [(9,AA 0),(10,AA 0)] H n ?_ (λm hm=>?_);simp[go_sem,Or];subst hm;refine AP (As 0 (α:=Unit) (λ_=>[(9,AA 0),(10,AA 0)]) (λ_=>H) (λ_ m=>m=n) (λ_=>0) () rfl (by simp[look,Or]) AE ?_);rintro _ m rfl;refine AJ ?_;simp[go_sem];exact .inl ⟨rfl,rfl,[],rfl,.inl ⟨by rw[Cz];rfl,⟨_,_,rfl⟩,rfl⟩,(λp hp=>by cases hp),(by rw[Cz];exact hHq),λ_ _ _=>rfl⟩
 . obtain⟨hj0,ho0⟩:=wE (a:=[(j,.cells cs)]) (b:=sub) |>.1 ho;have hjq:j≠q:=by rintro rfl;exact hq nO
   obtain⟨hjs,hns⟩:j∉AK sub/\(AK sub).Nodup:=qY.1 hnd;have hqs:q∉AK sub:=λg=>hq (qT _ g);have ltO:∀k x,H k=some x->k<n:=λk x hx=>(Ar k x hx).1;have ltq:q<n:=ltO _ _ hHq;have ltj:j<n:=ltO _ _ (ho (j,.cells cs) nO);have lts:∀k∈AK sub,k<n:=λk hk=>by
    obtain⟨p,hp,rfl⟩:=qb.1 hk;exact ltO _ _ (ho p (qT _ hp))
   refine Ai 0 [(0,.sl j 0 11 l.length full),(1,.ptr q 0),(9,AA l.length),(10,AA 0)] H n ?_ (λm hm=>?_);simp[go_sem,Or];subst hm;refine AP (As 0 (α:=ZY) (λs=>[(0,.sl j 0 11 l.length full),(1,.ptr q 0),(9,AA l.length),(10,AA s.i)]) (λs=>s.hh)
    (λs m=>m=n/\bG l c j (AK sub) q H s) (λs=>l.length-s.i) ⟨0,[],cs,[],sub,H⟩ ⟨rfl,qi _,by rw[vt,Cz,BQ];exact⟨rfl,rfl⟩,hcs,rfl,ho,by rw[vt,Cz];exact hHq,λ_ _ _=>rfl⟩ ?_ AE ?_)
   simp[go_sem,look,Or];rintro⟨i,cA,cD,oA,oD,hh⟩ m ⟨rfl,hi,hA,hD,hks,hob,hhq,hoff⟩;dsimp only at hi hA hD hks hob hhq hoff ⊢;by_cases hlt:i<l.length
   · have w1 := wS i nN
     obtain⟨x,hx⟩:∃x,l[i]=x:=⟨_,rfl⟩
     have hxm:x∈l:=hx▸qp hlt;obtain⟨ihf,ihr⟩:=ih x hxm;obtain⟨hr1,hr2⟩:=hr x hxm;have htk:=YJ hlt hx c;have hle:=eB l (i+1) c;have hup:c<=(Cz c (l.take i)).2:=Lm _ _;have hcl:cA.length=i*11:=by rw[Fy _ _ _ hA,QG,va];congr 1;omega
     rw[qG hlt,hx,BQ]at hD;obtain⟨c1,c2,o1,o2,rfl,rfl,hX,hD⟩:=hD;generalize hci:(Cz c (l.take i)).2=ci at htk hup hhq;rw[htk]at hle;dsimp only at hle;refine Ai 0 [(0,.sl j 0 11 l.length full),(1,.ptr q 0),(9,AA l.length),(10,AA i),(11,.bool true)] hh m ?_ (λm' hm'=>?_);simp[go_sem,Or,hlt];subst hm';refine Ai 0 [(0,.sl j 0 11 l.length full),(1,.ptr q 0),(9,AA l.length),(10,AA i)] hh m ?_ (λm' hm'=>?_);simp[go_sem,Or];subst hm';refine AR 0 (α:=ZY) (λs=>[(0,.sl j 0 11 l.length full),(1,.ptr q 0),(9,AA l.length),(10,AA i)]) (λs=>s.hh) (λs m'=>m'=m/\s.i=i+1/\bG l c j (AK sub) q H s) (AP ?_) (λs m' hs=>?_)
     . cases x with
       | mk k co id t hd f r=>
        rw[EE]at hX;obtain⟨vf,p1,vr,p2,rfl,rfl,hF,hR⟩:=hX;simp only[AD.W,AD.R]at ihf ihr hr1 hr2;have hj:=hob (j,.cells (cA++([AA k,AA co,AA id,.str t]++hd.j++[vf,vr]++c2))) nO;refine Ai 0 [(0,.sl j 0 11 l.length full),(1,.ptr q 0),(9,AA l.length),(10,AA i),(4,AA i)] hh m ?_ (λm' hm'=>?_);simp[go_sem,Or];subst hm';refine Ai 0 [(0,.sl j 0 11 l.length full),(1,.ptr q 0),(9,AA l.length),(10,AA i),(4,AA i),(5,.ptr j (i*11))] hh m ?_ (λm' hm'=>?_);simp[go_sem,Or,hlt];subst hm';have hF5:[AA k,AA co,AA id,.str t]++hd.j++[vf,vr]++c2=AA k::AA co::AA id::.str t::AU hd.Q::AA hd.I::AA hd.move::Aa hd.Y::AN hd.Z::vf::vr::c2:=by simp[AF.j]
        rw[hF5]at hj;refine Ai 0 [(0,.sl j 0 11 l.length full),(1,.ptr q 0),(9,AA l.length),(10,AA i),(4,AA i),(5,.ptr j (i*11)),(19,AA k)] hh m ?_ (λm' hm'=>?_)
        . simp[go_sem,Or,hj,BW hcl,hcl,qw]
          done
        subst hm';refine AP ?_;have w2:IntKind.i64.wrap (ci+1)=ci+1:=D5 nN (by have:=YH (.mk k co id t hd f r) ci;omega);by_cases h6:k=6
        . subst h6;have hrI:Ft ci (.mk 6 co id t hd f r)=(.mk 6 co (ci+1) t hd (Cz (ci+1) f).1 r,(Cz (ci+1) f).2):=by rw[Ft,nS rfl]
          rw[hrI]at hle;dsimp only at hle;obtain⟨H2,hH2⟩:∃H2:Hp,H2=h_ (h_ hh q (some (.cells [AA (ci+1)]))) j (some (.cells (cA++AA 6::AA co::AA (ci+1)::.str t::AU hd.Q::AA hd.I::AA hd.move::Aa hd.Y::AN hd.Z::vf::vr::c2))):=⟨_,rfl⟩
          have e1:∀k,k≠j->k≠q->H2 k=hh k:=λk h1 h2=>by rw[hH2,AB _ _ h1,AB _ _ h2]
          have e2:H2 q=some (.cells [AA (ci+1)]):=by rw[hH2,AB _ _ hjq.symm,AC]
          have e3:H2 j=some (.cells (cA++AA 6::AA co::AA (ci+1)::.str t::AU hd.Q::AA hd.I::AA hd.move::Aa hd.Y::AN hd.Z::vf::vr::c2)):=by rw[hH2,AC]
          have hob0:BL (oA++((p1++p2)++o2)) hh:=λp hp=>hob p (qT _ hp);have in1:∀k∈AK p1,k∈AK sub:=λk hk=>by rw[<-hks];simp only[Ad,qf];exact .inr (.inl (.inl hk))
          have in2:∀k∈AK p2,k∈AK sub:=λk hk=>by rw[<-hks];simp only[Ad,qf];exact .inr (.inl (.inr hk))
          have n12:∀k∈AK p1,k∉AK p2:=λk h1 h2=>by
           have:=hns;rw[<-hks]at this;simp only[Ad]at this;have h3:=(qr.1 (qr.1 (qr.1 this).2.1).1).2.2;exact h3 k h1 k h2 rfl
          have np1:(AK p1).Nodup:=by
           have:=hns;rw[<-hks]at this;simp only[Ad]at this;exact(qr.1 (qr.1 (qr.1 this).2.1).1).1
          have hp1:BL p1 H2:=λp hp=>by
           have hk:p.1∈AK p1:=qb.2 ⟨p,hp,rfl⟩;rw[e1 p.1 (λe=>hjs (e▸in1 _ hk)) (λe=>hqs (e▸in1 _ hk))];exact hob0 p (by simp[hp])
          have hcall:=ihf (ci+1) vf p1 q H2 m hF hp1 np1 (λg=>hqs (in1 _ g)) e2 nN nN;rw[hH2]at hcall;refine AJ ?_;simp[go_sem,w2,hj,hhq,AC,AB _ _ hjq,B9 hcl,CG hcl,hcl,qw];refine qI hcall ?_;rintro r0 h' n' ⟨rfl,rfl,p1',hk1,hF',ho1,hq1,hoff1⟩;rw[<-hH2]at hoff1;simp[go_sem,Or];refine⟨⟨i+1,cA++(AA 6::AA co::AA (ci+1)::.str t::AU hd.Q::AA hd.I::AA hd.move::Aa hd.Y::AN hd.Z::[vf,vr]),c2,oA++(p1'++p2),o2,h'⟩,⟨rfl,bG.next (o1:=p1++p2) hlt htk hA hD hks hob0 hoff hns hjs hqs ?_ (by simp only[Ad,hk1]) ?_ ?_ ?_ ?_⟩,AE⟩;rw[hrI,EE];exact⟨vf,p1',vr,p2,by simp[AF.j],rfl,hF',hR⟩;refine wE.2 ⟨ho1,λp hp=>?_⟩;have hk:p.1∈AK p2:=qb.2 ⟨p,hp,rfl⟩;rw[hoff1 p.1 (λg=>n12 _ g hk) (λe=>hqs (e▸in2 _ hk)),e1 p.1 (λe=>hjs (e▸in2 _ hk)) (λe=>hqs (e▸in2 _ hk))];exact hob0 p (by simp[hp]);rw[hoff1 j (λg=>hjs (in1 _ g)) hjq,e3];simp;rw[hrI];exact hq1;intro k h1 h2 h3;rw[Ad,qf,not_or]at h2;rw[hoff1 k h2.1 h3,e1 k h1 h3]
        . have h6b:((k:Int)==6)=false:=by simp[h6]
          refine Ai 0 [(0,.sl j 0 11 l.length full),(1,.ptr q 0),(9,AA l.length),(10,AA i),(5,.ptr j (i*11)),(19,AA k),(20,.bool false)] hh m ?_ (λm' hm'=>?_);simp[go_sem,Or,h6b];subst hm';refine Av (b:=false) nP ?_;simp only[nR Bool.false_ne_true];refine Ai 0 [(0,.sl j 0 11 l.length full),(1,.ptr q 0),(9,AA l.length),(10,AA i),(5,.ptr j (i*11)),(39,.bool (k==7))] hh m ?_ (λm' hm'=>?_);simp[go_sem,Or];subst hm';have hob0:BL (oA++((p1++p2)++o2)) hh:=λp hp=>hob p (qT _ hp);have in1:∀k∈AK p1,k∈AK sub:=λk hk=>by rw[<-hks];simp only[Ad,qf];exact .inr (.inl (.inl hk))
          have in2:∀k∈AK p2,k∈AK sub:=λk hk=>by rw[<-hks];simp only[Ad,qf];exact .inr (.inl (.inr hk))
          have n12:∀k∈AK p1,k∉AK p2:=λk h1 h2=>by
           have:=hns;rw[<-hks]at this;simp only[Ad]at this;have h3:=(qr.1 (qr.1 (qr.1 this).2.1).1).2.2;exact h3 k h1 k h2 rfl
          have np2:(AK p2).Nodup:=by
           have:=hns;rw[<-hks]at this;simp only[Ad]at this;exact(qr.1 (qr.1 (qr.1 this).2.1).1).2.1
          by_cases h7:k=7
          . subst h7;have hrI:Ft ci (.mk 7 co id t hd f r)=(.mk 7 co (ci+1) t hd f (Dh (ci+1) r).1,(Dh (ci+1) r).2):=by rw[Ft,nR nN,nS rfl]
            rw[hrI]at hle;dsimp only at hle;obtain⟨H2,hH2⟩:∃H2:Hp,H2=h_ (h_ hh q (some (.cells [AA (ci+1)]))) j (some (.cells (cA++AA 7::AA co::AA (ci+1)::.str t::AU hd.Q::AA hd.I::AA hd.move::Aa hd.Y::AN hd.Z::vf::vr::c2))):=⟨_,rfl⟩
            have e1:∀k,k≠j->k≠q->H2 k=hh k:=λk h1 h2=>by rw[hH2,AB _ _ h1,AB _ _ h2]
            have e2:H2 q=some (.cells [AA (ci+1)]):=by rw[hH2,AB _ _ hjq.symm,AC]
            have e3:H2 j=some (.cells (cA++AA 7::AA co::AA (ci+1)::.str t::AU hd.Q::AA hd.I::AA hd.move::Aa hd.Y::AN hd.Z::vf::vr::c2)):=by rw[hH2,AC]
            have hp2:BL p2 H2:=λp hp=>by
             have hk:p.1∈AK p2:=qb.2 ⟨p,hp,rfl⟩;rw[e1 p.1 (λe=>hjs (e▸in2 _ hk)) (λe=>hqs (e▸in2 _ hk))];exact hob0 p (by simp[hp])
            refine Av (b:=true) nP ?_;simp only[if_true];refine Ai 0 [(0,.sl j 0 11 l.length full),(1,.ptr q 0),(9,AA l.length),(10,AA i),(5,.ptr j (i*11))] (h_ hh q (some (.cells [AA (ci+1)]))) m ?_ (λm' hm'=>?_);simp[go_sem,w2,hhq,Or];subst hm';refine Ai 0 [(0,.sl j 0 11 l.length full),(1,.ptr q 0),(9,AA l.length),(10,AA i),(5,.ptr j (i*11))] H2 m ?_ (λm' hm'=>?_)
            . rw[hH2];simp[go_sem,hj,AC,AB _ _ hjq,Or,B9 hcl,CG hcl,hcl,qw]
              done
            subst hm';have fin:∀(p2':DN)(h':Hp),AK p2'=AK p2->JG 6 (Dh (ci+1) r).1.length (λcs ob=>Bw (Dh (ci+1) r).1 cs ob) vr p2'->BL p2' h'->h' q=some (.cells [AA (Dh (ci+1) r).2])->(∀k,k∉AK p2->k≠q->h' k=H2 k)->
             bG l c j (AK sub) q H ⟨i+1,cA++(AA 7::AA co::AA (ci+1)::.str t::AU hd.Q::AA hd.I::AA hd.move::Aa hd.Y::AN hd.Z::[vf,vr]),c2,oA++(p1++p2'),o2,h'⟩:=by
             intro p2' h' hk2 hR' ho2 hq2 hoff2;refine bG.next (o1:=p1++p2) hlt htk hA hD hks hob0 hoff hns hjs hqs ?_ (by simp only[Ad,hk2]) ?_ ?_ ?_ ?_;rw[hrI,EE];exact⟨vf,p1,vr,p2',by simp[AF.j],rfl,hF,hR'⟩;refine wE.2 ⟨λp hp=>?_,ho2⟩;have hk:p.1∈AK p1:=qb.2 ⟨p,hp,rfl⟩;rw[hoff2 p.1 (n12 _ hk) (λe=>hqs (e▸in1 _ hk)),e1 p.1 (λe=>hjs (e▸in1 _ hk)) (λe=>hqs (e▸in1 _ hk))];exact hob0 p (by simp[hp]);rw[hoff2 j (λg=>hjs (in2 _ g)) hjq,e3];simp;rw[hrI];exact hq2;intro k h1 h2 h3;rw[Ad,qf,not_or]at h2;rw[hoff2 k h2.2 h3,e1 k h1 h3]
            clear hH2;rcases hR with⟨hr0,⟨z',full',rfl⟩,rfl⟩|⟨jr,fullr,csr,subr,rfl,rfl,hcsr⟩
            . have:r=[]:=vg.1 hr0;subst this;refine Ai 0 [(0,.sl j 0 11 l.length full),(1,.ptr q 0),(9,AA l.length),(10,AA i),(56,AA 0),(57,AA 0)] H2 m ?_ (λm' hm'=>?_)
              . simp[go_sem,e3,Or,B9 hcl,hcl,qw]
                done
              subst hm';refine AP (As 0 (α:=Unit) (λ_=>[(0,.sl j 0 11 l.length full),(1,.ptr q 0),(9,AA l.length),(10,AA i),(56,AA 0),(57,AA 0)]) (λ_=>H2) (λ_ m'=>m=m') (λ_=>0) () rfl (by simp[look,Or]) AE ?_);rintro _ m' rfl;refine AJ ?_;simp[go_sem];refine⟨⟨_,_,_,_,_,H2⟩,⟨rfl,fin [] H2 rfl (by rw[Dh];exact .inl ⟨rfl,⟨_,_,rfl⟩,rfl⟩) (λp hp=>by cases hp) (by rw[Dh];exact e2) λ_ _ _=>rfl⟩,AE⟩
            . obtain⟨hjrs,hnsr⟩:jr∉AK subr/\(AK subr).Nodup:=qY.1 np2;have hjrm:jr∈AK sub:=in2 jr (by simp[AK]);have hjjr:j≠jr:=by rintro rfl;exact hjs hjrm
              have hqjr:q≠jr:=by rintro rfl;exact hqs hjrm
              have inr:∀k∈AK subr,k∈AK sub:=λk hk=>in2 k (qT _ hk);refine Ai 0 [(0,.sl j 0 11 l.length full),(1,.ptr q 0),(9,AA l.length),(10,AA i),(5,.ptr j (i*11)),(56,AA r.length),(57,AA 0)] H2 m ?_ (λm' hm'=>?_)
              . simp[go_sem,e3,Or,B9 hcl,hcl,qw]
                done
              subst hm';refine AP (As 0 (α:=ZY) (λs=>[(0,.sl j 0 11 l.length full),(1,.ptr q 0),(9,AA l.length),(10,AA i),(5,.ptr j (i*11)),(56,AA r.length),(57,AA s.i)]) (λs=>s.hh)
               (λs m'=>m'=m/\VB r (ci+1) jr (AK subr) q H2 s) (λs=>r.length-s.i) ⟨0,[],csr,[],subr,H2⟩ ⟨rfl,qi _,by rw[vt,Dh,Bw];exact⟨rfl,rfl⟩,hcsr,rfl,hp2,by rw[vt,Dh];exact e2,λ_ _ _=>rfl⟩ ?_ AE ?_)
              simp[go_sem,look,Or];rintro⟨a,cRA,cRD,oRA,oRD,hr0⟩ m2 ⟨rfl,hai,hRA,hRD,hrks,hrob,hrq,hroff⟩;dsimp only at hai hRA hRD hrks hrob hrq hroff ⊢;have hjr3:hr0 j=H2 j:=hroff j (by rintro g;rcases qd.1 g with g|g;exact hjjr g;exact hjs (inr _ g)) hjq;rw[e3]at hjr3;by_cases hlr:a<r.length
              · have w3 := wS a nN
                obtain⟨y,hy⟩:∃y,r[a]=y:=⟨_,rfl⟩
                have hym:y∈r:=hy▸qp hlr;have ihc:=ihr y hym;have hr3:=hr2 y hym;have htkr:=YL hlr hy (ci+1);have hler:=eC r (a+1) (ci+1);have hupr:ci+1<=(Dh (ci+1) (r.take a)).2:=QH _ _;have hclr:cRA.length=a*6:=by rw[Jo _ _ _ hRA,Mx,va];congr 1;omega
                rw[qG hlr,hy,Bw]at hRD;obtain⟨c1r,c2r,o1r,o2r,rfl,rfl,hY,hRD⟩:=hRD;generalize hcr:(Dh (ci+1) (r.take a)).2=cr at htkr hupr hrq;rw[htkr]at hler;dsimp only at hler;refine Ai 0 [(0,.sl j 0 11 l.length full),(1,.ptr q 0),(9,AA l.length),(10,AA i),(5,.ptr j (i*11)),(56,AA r.length),(57,AA a),(58,.bool true)] hr0 m2 ?_ (λm' hm'=>?_);simp[go_sem,Or,hlr];subst hm';refine Ai 0 [(0,.sl j 0 11 l.length full),(1,.ptr q 0),(9,AA l.length),(10,AA i),(5,.ptr j (i*11)),(56,AA r.length),(57,AA a)] hr0 m2 ?_ (λm' hm'=>?_);simp[go_sem,Or];subst hm';refine AR 0 (α:=ZY) (λs=>[(0,.sl j 0 11 l.length full),(1,.ptr q 0),(9,AA l.length),(10,AA i),(5,.ptr j (i*11)),(56,AA r.length),(57,AA a)]) (λs=>s.hh) (λs m'=>m'=m2/\s.i=a+1/\VB r (ci+1) jr (AK subr) q H2 s) (AP ?_) (λs m' hs=>?_)
                . cases y with
                  | mk hdr cs =>
                   rw[HP]at hY;obtain⟨vc,rfl,hC⟩:=hY;simp only[AM.cells]at ihc hr3;have hrI2:Ii cr (.mk hdr cs)=(.mk hdr (Dg cr cs).1,(Dg cr cs).2):=by rw[Ii]
                   rw[hrI2]at hler;dsimp only at hler;have hjr:=hrob (jr,.cells (cRA++(hdr.j++[vc]++c2r))) nO;have hR5:hdr.j++[vc]++c2r=AU hdr.Q::AA hdr.I::AA hdr.move::Aa hdr.Y::AN hdr.Z::vc::c2r:=by simp[AF.j]
                   rw[hR5]at hjr;dsimp only at hjr;refine Ai 0 [(0,.sl j 0 11 l.length full),(1,.ptr q 0),(9,AA l.length),(10,AA i),(5,.ptr j (i*11)),(56,AA r.length),(57,AA a),(6,AA a)] hr0 m2 ?_ (λm' hm'=>?_);simp[go_sem,Or];subst hm';have hrob0:BL (oRA++(o1r++o2r)) hr0:=λp hp=>hrob p (qT _ hp);have inr1:∀k∈AK o1r,k∈AK subr:=λk hk=>by rw[<-hrks];simp only[Ad,qf];exact .inr (.inl hk)
                   have no1:(AK o1r).Nodup:=by
                    have:=hnsr;rw[<-hrks]at this;simp only[Ad]at this;exact(qr.1 (qr.1 this).2.1).1
                   have hqsr:q∉AK subr:=λg=>hqs (inr _ g);have fin2:∀(o1':DN)(h':Hp),AK o1'=AK o1r->JG 7 (Dg cr cs).1.length (λcs' ob=>BP (Dg cr cs).1 cs' ob) vc o1'->BL o1' h'->h' q=some (.cells [AA (Dg cr cs).2])->(∀k,k∉AK o1r->k≠q->h' k=hr0 k)->
                    VB r (ci+1) jr (AK subr) q H2 ⟨a+1,cRA++(hdr.j++[vc]),c2r,oRA++o1',o2r,h'⟩:=by
                    intro o1' h' hk2 hC' ho2 hq2 hoff2;refine VB.next (o1:=o1r) hlr htkr hRA hRD hrks hrob0 hroff hnsr hjrs hqsr ?_ hk2 ho2 ?_ ?_ ?_;rw[hrI2,HP];exact⟨vc,rfl,hC'⟩;rw[hoff2 jr (λg=>hjrs (inr1 _ g)) hqjr.symm,hjr,hR5.symm];rw[hrI2];exact hq2;intro k h1 h2 h3;rw[hoff2 k h2 h3]
                   have ho1r:BL o1r hr0:=(wE.1 (wE.1 hrob0).2).1;rcases hC with⟨hc0',⟨z',full',rfl⟩,rfl⟩|⟨jc,fullc,csc,subc,rfl,rfl,hcsc⟩
                   . have:cs=[]:=vg.1 hc0';subst this;refine Ai 0 [(0,.sl j 0 11 l.length full),(1,.ptr q 0),(9,AA l.length),(10,AA i),(5,.ptr j (i*11)),(56,AA r.length),(57,AA a),(68,AA 0),(69,AA 0)] hr0 m2 ?_ (λm' hm'=>?_)
                     . simp[go_sem,hjr3,hjr,hlr,Or,B9 hcl,hcl,B9 hclr,hclr,qw]
                       done
                     subst hm';refine AP (As 0 (α:=Unit) (λ_=>[(0,.sl j 0 11 l.length full),(1,.ptr q 0),(9,AA l.length),(10,AA i),(5,.ptr j (i*11)),(56,AA r.length),(57,AA a),(68,AA 0),(69,AA 0)]) (λ_=>hr0) (λ_ m'=>m2=m') (λ_=>0) () rfl (by simp[look,Or]) AE ?_);rintro _ m' rfl;refine AJ ?_;simp[go_sem];exact⟨⟨_,_,_,_,_,hr0⟩,⟨rfl,fin2 [] hr0 rfl (by rw[Dg];exact .inl ⟨rfl,⟨_,_,rfl⟩,rfl⟩) (λp hp=>by cases hp) (by rw[Dg];exact hrq) λ_ _ _=>rfl⟩,AE⟩
                   . obtain⟨hjcs,hnsc⟩:jc∉AK subc/\(AK subc).Nodup:=qY.1 no1;have hjcm:jc∈AK subr:=inr1 jc (by simp[AK]);have hjrjc:jr≠jc:=by rintro rfl;exact hjrs hjcm
                     have hjjc:j≠jc:=by rintro rfl;exact hjs (inr _ hjcm)
                     have hqjc:q≠jc:=by rintro rfl;exact hqsr hjcm
                     have incr:∀k∈AK subc,k∈AK subr:=λk hk=>inr1 k (qT _ hk);have hqsc:q∉AK subc:=λg=>hqsr (incr _ g);refine Ai 0 [(0,.sl j 0 11 l.length full),(1,.ptr q 0),(9,AA l.length),(10,AA i),(5,.ptr j (i*11)),(56,AA r.length),(57,AA a),(6,AA a),(68,AA cs.length),(69,AA 0)] hr0 m2 ?_ (λm' hm'=>?_)
                     . simp[go_sem,hjr3,hjr,hlr,Or,B9 hcl,hcl,B9 hclr,hclr,qw]
                       done
                     subst hm';refine AP (As 0 (α:=ZY) (λs=>[(0,.sl j 0 11 l.length full),(1,.ptr q 0),(9,AA l.length),(10,AA i),(5,.ptr j (i*11)),(56,AA r.length),(57,AA a),(6,AA a),(68,AA cs.length),(69,AA s.i)]) (λs=>s.hh)
                      (λs m'=>m'=m2/\WC cs cr jc (AK subc) q hr0 s) (λs=>cs.length-s.i) ⟨0,[],csc,[],subc,hr0⟩ ⟨rfl,qi _,by rw[vt,Dg,BP];exact⟨rfl,rfl⟩,hcsc,rfl,ho1r,by rw[vt,Dg];exact hrq,λ_ _ _=>rfl⟩ ?_ AE ?_)
                     simp[go_sem,look,Or];rintro⟨b,cCA,cCD,oCA,oCD,hc1⟩ m3 ⟨rfl,hbi,hCA,hCD,hcks,hcob,hcq,hcoff⟩;dsimp only at hbi hCA hCD hcks hcob hcq hcoff ⊢;have hjc3:hc1 j=hr0 j:=hcoff j (by rintro g;rcases qd.1 g with g|g;exact hjjc g;exact hjs (inr _ (incr _ g))) hjq;rw[hjr3]at hjc3;have hjrc3:hc1 jr=hr0 jr:=hcoff jr (by rintro g;rcases qd.1 g with g|g;exact hjrjc g;exact hjrs (incr _ g)) hqjr.symm;rw[hjr]at hjrc3;by_cases hlc:b<cs.length
                     . have w4:=wS b nN;obtain⟨z,hz⟩:∃z,cs[b]=z:=⟨_,rfl⟩
                       have hzm:z∈cs:=hz▸qp hlc;have ihz:=ihc z hzm;have htkc:=YG hlc hz cr;have hlec:=d8 cs (b+1) cr;have hupc:cr<=(Dg cr (cs.take b)).2:=QF _ _;have hclc:cCA.length=b*7:=by rw[Ij _ _ _ hCA,Mu,va];congr 1;omega
                       rw[qG hlc,hz,BP]at hCD;obtain⟨c1c,c2c,o1c,o2c,rfl,rfl,hZ,hCD⟩:=hCD;generalize hcc:(Dg cr (cs.take b)).2=cc at htkc hupc hcq;rw[htkc]at hlec;dsimp only at hlec;refine Ai 0 [(0,.sl j 0 11 l.length full),(1,.ptr q 0),(9,AA l.length),(10,AA i),(5,.ptr j (i*11)),(56,AA r.length),(57,AA a),(6,AA a),(68,AA cs.length),(69,AA b),(70,.bool true)] hc1 m3 ?_ (λm' hm'=>?_);simp[go_sem,Or,hlc];subst hm';refine Ai 0 [(0,.sl j 0 11 l.length full),(1,.ptr q 0),(9,AA l.length),(10,AA i),(5,.ptr j (i*11)),(56,AA r.length),(57,AA a),(6,AA a),(68,AA cs.length),(69,AA b)] hc1 m3 ?_ (λm' hm'=>?_);simp[go_sem,Or];subst hm';refine AR 0 (α:=ZY) (λs=>[(0,.sl j 0 11 l.length full),(1,.ptr q 0),(9,AA l.length),(10,AA i),(5,.ptr j (i*11)),(56,AA r.length),(57,AA a),(6,AA a),(68,AA cs.length),(69,AA b)]) (λs=>s.hh) (λs m'=>m'=m3/\s.i=b+1/\WC cs cr jc (AK subc) q hr0 s) (AP ?_) (λs m' hs=>?_)
                       . cases z with
                         | mk idc hdc fc =>
                          rw[FM]at hZ;obtain⟨vz,rfl,hF2⟩:=hZ;simp only[AG.W]at ihz;have hrI3:Ih cc (.mk idc hdc fc)=(.mk (cc+1) hdc (Cz (cc+1) fc).1,(Cz (cc+1) fc).2):=by rw[Ih]
                          rw[hrI3]at hlec;dsimp only at hlec;have hjc:=hcob (jc,.cells (cCA++([AA idc]++hdc.j++[vz]++c2c))) nO;have hC5:[AA idc]++hdc.j++[vz]++c2c=AA idc::AU hdc.Q::AA hdc.I::AA hdc.move::Aa hdc.Y::AN hdc.Z::vz::c2c:=by simp[AF.j]
                          rw[hC5]at hjc;dsimp only at hjc;have hcob0:BL (oCA++(o1c++o2c)) hc1:=λp hp=>hcob p (qT _ hp);have inc1:∀k∈AK o1c,k∈AK subc:=λk hk=>by rw[<-hcks];simp only[Ad,qf];exact .inr (.inl hk)
                          have nc1:(AK o1c).Nodup:=by
                           have:=hnsc;rw[<-hcks]at this;simp only[Ad]at this;exact(qr.1 (qr.1 this).2.1).1
                          have w5:IntKind.i64.wrap (cc+1)=cc+1:=D5 nN (by have:=Lm fc (cc+1);omega);obtain⟨H4,hH4⟩:∃H4:Hp,H4=h_ (h_ hc1 q (some (.cells [AA (cc+1)]))) jc (some (.cells (cCA++AA (cc+1)::AU hdc.Q::AA hdc.I::AA hdc.move::Aa hdc.Y::AN hdc.Z::vz::c2c))):=⟨_,rfl⟩
                          have g1:∀k,k≠jc->k≠q->H4 k=hc1 k:=λk h1 h2=>by rw[hH4,AB _ _ h1,AB _ _ h2]
                          have g2:H4 q=some (.cells [AA (cc+1)]):=by rw[hH4,AB _ _ hqjc,AC]
                          have g3:H4 jc=some (.cells (cCA++AA (cc+1)::AU hdc.Q::AA hdc.I::AA hdc.move::Aa hdc.Y::AN hdc.Z::vz::c2c)):=by rw[hH4,AC]
                          have g4:H4 j=some (.cells (cA++AA 7::AA co::AA (ci+1)::.str t::AU hd.Q::AA hd.I::AA hd.move::Aa hd.Y::AN hd.Z::vf::.sl jr 0 6 r.length fullr::c2)):=by rw[g1 j hjjc hjq,hjc3]
                          have g5:=g1 jr hjrjc hqjr.symm;rw[hjrc3]at g5;refine Ai 0 [(0,.sl j 0 11 l.length full),(1,.ptr q 0),(9,AA l.length),(10,AA i),(5,.ptr j (i*11)),(56,AA r.length),(57,AA a),(6,AA a),(68,AA cs.length),(69,AA b),(7,AA b)] hc1 m3 ?_ (λm' hm'=>?_);simp[go_sem,Or];subst hm';refine Ai 0 [(0,.sl j 0 11 l.length full),(1,.ptr q 0),(9,AA l.length),(10,AA i),(5,.ptr j (i*11)),(56,AA r.length),(57,AA a),(6,AA a),(68,AA cs.length),(69,AA b),(7,AA b)] (h_ hc1 q (some (.cells [AA (cc+1)]))) m3 ?_ (λm' hm'=>?_);simp[go_sem,w5,hcq,Or];subst hm';refine Ai 0 [(0,.sl j 0 11 l.length full),(1,.ptr q 0),(9,AA l.length),(10,AA i),(5,.ptr j (i*11)),(56,AA r.length),(57,AA a),(6,AA a),(68,AA cs.length),(69,AA b),(7,AA b)] H4 m3 ?_ (λm' hm'=>?_)
                          . rw[hH4];simp[go_sem,AC,AB _ _ hjq,AB _ _ hqjr.symm,AB _ _ hqjc.symm,hjc3,hjrc3,hjc,hlr,hlc,Or,B9 hcl,hcl,B9 hclr,hclr,B9 hclc,BZ hclc,hclc,qw];have ltr:jr<m3:=lts _ hjrm;have ltc:jc<m3:=lts _ (inr _ hjcm)
                            repeat first|refine aq ?_|refine nd (by simp[Ct,Dq,DX,Aj,Region.binds]<;>omega) ?_|refine sq ?_
                            simp[Ct,Dq,DX,Aj,Region.binds,hjjc.symm,hjrjc.symm,hqjc.symm]
                          subst hm';have hpz:BL o1c H4:=λp hp=>by
                           have hk:p.1∈AK o1c:=qb.2 ⟨p,hp,rfl⟩;rw[g1 p.1 (λe=>hjcs (e▸inc1 _ hk)) (λe=>hqsc (e▸inc1 _ hk))];exact hcob0 p (by simp[hp])
                          clear hH4;have hcall:=ihz (cc+1) vz o1c q H4 m3 hF2 hpz nc1 (λg=>hqsc (inc1 _ g)) g2 nN nN;refine AJ ?_;simp[go_sem,g3,g4,g5,hlr,hlc,B9 hcl,hcl,B9 hclr,hclr,B9 hclc,hclc,qw];refine qI hcall ?_;rintro r0 h' n' ⟨rfl,rfl,o1',hk1,hF',ho1,hq1,hoff1⟩;simp[go_sem,Or];refine⟨⟨b+1,cCA++(AA (cc+1)::AU hdc.Q::AA hdc.I::AA hdc.move::Aa hdc.Y::AN hdc.Z::[vz]),c2c,oCA++o1',o2c,h'⟩,⟨rfl,WC.next (o1:=o1c) hlc htkc hCA hCD hcks hcob0 hcoff hnsc hjcs hqsc ?_ hk1 ho1 ?_ ?_ ?_⟩,AE⟩;rw[hrI3,FM];exact⟨vz,by simp[AF.j],hF'⟩;rw[hoff1 jc (λg=>hjcs (inc1 _ g)) hqjc.symm,g3];simp;rw[hrI3];exact hq1;intro k h1 h2 h3;rw[hoff1 k h2 h3,g1 k h1 h3]
                       refine AJ ?_;obtain⟨hm2,hsi,hI⟩:=hs;simp[go_sem,w4,Or,-Int.natCast_add];exact⟨s,by omega,⟨hm2,hI⟩,by rw[hsi];exact Or,AE⟩
                     have hie:b=cs.length:=by omega
                     subst hie;refine AJ ?_;simp[go_sem];rw[wA,BP]at hCD;obtain⟨rfl,rfl⟩:=hCD;rw[qn]at hCA hcq;rw[vp]at hcks hcob;rw[vp]at hcob;refine⟨⟨_,_,_,_,_,hc1⟩,⟨rfl,fin2 ((jc,.cells cCA)::oCA) hc1 (by simp only[AK,qg]at hcks ⊢;rw[hcks]) (.inr ⟨jc,fullc,cCA,oCA,by rw[Mu],rfl,hCA⟩) hcob hcq λk h1 h2=>hcoff k h1 h2⟩,AE⟩
                refine AJ ?_;obtain⟨hm2,hsi,hI⟩:=hs;simp[go_sem,w3,Or,-Int.natCast_add];exact⟨s,by omega,⟨hm2,hI⟩,by rw[hsi];exact Or,AE⟩
              have hie:a=r.length:=by omega
              subst hie;refine AJ ?_;simp[go_sem];rw[wA,Bw]at hRD;obtain⟨rfl,rfl⟩:=hRD;rw[qn]at hRA hrq;rw[vp]at hrks hrob;rw[vp]at hrob;refine⟨⟨_,_,_,_,_,hr0⟩,⟨rfl,fin ((jr,.cells cRA)::oRA) hr0 (by simp only[AK,qg]at hrks ⊢;rw[hrks]) (.inr ⟨jr,fullr,cRA,oRA,by rw[Mx],rfl,hRA⟩) hrob hrq λk h1 h2=>hroff k h1 h2⟩,AE⟩
          . refine Av (b:=false) (by simp[go_sem,h7]) ?_;simp only[nR Bool.false_ne_true];have hrI:Ft ci (.mk k co id t hd f r)=(.mk k co id t hd f r,ci):=by rw[Ft,nR h6,nR h7]
            refine AJ ?_;simp[go_sem,Or];refine⟨⟨i+1,cA++([AA k,AA co,AA id,.str t]++hd.j++[vf,vr]),c2,oA++(p1++p2),o2,hh⟩,⟨rfl,bG.next (o1:=p1++p2) hlt htk hA hD hks hob0 hoff hns hjs hqs ?_ rfl ?_ ?_ ?_ ?_⟩,AE⟩;rw[hrI,EE];exact⟨vf,p1,vr,p2,rfl,rfl,hF,hR⟩;exact(wE.1 (wE.1 hob0).2).1;exact hob (j,_) nO;rw[hrI];exact hhq;intro k h1 h2 h3;rfl
     refine AJ ?_;obtain⟨hm2,hsi,hI⟩:=hs;simp[go_sem,w1,Or,-Int.natCast_add];exact⟨s,by omega,⟨hm2,hI⟩,by rw[hsi];exact Or,AE⟩
   have hie:i=l.length:=by omega
   subst hie;refine AJ ?_;simp[go_sem];rw[wA,BQ]at hD;obtain⟨rfl,rfl⟩:=hD;rw[qn]at hA hhq;rw[vp]at hks hob;rw[vp]at hob;exact .inl ⟨rfl,rfl,_,by simp only[AK,qg]at hks ⊢;rw[hks],.inr ⟨j,full,cA,oA,by rw[QG],rfl,hA⟩,hob,hhq,λk h1 h2=>hoff k h1 h2⟩
mutual
theorem gR:∀x:AD,x.D->(x.R.length<=1048576/\∀r∈x.R,r.cells.length<=1048576)/\ZH x.W/\∀r∈x.R,∀e∈r.cells,ZH e.W
 | .mk k c i t hd f r,hs=>by
  rw[AD.D]at hs;obtain⟨h1,h2⟩:=bV r hs.2.2.2.2.2;exact⟨⟨hs.2.2.2.1,h1⟩,Pr f hs.2.2.1 (λx a=>(Ng f hs.2.2.2.2.1 x a).1) (λx a=>(Ng f hs.2.2.2.2.1 x a).2),h2⟩
theorem Ng:∀l:List AD,AD.G l->∀x∈l,(x.R.length<=1048576/\∀r∈x.R,r.cells.length<=1048576)/\ZH x.W/\∀r∈x.R,∀e∈r.cells,ZH e.W
 | [],_,_,h=>by cases h
 | y::l,hs,x,h=>by
  rw[AD.G]at hs;rcases qd.1 h with e|e;rw[e];exact gR y hs.1;exact Ng l hs.2 x e
theorem bV:∀l:List AM,AM.G l->(∀r∈l,r.cells.length<=1048576)/\∀r∈l,∀e∈r.cells,ZH e.W
 | [],_=>⟨λ_ h=>(by cases h),λ_ h=>(by cases h)⟩
 | .mk hd c::l,hs=>by
  rw[AM.G,AM.D]at hs;obtain⟨h1,h2⟩:=bV l hs.2;have a:=bU c hs.1.2.2;exact⟨λr h=>by rcases qd.1 h with e|e;(· rw[e];exact hs.1.2.1);exact h1 r e,λr h=>by rcases qd.1 h with e|e;(· rw[e];exact a);exact h2 r e⟩
theorem bU:∀l:List AG,AG.G l->∀e∈l,ZH e.W
 | [],_,_,h=>by cases h
 | .mk i hd f::l,hs,x,h=>by
  rw[AG.G,AG.D]at hs;rcases qd.1 h with e|e;rw[e];exact Pr f hs.1.2.1 (λx a=>(Ng f hs.1.2.2 x a).1) (λx a=>(Ng f hs.1.2.2 x a).2);exact bU l hs.2 x e
end
theorem lO(l:List AD)(c:l.length<=1048576)(b:AD.G l):ZH l:=Pr l c (λx a=>(Ng l b x a).1) (λx a=>(Ng l b x a).2)
def M5(z:Nat)(es:List SV)(v:SV)(ob:DN):Prop:=JG z es.length (λcs sub=>cs=es.flatMap SV.cells/\sub=[]) v ob
def LvS(s:AO)(v:SV)(ob:DN):Prop:=∃vc,v=.agg [AW s.A,CA s.L,vc,CW s.vars]/\M5 6 (s.C.map AX.h) vc ob
def Jp(es:List SV)(o:Option Nat):DN:=match o with|none=>[]|some j=>[(j,.cells (es.flatMap SV.cells))]
theorem Ik.lve{z:Nat}{es:List SV}{v:SV}{o:Option Nat}{n m:Nat}(H:Ik z es v o n m):M5 z es v (Jp es o):=by
 rcases H with⟨rfl,rfl,a,f,rfl⟩|⟨j,f,rfl,h2,h3,rfl⟩
 exact .inl ⟨rfl,⟨a,f,rfl⟩,rfl⟩;exact .inr ⟨j,f,_,[],rfl,rfl,rfl,rfl⟩
theorem Jp.keys{es:List SV}{o:Option Nat}:∀k,k∈AK (Jp es o)↔o=some k:=by
 intro k;cases o<;>simp[Jp,AK,eq_comm]
theorem Jp.put{es:List SV}{o:Option Nat}{h:Hp}:By (Jp es o) h=E3 es o h:=by
 funext k;cases o with
 | none=>rfl
 | some j=>
  simp only[By,Jp,E3,h_,List.lookup];by_cases e:k=j;subst e;simp;have:(k==j)=false:=by simpa using e
  simp[this,e]
theorem mS(s:AO)(h1:s.A.length<=1048576)(h2:s.L.length<=1048576)(h3:s.C.length<=1048576)(h4:s.vars.length<=1048576)(h5:∀x∈s.A,x.Q.length<=1048576)(h6:∀x∈s.L,x.levels.length<=1048576):
 NC 172 [s.h] (LvS s):=by
 intro h n;refine E8 func172 rfl λU=>?_;refine A6 2 [(1,.q s.j),(2,.ptr (n+1) 0)] (h_ h (n+1) (some (.cells [.x 0 [] true,.x 0 [] true,.x 0 [] true,.x 0 [] true]))) (λm=>m=n+2) ?_ (λm hm=>?_);simp[go_sem,AO.h,qw,Or];refine⟨Ak (by rw[AB _ _ nN];exact U.none (IO n)) (by simp[h_]),λj y=>?_⟩;have:=U j y;simp only[h_];grind;subst hm;refine AR 1 (α:=SV×Option Nat×SV×Option Nat×SV×Option Nat×Nat) (λa=>[(2,.ptr (n+1) 0),(3,.ptr a.2.2.2.2.2.2 0)])
  (λa=>h_ (E3 (s.A.map Al.h) a.2.1 (E3 (s.L.map Fb.h) a.2.2.2.1 (E3 (s.C.map AX.h) a.2.2.2.2.2.1 (h_ h (n+1) (some (.cells [.x 0 [] true,.x 0 [] true,.x 0 [] true,.x 0 [] true])))))) a.2.2.2.2.2.2 (some (.cells [a.1,a.2.2.1,a.2.2.2.2.1,CW s.vars])))
  (λa m=>Ik 6 (s.A.map Al.h) a.1 a.2.1 (n+2) m/\Ik 2 (s.L.map Fb.h) a.2.2.1 a.2.2.2.1 (n+2) m/\Ik 6 (s.C.map AX.h) a.2.2.2.2.1 a.2.2.2.2.2.1 (n+2) m/\n+2<=a.2.2.2.2.2.2/\a.2.2.2.2.2.2<m/\a.2.1≠some a.2.2.2.2.2.2/\a.2.2.2.1≠some a.2.2.2.2.2.2/\a.2.2.2.2.2.1≠some a.2.2.2.2.2.2/\(∀j,a.2.1=some j->a.2.2.2.1≠some j)/\(∀j,a.2.1=some j->a.2.2.2.2.2.1≠some j)/\(∀j,a.2.2.2.1=some j->a.2.2.2.2.2.1≠some j)) (CJ jl rfl nQ nQ ?_) ?_
 . simp[go_sem,jl,AO.j]
   iterate 14 (all_goals (try first
    | (refine LC.use (iH _ h1) ?_;intro Z H1 m1 W1;have lt1:=W1.1;obtain⟨o1,a1,b1,c1⟩:=W1.own;obtain⟨s1,P⟩:=a1.st;simp only[SV.B,SV.cells]at s1 P;simp[go_sem])
    | (refine LC.use (iI _ h2) ?_;intro v2 H2 m2 W2;have ji:=W2.1;obtain⟨o2,a2,b2,c2⟩:=W2.own;obtain⟨s2,t2⟩:=a2.st;simp only[SV.B,SV.cells]at s2 t2;simp[go_sem])
    | (refine LC.use (iJ _ h3) ?_;intro v3 H3 m3 W3;have lt3:=W3.1;obtain⟨o3,a3,R,c3⟩:=W3.own;obtain⟨s3,t3⟩:=a3.st;simp only[SV.B,SV.cells]at s3 t3;simp[go_sem])
    | (refine(gE _ h4).use ?_;simp[go_sem,s1,P,s2,t2,s3,t3])
    | refine⟨?_,?_⟩))
   all_goals
    have K:=a1.lt;have M:=a2.lt;have ZZ:A7:=.cells [.x 0 [] true,.x 0 [] true,.x 0 [] true,.x 0 [] true];have J:=a3.lt
    first
     | (have hq:=R (n+2) _ (b2 (n+2) _ (b1 (n+2) _ (AC _ _ _)));simp[go_sem,hq])
     | (have hq:=R m1 _ (b2 m1 _ (AC _ _ _));simp[go_sem,hq])
     | (have hq:=R m2 _ (AC _ _ _);simp[go_sem,hq])
     | simp[go_sem,AC]
    refine⟨Z,o1,v2,o2,v3,o3,_,⟨a1.mono nN nN,a2.mono nN nN,a3.mono nN nN,?_,?_,λe=>?_,λe=>?_,λe=>?_,λj e u=>?_,λj e u=>?_,λj e u=>?_⟩,Or,λj y=>?_⟩;omega;omega;have:=K _ e;omega;have:=M _ e;omega;have:=J _ e;omega;have:=K _ e;have:=M _ u;omega;have:=K _ e;have:=J _ u;omega;have:=M _ e;have:=J _ u;omega;intro hy;have q1:=b1 j y;have q2:=b2 j y;have q7:=R j y;have q3:=c1 j;have q4:=c2 j;have q8:=c3 j;have r1:=K j;have r2:=M j;have r3:=J j;have q5:=b2 j (.cells ((s.A.map Al.h).flatMap SV.cells));have q9:=R j (.cells ((s.A.map Al.h).flatMap SV.cells));have q10:=R j (.cells ((s.L.map Fb.h).flatMap SV.cells));have q6:=U j y;clear b1 b2 R c1 c2 c3 K M J W1 W2 W3 a1 a2 a3;simp only[h_]at *;cases o1<;>cases o2<;>cases o3<;>simp only[E3,h_]at hy<;>grind
 rintro⟨Z,o1,v2,o2,v3,o3,q⟩ m ⟨a1,a2,a3,hq1,hq2,hn1,hn2,hn3,D,p,r⟩;dsimp only at a1 a2 a3 hq1 hq2 hn1 hn2 hn3 D p r ⊢;have J:=a3.lt;obtain⟨s3,t3⟩:=a3.st;have K:=a1.lt;have M:=a2.lt;obtain⟨s1,P⟩:=a1.st;obtain⟨s2,t2⟩:=a2.st;simp only[SV.B,SV.cells]at s1 P s2 t2 s3 t3;generalize Y:E3 (s.A.map Al.h) o1 (E3 (s.L.map Fb.h) o2 (E3 (s.C.map AX.h) o3 (h_ h (n+1) (some (.cells [.x 0 [] true,.x 0 [] true,.x 0 [] true,.x 0 [] true])))))=B;have B1:∀j,o1=some j->B j=some (.cells ((s.A.map Al.h).flatMap SV.cells)):=λj e=>by subst e;rw[<-Y];simp[E3,h_]
 have B2:∀j,o2=some j->B j=some (.cells ((s.L.map Fb.h).flatMap SV.cells)):=λj e=>by
  subst e;rw[<-Y];cases o1 with
  | none=>simp[E3,h_]
  | some i=>have:=D i rfl;simp only[E3,h_];grind
 have B5:∀j,o3=some j->B j=some (.cells ((s.C.map AX.h).flatMap SV.cells)):=λj e=>by
  subst e;rw[<-Y];have e1:o1≠some j:=λe=>p j e rfl;have e2:o2≠some j:=λe=>r j e rfl;cases o1<;>cases o2<;>simp only[E3,h_]<;>grind
 have B3:B (n+1)=some (.cells [.x 0 [] true,.x 0 [] true,.x 0 [] true,.x 0 [] true]):=by
  rw[<-Y];cases o1<;>cases o2<;>cases o3<;>simp only[E3,h_]<;>grind
 have B4:∀j y,h j=some y->B j=some y:=λj y e=>by
  have:=U j y e;rw[<-Y];cases o1<;>cases o2<;>cases o3<;>simp only[E3,h_]<;>grind
 have V:∀j,o1=some j->j≠q:=λj e u=>hn1 (by rw[e,u]);have O:∀j,o3=some j->j≠q:=λj e u=>hn3 (by rw[e,u]);have I:∀j,o2=some j->j≠q:=λj e u=>hn2 (by rw[e,u]);clear Y;refine LO 1 [(2,.ptr (n+1) 0),(3,.ptr q 0)] (h_ B q (some (.cells [Z,v2,v3,CW s.vars]))) m (AJ ?_) (λm' d=>?_)
 . rcases a1 with⟨_,he,z',f,rfl⟩|⟨j,f,rfl,hj1,hj2,rfl⟩
   simp[go_sem,AC];refine A9 1 (α:=Unit) (λ_=>[(2,.ptr (n+1) 0),(3,.ptr q 0),(21,AA 0),(22,AA 0)]) (λ_=>h_ B q (some (.cells [.x z' [] f,v2,v3,CW s.vars]))) (λ_ m'=>m<=m') (λ_=>0) () (IO _) (by simp[look]) AE ?_;intro _ m' d;simp[go_sem];exact d
   . have b:=V j rfl;have T:=B1 j rfl;simp[go_sem,AC];refine A9 1 (α:=Nat) (λi=>[(2,.ptr (n+1) 0),(3,.ptr q 0),(21,AA s.A.length),(22,AA i)]) (λ_=>h_ B q (some (.cells [.sl j 0 6 s.A.length f,v2,v3,CW s.vars]))) (λi m'=>i<=s.A.length/\m<=m') (λi=>s.A.length-i) 0 ?_ ?_ ?_ ?_;exact⟨qi _,IO _⟩;simp[look];simp;rintro i m' ⟨hi,d⟩;by_cases l:i<s.A.length
     . have w1:=wS i nN;obtain⟨x,hx⟩:∃x,s.A[i]=x:=⟨_,rfl⟩
       have W:(s.A.map Al.h)[i]? = some x.h:=by simp[l,hx]
       obtain⟨g1,N⟩:=Mh (Al.E.size s.A) W (k:=5) (c:=AU x.Q) rfl;have g3:=Hb g1 N;have X:=h5 x (by rw[<-hx];exact qp l);have w:j<m':=by omega
       have G:q<m':=by omega
       have g:=T;generalize(s.A.map Al.h).flatMap SV.cells=F at g g1 N g3;simp[go_sem,AC,AB,b,g,l,g1,N,w,G]
       repeat first|refine nd (by simp[Ct,Dq,DX,Aj,Region.binds]<;>omega) ?_|refine sq ?_|refine aq ?_
       refine vw _ _ _ _ _ _ (Zs x.Q X) ?_;simp[go_sem,AB,b,g,l,g1,g3,w,w1,-Int.natCast_add]
       repeat first|refine nd (by simp[Ct,Dq,DX,Aj,Region.binds,b]<;>omega) ?_|refine sq ?_|refine aq ?_
       refine⟨i+1,by omega,⟨by omega,d⟩,Or,λo y=>?_⟩;simp only[h_];grind
     have:i=s.A.length:=by omega
     subst this;simp[go_sem];exact d
 refine LO 1 [(2,.ptr (n+1) 0),(3,.ptr q 0)] (h_ B q (some (.cells [Z,v2,v3,CW s.vars]))) m (AJ ?_) (λm2 hm2=>?_)
 . rcases a2 with⟨_,he,z',f,rfl⟩|⟨j,f,rfl,hj1,hj2,rfl⟩
   simp[go_sem,AC];refine A9 1 (α:=Unit) (λ_=>[(2,.ptr (n+1) 0),(3,.ptr q 0),(40,AA 0),(41,AA 0)]) (λ_=>h_ B q (some (.cells [Z,.x z' [] f,v3,CW s.vars]))) (λ_ m'=>m<=m') (λ_=>0) () d (by simp[look]) AE ?_;intro _ m' d;simp[go_sem];exact d
   . have b:=I j rfl;have T:=B2 j rfl;simp[go_sem,AC];refine A9 1 (α:=Nat) (λi=>[(2,.ptr (n+1) 0),(3,.ptr q 0),(40,AA s.L.length),(41,AA i)]) (λ_=>h_ B q (some (.cells [Z,.sl j 0 2 s.L.length f,v3,CW s.vars]))) (λi m'=>i<=s.L.length/\m<=m') (λi=>s.L.length-i) 0 ?_ ?_ ?_ ?_;exact⟨qi _,d⟩;simp[look];simp;rintro i m' ⟨hi,d⟩;by_cases l:i<s.L.length
     . have w1:=wS i nN;obtain⟨x,hx⟩:∃x,s.L[i]=x:=⟨_,rfl⟩
       have W:(s.L.map Fb.h)[i]? = some x.h:=by simp[l,hx]
       obtain⟨g1,N⟩:=Mh (Fb.E.size s.L) W (k:=1) (c:=DK x.levels) rfl;have g3:=Hb g1 N;have X:=h6 x (by rw[<-hx];exact qp l);have w:j<m':=by omega
       have G:q<m':=by omega
       have g:=T;generalize(s.L.map Fb.h).flatMap SV.cells=F at g g1 N g3;simp[go_sem,AC,AB,b,g,l,g1,N,w,G]
       repeat first|refine nd (by simp[Ct,Dq,DX,Aj,Region.binds]<;>omega) ?_|refine sq ?_|refine aq ?_
       refine vw _ _ _ _ _ _ (gG x.levels X) ?_;simp[go_sem,AB,b,g,l,g1,g3,w,w1,-Int.natCast_add]
       repeat first|refine nd (by simp[Ct,Dq,DX,Aj,Region.binds,b]<;>omega) ?_|refine sq ?_|refine aq ?_
       refine⟨i+1,by omega,⟨by omega,d⟩,Or,λo y=>?_⟩;simp only[h_];grind
     have:i=s.L.length:=by omega
     subst this;simp[go_sem];exact d
 have enq:n+1≠q:=by omega
 have S:∀(z:Nat)(es:List SV)(v:SV)(o:Option Nat)(H h2:Hp),(∀e∈es,e.B=true/\e.cells.length=z)->Ik z es v o (n+2) m->(∀j,o=some j->H j=some (.cells (es.flatMap SV.cells)))->(∀j,o=some j->h2 j=none)->Fz H h2 2 v (.x z es false):=λz es v o H h2 hsz ha hH hz=>by
  rcases ha with⟨_,he,z',f,rfl⟩|⟨j,f,rfl,hj1,hj2,rfl⟩
  rw[he];exact Iv nO;exact Ez (hz j rfl) nO (hH j rfl) hsz
 have t:∀j,n<=j->o3≠some j->E3 (s.C.map AX.h) o3 h j=none:=λj hj hne=>by
  cases o3 with
  | none=>exact U.none hj
  | some i=>simp only[E3];rw[AB _ _ (by rintro rfl;exact hne rfl)];exact U.none hj
 refine Ao 3 [(2,.q [AW s.A,CA s.L,v3,CW s.vars])] (E3 (s.C.map AX.h) o3 h) m ?_ (λm4 hm4=>?_);simp[go_sem,AC,AB,enq,B3];refine⟨hm2,.inr ⟨t _ nN (λe=>by have:=J _ e;omega),_,AC _ _ _,by simp,S _ _ _ _ _ _ (Al.E.size _) a1 (λj e=>?_) (λj e=>t j (by have:=K j e;omega) (p j e)),S _ _ _ _ _ _ (Fb.E.size _) a2 (λj e=>?_) (λj e=>t j (by have:=M j e;omega) (r j e)),Or,Or,trivial⟩,λj y e=>?_⟩;have:=K j e;have:=B1 j e;have:=V j e;simp only[h_];grind;have:=M j e;have:=B2 j e;have:=I j e;simp only[h_];grind;have q1:=B5 j;have q2:=B4 j y;have q3:=O j;have q4:=J j;have q5:=U j y;clear B1 B2 B3 B4 B5 S t D p r V I O K M J;cases o3 with
 | none=>simp only[E3]at e;have:=q2 e;have:=q5 e;simp only[h_];grind
 | some i=>simp only[E3,h_]at e ⊢;grind
 refine AJ ?_;simp[go_sem];refine .inl ⟨by omega,Jp (s.C.map AX.h) o3,⟨v3,rfl,a3.lve⟩,by cases o3<;>simp[Jp,AK],λk hk=>?_,by rw[Jp.put];exact λ_ _ e=>e⟩;have:=J k ((Jp.keys k).1 hk);omega
theorem LC.nc{f:FuncId}{args:List SV}{z:Nat}{es:List SV}(H:LC f args z es):NC f args (M5 z es):=λh n=>LC.use H λv h' n' W=>by
 obtain⟨o,a,b,c⟩:=W.own;refine⟨W.1,Jp es o,a.lve,by cases o<;>simp[Jp,AK],λk hk=>a.lt k ((Jp.keys k).1 hk),?_⟩;rw[Jp.put];intro k y e;cases o with
 | none=>exact b k y e
 | some j=>
  simp only[E3,h_]at e;split at e
  . next e2=>subst e2;rw[<-e];exact c _ rfl
  exact b k y e
theorem QB{X h1 h2:Hp}{m n1 n:Nat}{a b:DN}(g:∀k∈AK a,m<=k/\k<n1)(f:∀k y,By a X k=some y->h1 k=some y)(h:∀k∈AK b,n1<=k/\k<n)(c:∀k y,By b h1 k=some y->h2 k=some y):
 ∀k y,By (a++b) X k=some y->h2 k=some y:=λk y e=>by
 rw[It]at e;by_cases i:k∈AK a;have l:a.lookup k=some y:=by
  simp only[By]at e;cases d:a.lookup k with
  | none=>exact absurd i (Cg.1 d)
  | some z=>rw[d]at e;exact e
 exact Dm.old (_L:=IV []) (_v:=.junk) h c (g k i).2 (f k y (by simp only[By,l]));rw[Aw i]at e;by_cases j:k∈AK b;refine c k y ?_;simp only[By]at e ⊢;cases d:b.lookup k with
 | none=>exact absurd j (Cg.1 d)
 | some z=>rw[d]at e;exact e
 rw[Aw j]at e;exact c k y (by rw[Aw j];exact f k y (by rw[Aw i];exact e))
theorem Nx{m n1 j:Nat}{c d:DN}(hm:m<=n1)(hn:n1<=j)(h:(AK c).Nodup)(i:(AK d).Nodup)(f:∀k∈AK c,m<=k/\k<n1)(g:∀k∈AK d,n1<=k/\k<j):
 (AK (c++d)).Nodup/\∀k∈AK (c++d),m<=k/\k<j:=by
 rw[Ad];refine⟨qr.2 ⟨h,i,λa l b hb e=>by have:=(f a l).2;have:=(g b hb).1;omega⟩,λk hk=>?_⟩;rcases qf.1 hk with hk|hk;have:=f k hk;omega;have:=g k hk;omega
def fM(d:AH)(v:SV)(ob:DN):Prop:=∃vf o1 vr o2 vc o3,v=.agg ([vf]++d.T0.j++[vr,AW d.S.A,CA d.S.L,vc,CW d.S.vars])/\ob=o1++(o2++o3)/\IV d.W vf o1/\M5 3 (d.V.map CI.h) vr o2/\M5 6 (d.S.C.map AX.h) vc o3
def Y0:Tr:=(.pure 0 (.pure 1 (.pure 3 (.pure 4 (.pure 6 (.pure 7 (.pure 9 (.pure 10 (.one 2 (.one 5 (.one 8 (.one 11 (.one 12 (.one 13 .nil))))))))))))))
theorem mN(d:AH)(hd:d.D):NC 108 [d.h] (fM d):=by
 intro h n;refine E8 func108 rfl λO=>?_;have M:=O.lt;obtain⟨X,J⟩:∃X:Hp,X=h_ h (n+1) (some (.cells [.x 0 [] true,.x 0 [] true,AA 0,AA 0,.x 0 [] true,.x 0 [] true,.x 0 [] true,.x 0 [] true,.x 0 [] true,.x 0 [] true,.x 0 [] true])):=⟨_,rfl⟩
 refine A6 2 [(1,.q ([AI d.W]++d.T0.j++[Cq d.V]++d.S.j)),(2,.ptr (n+1) 0)] X (λm=>n+2=m) ?_ (λm hm=>?_);rw[J];simp[go_sem,AH.h,qw,Or];refine⟨Ak (by rw[AB _ _ nN];exact O.none (IO n)) (by simp[h_]),λj y=>?_⟩;have:=O j y;simp only[h_];grind;subst hm;have hy:X (n+1)=some (.cells [.x 0 [] true,.x 0 [] true,AA 0,AA 0,.x 0 [] true,.x 0 [] true,.x 0 [] true,.x 0 [] true,.x 0 [] true,.x 0 [] true,.x 0 [] true]):=by rw[J,AC]
 have N:∀j y,j≠n+1->h j=some y->X j=some y:=λj y h1 e=>by rw[J,AB _ _ h1];exact e
 clear J;refine LN (CJ Y0 rfl nQ nQ ?_);have a:=hd.set;simp[go_sem,Y0,AF.j,AO.j];refine wM (n96 d.W hd.len hd.W) ?_;rintro K h1 n1 ⟨hn1,G,l,z,b,t⟩;have P:=Dm.old (_L:=IV []) (_v:=K) b t (show n+1<n+2 by omega) hy;simp[go_sem];refine qO (by simpa[AF.h,AF.j]using NS d.T0 hd.T0) ?_;simp[go_sem];refine wM (jg d.V hd.V).nc ?_;rintro H h2 n2 ⟨hn2,g,o,E,c,u⟩;have R:=Dm.old (_L:=IV []) (_v:=H) c u (show n+1<n1 by omega) P;simp[go_sem];refine wM (by simpa[AO.h,AO.j]using mS d.S a.A a.L a.C a.vars a.Q a.levels) ?_;rintro v3 h3 U ⟨hn3,i,⟨I,rfl,r⟩,F,f,w⟩;have T:=Dm.old (_L:=IV []) (_v:=I) f w (show n+1<n2 by omega) R;obtain⟨t1,t2⟩:=Nx nN nN E F c f;obtain⟨t3,t4⟩:=Nx nN nN z t1 b t2;have fin:Cb n (h_ h3 (n+1) (some (.cells ([K]++d.T0.j++[H,AW d.S.A,CA d.S.L,I,CW d.S.vars])))) U (.agg ([K]++d.T0.j++[H,AW d.S.A,CA d.S.L,I,CW d.S.vars])) (Dm (fM d) h n):=by
  refine .inl ⟨by omega,G++(g++i),⟨K,G,H,g,I,i,rfl,rfl,l,o,r⟩,t3,λk hk=>by have:=t4 k hk;omega,?_⟩;refine Mr (X:=X) (m:=n+2) (n1:=U) M nN nN N t4 ?_;exact QB b t t2 (QB c u f w)
 have p:JG 3 _ _ H g:=o;have s:JG 6 _ _ I i:=r;obtain⟨s1,s2⟩:=l.st;obtain⟨s3,s4⟩:=p.st;obtain⟨Y,Z⟩:=s.st;unfold SV.B at s1 s3 Y;unfold SV.cells at s2 s4 Z;simp[go_sem,s1,s2,s3,s4,T];refine AJ ?_;simp[go_sem,AC];simpa[AF.j]using fin
theorem n43(d:AH)(hd:d.D)(T:d.normal.D)(hu:(BD [] (AD.U (Ae d.W)++d.T0.all)).length<=1048576):NC 43 [d.h] (fM d.normal):=by
 intro h n;refine gq func43 rfl λho=>?_;have hs:=hd.set;simp[go_sem,AH.h,AF.j,AO.j,AC,AB,qw];refine(c73 d.W hd.len hd.W).use ?_;simp[go_sem,AC,AB];refine qO (by simpa[AH.h,AH.norm1,AF.j,AO.j]using c74 d.norm1 T.len T.W hd.T0 hu) ?_;simp[go_sem,AC,AB,AZ];have C:(GM d.norm1).length<=1048576:=by
  have h1:(GM d.norm1).length=((BD [] (AD.U d.norm1.W++d.norm1.T0.all)).filter λx=>decide (x≠0)).length:=wh _;have h2:=vA (λx=>decide (x≠0)) (BD [] (AD.U d.norm1.W++d.norm1.T0.all));have h4:(BD [] (AD.U d.norm1.W++d.norm1.T0.all)).length<=1048576:=hu;omega
 generalize hU:GM d.norm1=us at C;refine LC.use (jg _ hd.V) ?_;rintro v1 f m1 ⟨hle,Ar,hv⟩;have HA:=Ar n (.cells ([AI (Ae d.W)]++d.T0.j++[Cq d.V]++d.S.j)) (by simp[AC,AB,AF.j,AO.j]);obtain⟨F,P,HC⟩:∃F:List SV,F.length=11/\f (n+1)=some (.cells F):=⟨_,rfl,Ar (n+1) (.cells _) (by simp[AC,AB];rfl)⟩
 have HB:=Ar (n+2) (.cells [.x 1 (us.map AA) false]) (by simp[AC,<-hU,AH.norm1]);have HO:∀j y,h j=some y->f j=some y:=λj y e=>Ar j y (by have:=ho j y e;simp only[h_];grind);clear Ar;have s:=ho.lt;have p:∀(b:Hp)(J H:Option A7)(v:SV)(g:Hp)(i:Nat),(∀j,j=n\/j=n+1\/j<n->b j=f j)->Dm (fM d.normal) (h_ b n J) m1 v g i->Cb n (h_ g (n+1) H) i v (Dm (fM d.normal) h n):=λb J H v g i a W=>by
  obtain⟨Y,ob,hL,Z,w,hh⟩:=W;refine .inl ⟨by omega,ob,hL,Z,λk hk=>by have:=w k hk;omega,Mr (X:=h_ b n J) (m:=m1) (n1:=i) s nN nN (λj y h1 e=>?_) w hh⟩;have:=s j y e;rw[AB _ _ nN,a j nN];exact HO j y e
 have c:d.normal.V=d.V.filter λr=>!(!(Bc (I0 us r.id) us.length).2):=by simp[AH.normal,hU]
 have E:∀(K:SV->Hp->Nat->Prop),(∀b:Hp,(∀j,j=n\/j=n+1\/j<n->b j=f j)->K (.x 3 (d.normal.V.map CI.h) false) b m1)->Ab (BU.plain.call false 0) prog 104 [v1,.fn (.func 106) [] [.ptr (n+2) 0]] f m1 K:=λK G=>by
  rcases hv with⟨he,z',full,rfl⟩|⟨o,full,h1,h2,rfl,g⟩
  have hr:d.normal.V=[]:=by rw[c];simp only[vV]at he;rw[he];rfl
  rw[hr]at G;exact(gO z' full 106 [] [.ptr (n+2) 0]).use (G f λ_ _=>rfl);rw[c]at G;simp only[qj];refine wT (bs:=[.sl o 0 3 d.V.length full,.fn (.func 106) [] [.q [.x 1 (us.map AA) false]]]) (h2:=h_ f (n+2) none) 2 (λj y e=>?_) ⟨Or,.inr ⟨rfl,trivial,Ak (AC _ _ _) HB,trivial⟩,trivial⟩ ?_;simp only[h_]at e;split at e;cases e;exact e;refine qI (d75 d.V hd.V 106 [] [.q [.x 1 (us.map AA) false]] (λr=>!(Bc (I0 us r.id) us.length).2) (λx _=>c77 us C x) (by rw[AB _ _ nN];exact g)) ?_;rintro v h' n' ⟨rfl,rfl,rfl⟩;refine G _ λj hj=>?_;rw[AB _ _ nN,AB _ _ nN]
 simp[go_sem];refine E _ λb a=>?_;have l:b n=_:=(a n (.inl rfl)).trans HA;have I:b (n+1)=_:=(a (n+1) (.inr (.inl rfl))).trans HC;have A:n+1≠n:=by omega
 simp only[AF.j,AO.j]at l;simp[go_sem,l,AC];refine wM (by simpa[AH.h,AH.normal,AF.j,AO.j]using mN d.normal T) ?_;intro v3 g i W;have fin:=λH=>p b _ H v3 g i a W;obtain⟨Y,ob,⟨vf,o1,vr,o2,vc,o3,rfl,rfl,M,N,O⟩,hnd3,z,R⟩:=W;have hy3:=Dm.old (_L:=IV []) (_v:=vc) z R (show n+1<m1 by omega) ((AB _ _ A).trans I);have t:JG 3 _ _ vr o2:=N;have u:JG 6 _ _ vc o3:=O;obtain⟨s1,s2⟩:=M.st;obtain⟨s3,s4⟩:=t.st;obtain⟨s5,s6⟩:=u.st;unfold SV.B at s1 s3 s5;unfold SV.cells at s2 s4 s6;have Q:F.drop 11=[]:=List.drop_of_length_le nN;simp[go_sem,P,AC,Q,hy3,AF.j];simpa[AF.j]using fin _
theorem K6{ob:DN}{h h':Hp}(a:(AK ob).Nodup)(hh:∀k y,By ob h k=some y->h' k=some y):BL ob h':=λp hp=>hh p.1 p.2 (Z8 a hp h)
theorem UH{ob:DN}{h h':Hp}(h1:BL ob h')(h2:∀k y,h k=some y->h' k=some y):∀k y,By ob h k=some y->h' k=some y:=λk y e=>by
 simp only[By]at e;cases a:ob.lookup k with
 | none=>rw[a]at e;exact h2 k y e
 | some z=>rw[a]at e;rw[h1 _ (RW a)];exact e
def AH.renum(d:AH):AH:=⟨(Cz 0 d.W).1,d.T0,d.V,d.S⟩
theorem mV(d:AH)(hd:d.D)(K:d.normal.D)(hu:(BD [] (AD.U (Ae d.W)++d.T0.all)).length<=1048576)(hb:(Cz 0 d.normal.W).2<=1099511627776):NC 74 [d.h] (fM d.normal.renum):=by
 intro h n;refine E8 func74 rfl λho=>?_;have r:=ho.lt;obtain⟨X,E⟩:∃X:Hp,X=h_ (h_ h n (some (.cells ([AI d.W]++d.T0.j++[Cq d.V]++d.S.j)))) (n+1) (some (.cells [.x 0 [] true,.x 0 [] true,AA 0,AA 0,.x 0 [] true,.x 0 [] true,.x 0 [] true,.x 0 [] true,.x 0 [] true,.x 0 [] true,.x 0 [] true])):=⟨_,rfl⟩
 refine A6 2 [(1,.ptr n 0),(2,.ptr (n+1) 0)] X (λm=>n+2=m) ?_ (λm hm=>?_)
 . rw[E];simp[go_sem,AH.h,qw,Or,SV.cells,AF.j,AO.j]
   done
 subst hm;have hx:X n=some (.cells ([AI d.W]++d.T0.j++[Cq d.V]++d.S.j)):=by rw[E,AB _ _ nN,AC]
 have hy:X (n+1)=some (.cells [.x 0 [] true,.x 0 [] true,AA 0,AA 0,.x 0 [] true,.x 0 [] true,.x 0 [] true,.x 0 [] true,.x 0 [] true,.x 0 [] true,.x 0 [] true]):=by rw[E,AC]
 have J:∀j y,h j=some y->X j=some y:=λj y e=>by have:=r j y e;rw[E,AB _ _ nN,AB _ _ nN];exact e
 clear E;have hnn:n+1≠n:=by omega
 refine AJ ?_;simp[go_sem,hx,AF.j,AO.j];refine wM (by simpa[AH.h,AF.j,AO.j]using n43 d hd K hu) ?_;rintro v h1 n1 ⟨hn1,ob,⟨vf,o1,vr,o2,q,o3,rfl,rfl,s,u,z⟩,a,c,hh⟩;have O:=Dm.old (_L:=IV []) (_v:=q) c hh (show n<n+2 by omega) hx;have P:=Dm.old (_L:=IV []) (_v:=q) c hh (show n+1<n+2 by omega) hy;have F:=K6 a hh;have w:JG 3 _ _ vr o2:=u;have C:JG 6 _ _ q o3:=z;obtain⟨s1,s2⟩:=s.st;obtain⟨s3,s4⟩:=w.st;obtain⟨s5,s6⟩:=C.st;unfold SV.B at s1 s3 s5;unfold SV.cells at s2 s4 s6;simp[go_sem,AC,O,AF.j,AO.j,AZ,AB _ _ (show n≠n1 by omega)];obtain⟨o0,T,b⟩:BL o1 h1/\(AK o1).Nodup/\∀k∈AK o1,n+2<=k/\k<n1:=by
  refine⟨(wE.1 F).1,?_,λk hk=>c k (by rw[Ad];exact qx _ hk)⟩;rw[Ad]at a;exact(qr.1 a).1
 have l:=lO d.normal.W K.len K.W 0 vf o1 n1 (h_ (h_ h1 n (some (.cells (vf::AU d.T0.Q::AA d.T0.I::AA d.T0.move::Aa d.T0.Y::AN d.T0.Z::vr::AW d.S.A::CA d.S.L::q::CW d.S.vars::[])))) n1 (some (.cells [AA 0]))) (n1+1) s
  (λp hp=>by
    have:=b p.1 (qb.2 ⟨p,hp,rfl⟩);rw[AB _ _ nN,AB _ _ nN];exact o0 p hp) T (λg=>by have:=b _ g;omega) (AC _ _ _) nN hb
 refine qI l ?_;rintro r0 h' n' ⟨rfl,rfl,H,o,t,N,hq1,i⟩;have f:∀k,k∉AK o1->k≠n->k<n1->h' k=h1 k:=λk h1 h2 h3=>by rw[i k h1 nN,AB _ _ nN,AB _ _ h2]
 have G:=i n (λg=>by have:=b _ g;omega) nN;rw[AB _ _ nN,AC]at G;have R:=(f (n+1) (λg=>by have:=b _ g;omega) nN nN).trans P;simp[go_sem,AC,G,R];refine .inl ⟨by omega,H++(o2++o3),⟨vf,H,vr,o2,q,o3,rfl,rfl,t,u,z⟩,?_,λk hk=>?_,UH (λp hp=>?_) λk y e=>?_⟩;rw[Ad]at a ⊢;rw[o];exact a;rw[Ad,o,<-Ad]at hk;have:=c k hk;omega;rcases qf.1 hp with hp|hp;have hk:p.1∈AK o1:=by rw[<-o];exact qb.2 ⟨p,hp,rfl⟩
 have:=b _ hk;rw[AB _ _ nN];exact N p hp;have hk:p.1∈AK (o2++o3):=qb.2 ⟨p,hp,rfl⟩;have S3:=c p.1 (by rw[Ad];exact qt _ hk);have M:p.1∉AK o1:=λg=>by
  rw[Ad]at a;exact(qr.1 a).2.2 _ g _ hk rfl
 rw[AB _ _ nN,f _ M nN nN];exact(wE.1 F).2 p hp;have:=r k y e;rw[AB _ _ nN,f k (λg=>by have:=b _ g;omega) nN nN];exact Dm.old (_L:=IV []) (_v:=q) c hh nN (J k y e)
theorem bc:(BY prog 142).map (λf=>(f.name == "_",f.type,f.offset))=[(false,3,0),(false,3,1)]:=by kernel_rfl
theorem Uw{a b:Int}{h:List SV}(p:h.length=2)(f:CM prog [.int .i64 a,.int .i64 b] h (BY prog 142)=some true):h=[.int .i64 a,.int .i64 b]:=by
 rw[Cy,bc]at f
 match h,p with
 | [x, y], _ =>
  have s:(Ob prog 3).isSome=true:=by simp[go_sem]
  have t:Bd prog 3=1:=by simp[go_sem]
  have q:GR prog 3=some false:=by simp[go_sem]
  have one:∀(c:Int)(z:SV)(r:Bool),DW prog 3 (.int .i64 c) z=some r->∃d,z=.int .i64 d/\r=(c==d):=λc z r g=>by
   cases z with
   | int k d=>
    simp only[DW,s,t,q,and_true]at g;split at g;rename_i e;subst e;cases g;exact⟨d,rfl,rfl⟩;cases g
   | _=>simp[DW]at g
  simp only[DH,qq,if_false,vY,List.getElem?_cons_succ]at f;cases h1:DW prog 3 (.int .i64 a) x with
  | none=>simp[h1]at f
  | some r1 =>
   cases r1 with
   | false=>simp[h1]at f
   | true =>
    simp only[h1]at f;cases h2:DW prog 3 (.int .i64 b) y with
    | none=>simp[h2]at f
    | some r2 =>
     cases r2 with
     | false=>simp[h2]at f
     | true=>
      obtain⟨l,rfl,n⟩:=one a x true h1;obtain⟨m,rfl,o⟩:=one b y true h2;have i:a=l:=by simpa using n.symm
      have j:b=m:=by simpa using o.symm
      rw[i,j]
section
variable{E:BU}{evs:Operand->SV}{o:Oper}{h:Hp}{n:Nat}{K:SV->Hp->Nat->Prop}
theorem Hy{m y x:Operand}{q:Nat}{a b:Int}{es:List (SV×SV)}{r:Option (Nat×SV)}(Z:o.op=.mapUpdate 208 m y x)(hm:evs m=.map q)(hq:h q=some (.map es))(hy:evs y=.agg [.int .i64 a,.int .i64 b])(Q:∀p∈es,UT p)
 {es2:List (SV×SV)} (N:(match r with|some p=>Fi es p.1 (.agg [.int .i64 a,.int .i64 b]) (evs x)|none=>es++[(.agg [.int .i64 a,.int .i64 b],evs x)])=es2) (S:D7 prog 142 [.int .i64 a,.int .i64 b] es 0=some r)
 (hk:K (.tup []) (h_ h q (some (.map es2))) n):cX E prog evs o h n K:=by
 subst N;refine⟨by rw[Z];simp,λc ev _ _ R F hv=>?_⟩;have A:=hv m;have k:=hv y;have B:=hv x;rw[hm,V]at A;obtain⟨D,hρ,v⟩:=A;rw[hy]at k;have s:=Qv k;obtain⟨W,g,d,g1,J,g3,X⟩:=R.obj _ _ hq;rw[hρ]at g1;cases g1;have z:(getObj D).run prog c.w=.ok (.map g d) c.w:=by simp[getObj,Sem.run,J]
 have C:prog.underlying 208=some (.map 142 4):=Tryz.underlying208;have u:∀I,(Instr.checkKey I 10000 142 (ev y)).run prog c.w=.ok () c.w:=λI=>by rw[s];exact Iq I a b c.w
 have i:∀ob:Obj,(setObj D ob).run prog c.w=.ok () { c.w with heap:=c.w.heap.setIfInBounds D ob }:=λob=>by
  simp[setObj,Sem.run,J]
 have fin:∀(t:List (SV×SV))(f:Array MapEntry)(clock':Nat),AT (λ(p:SV×SV)(e:MapEntry)=>V c p.1 e.key/\V c p.2 e.val) t f.toList->Hh f.toList clock'->
  (Instr.mapUpdate 208 (ev m) (ev y) (ev x)).run prog c.w=.ok () { c.w with heap:=c.w.heap.setIfInBounds D (.map f clock') }->K (.tup []) (h_ h q (some (.map t))) n->
  ∃h' n' c',(execOp ev o).run prog c.w=.ok .skip c'.w/\Bk h' c'/\Fr n' c'/\Fx n c n' c'/\K (.tup []) h' n':=λt f clock' he L hr hK=>by
  obtain⟨R',E'⟩:=JR (clock':=clock') R hq hρ J he L;exact⟨_,n,_,by simp[execOp,Z,hr],R',F,⟨E',IO n,λ_ _=>rfl⟩,hK⟩
 rcases JJ S8 k c.w es g.toList 0 r g3 S with⟨rfl,hg⟩|⟨j,x2,y2,e2,ds,rfl,hg,hxy,Y,hds,hfe⟩
 have l:=EZ Tryz.underlying142 hg;refine fin _ (g.push { key:=ev y,val:=ev x,born:=d }) (d+1) (by rw[Array.toList_push];exact wl g3 (as':=[(_,evs x)]) ⟨⟨k,B⟩,trivial⟩) (by rw[Array.toList_push];exact X.push _ rfl) ?_ hk;simp[Instr.mapUpdate,AL C,v,z,u,l,i];have l:=EZ Tryz.underlying142 hg;rw[qW]at S l;obtain⟨G,v',k1,k2⟩:=Nm es 0 j x2 (by rw[qW];exact S);obtain⟨a',W,k3⟩:=Q _ (vE k1);have M:G=[.int .i64 a',.int .i64 W]:=by simpa using k3
 have hs:=Uw (by rw[M];rfl) k2;obtain⟨H,k4,k5,_⟩:=AT.get g3 k1;have O:H=e2:=by rw[Y]at k4;exact(Option.some.inj k4).symm
 subst O;simp only[hs]at k5;have P:=Qv k5;have T:g[j]? = some H:=by simpa using Y
 have U:Instr.sameBits 10000 H.key (ev y)=true:=by
  rw[P,s];have:∀n,Instr.sameBits (n+1) (.agg #[.int .i64 a,.int .i64 b]) (.agg #[.int .i64 a,.int .i64 b])=true:=λn=>by simp[Instr.sameBits]
  exact this 9999
 refine fin _ _ d (Nk j k B g3) (Hh.modify X j _ λ_=>rfl) ?_ (by simpa using hk);simp[Instr.mapUpdate,AL C,v,z,u,l,Instr.keyThatStays,T,U,i]
theorem Lv{m y x:Operand}{q:Nat}{a b:Int}{es:List (SV×SV)}{r:Option (Nat×SV)}(Z:o.op=.mapUpdate 138 m y x)(hm:evs m=.map q)(hq:h q=some (.map es))(hy:evs y=.agg [.int .i64 a,.int .i64 b])(Q:∀p∈es,UT p)
 {es2:List (SV×SV)} (N:(match r with|some p=>Fi es p.1 (.agg [.int .i64 a,.int .i64 b]) (evs x)|none=>es++[(.agg [.int .i64 a,.int .i64 b],evs x)])=es2) (S:D7 prog 142 [.int .i64 a,.int .i64 b] es 0=some r)
 (hk:K (.tup []) (h_ h q (some (.map es2))) n):cX E prog evs o h n K:=by
 subst N;refine⟨by rw[Z];simp,λc ev _ _ R F hv=>?_⟩;have A:=hv m;have k:=hv y;have B:=hv x;rw[hm,V]at A;obtain⟨D,hρ,v⟩:=A;rw[hy]at k;have s:=Qv k;obtain⟨W,g,d,g1,J,g3,X⟩:=R.obj _ _ hq;rw[hρ]at g1;cases g1;have z:(getObj D).run prog c.w=.ok (.map g d) c.w:=by simp[getObj,Sem.run,J]
 have C:prog.underlying 138=some (.map 142 3):=Tryz.underlying138;have u:∀I,(Instr.checkKey I 10000 142 (ev y)).run prog c.w=.ok () c.w:=λI=>by rw[s];exact Iq I a b c.w
 have i:∀ob:Obj,(setObj D ob).run prog c.w=.ok () { c.w with heap:=c.w.heap.setIfInBounds D ob }:=λob=>by
  simp[setObj,Sem.run,J]
 have fin:∀(t:List (SV×SV))(f:Array MapEntry)(clock':Nat),AT (λ(p:SV×SV)(e:MapEntry)=>V c p.1 e.key/\V c p.2 e.val) t f.toList->Hh f.toList clock'->
  (Instr.mapUpdate 138 (ev m) (ev y) (ev x)).run prog c.w=.ok () { c.w with heap:=c.w.heap.setIfInBounds D (.map f clock') }->K (.tup []) (h_ h q (some (.map t))) n->
  ∃h' n' c',(execOp ev o).run prog c.w=.ok .skip c'.w/\Bk h' c'/\Fr n' c'/\Fx n c n' c'/\K (.tup []) h' n':=λt f clock' he L hr hK=>by
  obtain⟨R',E'⟩:=JR (clock':=clock') R hq hρ J he L;exact⟨_,n,_,by simp[execOp,Z,hr],R',F,⟨E',IO n,λ_ _=>rfl⟩,hK⟩
 rcases JJ S8 k c.w es g.toList 0 r g3 S with⟨rfl,hg⟩|⟨j,x2,y2,e2,ds,rfl,hg,hxy,Y,hds,hfe⟩
 have l:=EZ Tryz.underlying142 hg;refine fin _ (g.push { key:=ev y,val:=ev x,born:=d }) (d+1) (by rw[Array.toList_push];exact wl g3 (as':=[(_,evs x)]) ⟨⟨k,B⟩,trivial⟩) (by rw[Array.toList_push];exact X.push _ rfl) ?_ hk;simp[Instr.mapUpdate,AL C,v,z,u,l,i];have l:=EZ Tryz.underlying142 hg;rw[qW]at S l;obtain⟨G,v',k1,k2⟩:=Nm es 0 j x2 (by rw[qW];exact S);obtain⟨a',W,k3⟩:=Q _ (vE k1);have M:G=[.int .i64 a',.int .i64 W]:=by simpa using k3
 have hs:=Uw (by rw[M];rfl) k2;obtain⟨H,k4,k5,_⟩:=AT.get g3 k1;have O:H=e2:=by rw[Y]at k4;exact(Option.some.inj k4).symm
 subst O;simp only[hs]at k5;have P:=Qv k5;have T:g[j]? = some H:=by simpa using Y
 have U:Instr.sameBits 10000 H.key (ev y)=true:=by
  rw[P,s];have:∀n,Instr.sameBits (n+1) (.agg #[.int .i64 a,.int .i64 b]) (.agg #[.int .i64 a,.int .i64 b])=true:=λn=>by simp[Instr.sameBits]
  exact this 9999
 refine fin _ _ d (Nk j k B g3) (Hh.modify X j _ λ_=>rfl) ?_ (by simpa using hk);simp[Instr.mapUpdate,AL C,v,z,u,l,Instr.keyThatStays,T,U,i]
end
def RN(s:List (Int×Int))(m:Int×Int):List (Int×Int):=if m∈s then s else s++[m]
def Dt(s:List (Int×Int))(m:Int×Int):List (Int×Int):=if m.2=0 then s else RN s m
def AF.mvs(h:AF):List (Int×Int):=(h.I,h.move)::h.Y.map λd=>(d.rev,d.move)
def Ei(s:List (Int×Int))(l:List (Int×Int)):List (Int×Int):=l.foldl Dt s
def BV(p:Int×Int):SV:=.agg [AA p.1,AA p.2]
def C4(s:List (Int×Int)):List (SV×SV):=s.map λm=>(BV m,.bool true)
theorem XD(a b c d:Int):CM prog [.int .i64 a,.int .i64 b] [.int .i64 c,.int .i64 d] (BY prog 142)=some (a==c&&b==d):=by
 rw[Cy,bc];have f:(Ob prog 3).isSome=true:=by simp[go_sem]
 have g:Bd prog 3=1:=by simp[go_sem]
 have e:GR prog 3=some false:=by simp[go_sem]
 have one:∀x y:Int,DW prog 3 (.int .i64 x) (.int .i64 y)=some (x==y):=λx y=>by simp[DW,f,g,e]
 simp only[DH,qq,if_false,vY,List.getElem?_cons_succ,one];cases h1:(a==c)<;>cases h2:(b==d)<;>simp
theorem R7(s:List (Int×Int)):∀p∈C4 s,UT p:=λp hp=>by
 obtain⟨e,_,rfl⟩:=qb.1 hp;exact⟨e.1,e.2,rfl⟩
theorem Ux(a b:Int):∀(s:List (Int×Int))(i:Nat),
 ((a,b)∉s/\D7 prog 142 [.int .i64 a,.int .i64 b] (C4 s) i=some none)\/
 ((a,b)∈s/\∃j,D7 prog 142 [.int .i64 a,.int .i64 b] (C4 s) i=some (some (i+j,.bool true))/\Fi (C4 s) j (BV (a,b)) (.bool true)=C4 s)
 | [],i=>.inl ⟨by simp,rfl⟩
 | (c,d)::r,i=>by
  have l:C4 ((c,d)::r)=(BV (c,d),.bool true)::C4 r:=rfl;rw[l];simp only[D7,BV,XD];by_cases e:a=c/\b=d;obtain⟨rfl,rfl⟩:=e;have f:(a==a&&b==b)=true:=by simp
  rw[f];exact .inr ⟨by simp,0,rfl,by simp[Fi]⟩;have f:(a==c&&b==d)=false:=by
   cases h1:(a==c)<;>cases h2:(b==d)<;>simp_all
  have g:¬((a,b)=(c,d)):=by
   intro h;cases h;exact e ⟨rfl,rfl⟩
  rw[f];rcases Ux a b r (i+1)with⟨h1,h2⟩|⟨h1,j,h2,k⟩
  exact .inl ⟨by simp only[qd,not_or];exact⟨g,h1⟩,h2⟩;refine .inr ⟨qT _ h1,j+1,by rw[show i+(j+1)=i+1+j by omega];exact h2,?_⟩;have:Fi ((SV.agg [AA c,AA d],SV.bool true)::C4 r) (j+1) (.agg [AA a,AA b]) (.bool true)=(SV.agg [AA c,AA d],SV.bool true)::Fi (C4 r) j (.agg [AA a,AA b]) (.bool true):=rfl;rw[this];exact congrArg _ k
theorem R8(s:List (Int×Int))(m:Int×Int):∃r,D7 prog 142 [.int .i64 m.1,.int .i64 m.2] (C4 s) 0=some r/\(match r with|some p=>Fi (C4 s) p.1 (.agg [.int .i64 m.1,.int .i64 m.2]) (.bool true)|none=>C4 s++[(.agg [.int .i64 m.1,.int .i64 m.2],.bool true)])=C4 (RN s m):=by
 rcases Ux m.1 m.2 s 0 with⟨h1,h2⟩|⟨h1,j,h2,a⟩
 refine⟨none,h2,?_⟩;rw[RN,nR h1];simp[C4,BV];rw[qW]at h2;refine⟨_,h2,?_⟩;rw[RN,nS h1];exact a
theorem nE(x:AF)(O:x.D)(s:List (Int×Int)){H:Hp}{n k p:Nat}(hp:H p=some (.cells [.map k]))(hk:H k=some (.map (C4 s))):
 BF prog 133 [x.h,.ptr p 0] H n (λv h' n'=>v=x.h/\h'=h_ H k (some (.map (C4 (Ei s x.mvs))))/\n'=n):=by
 refine E8 func133 rfl λB=>?_;have hpn:=(B p _ hp).1;have J:=(B k _ hk).1;have K:p≠k:=by rintro rfl;rw[hp]at hk;cases hk
 have hsd:=O.Y;obtain⟨U,l⟩:∃U:List (Int×Int)->Hp,∀f,U f=h_ (h_ H k (some (.map (C4 f)))) (n+1) (some (.cells [.x 0 [] true,AA 0,AA 0,.x 0 [] true,.x 0 [] true])):=⟨_,λ_=>rfl⟩
 have Up:∀f,U f p=some (.cells [.map k]):=λf=>by rw[l,AB _ _ nN,AB _ _ K];exact hp
 have G:∀f,U f k=some (.map (C4 f)):=λf=>by rw[l,AB _ _ nN,AC]
 have M:∀s1 s2,h_ (U s1) k (some (.map (C4 s2)))=U s2:=λs1 s2=>by
  rw[l,l];funext j;simp only[h_];grind
 have N:∀f,U f (n+1)=some (.cells [.x 0 [] true,AA 0,AA 0,.x 0 [] true,.x 0 [] true]):=λf=>by rw[l,AC]
 have L:∀f j y,U f j=some y->j<n+2:=λf j y e=>by
  rw[l]at e;have:=B j y;simp only[h_]at e;grind
 refine A6 2 [(1,.ptr p 0),(2,.q x.j),(3,.ptr (n+1) 0)] (U s) (λm=>m=n+2) ?_ (λm hm=>?_);rw[l];simp[go_sem,AF.h,Or,qw];have hb:=λj y=>B j y;refine⟨Ak (by rw[AB _ _ nN,AB _ _ nN];exact B.none (IO n)) (by simp[h_]),λj y e=>?_⟩;have h1:=hb j y;have h2:=hb k;simp only[h_]at e ⊢;grind;subst hm;refine Bz 0 [(1,.ptr p 0),(2,.q x.j),(3,.ptr (n+1) 0)] (U (Dt s (x.I,x.move))) (λm=>m=n+2) (AJ ?_) (λm hm=>?_);by_cases h0:x.move=0;simp[go_sem,AF.j,h0,Dt,Or];obtain⟨r,g1,A⟩:=R8 s (x.I,x.move);have t:(x.move !=0)=true:=by simpa using h0
 simp[go_sem,AF.j,t,Up];refine Hy (q:=k) (a:=x.I) (b:=x.move) rfl nP (G s) nP (R7 s) (es2:=C4 (RN s (x.I,x.move))) (by simp only[go_sem];cases r<;>exact A) g1 ?_;simp[go_sem,Or,M,Dt,h0];subst hm;refine Bz 0 [(1,.ptr p 0),(2,.q x.j),(3,.ptr (n+1) 0)] (U (Ei s x.mvs)) (λm=>n+2<=m) ?_ (λm hm=>?_);refine A6 0 [(1,.ptr p 0),(2,.q x.j),(3,.ptr (n+1) 0),(20,Aa x.Y),(21,AA x.Y.length),(22,AA 0)] (U (Dt s (x.I,x.move))) (λm=>m=n+2) ?_ (λm hm=>?_);simp[go_sem,AF.j,Or];subst hm;refine AP (As 1 (α:=Nat) (λi=>[(1,.ptr p 0),(2,.q x.j),(3,.ptr (n+1) 0),(20,Aa x.Y),(21,AA x.Y.length),(22,AA i)]) (λi=>U (Ei (Dt s (x.I,x.move)) ((x.Y.take i).map λd=>(d.rev,d.move))))
  (λi m=>i<=x.Y.length/\n+2<=m) (λi=>x.Y.length-i) 0 ⟨qi _,IO _⟩ ?_ AE ?_)
 simp[go_sem,look,Or];rintro i m ⟨hi,C⟩;by_cases u:i<x.Y.length;have T:=wS i nN;obtain⟨d,hd⟩:∃d,x.Y[i]=d:=⟨_,rfl⟩
 have F:Ei (Dt s (x.I,x.move)) ((x.Y.take (i+1)).map λd=>(d.rev,d.move))=Dt (Ei (Dt s (x.I,x.move)) ((x.Y.take i).map λd=>(d.rev,d.move))) (d.rev,d.move):=by
  rw[qa u,hd,qc,Ei,qX];rfl
 generalize Ei (Dt s (x.I,x.move)) ((x.Y.take i).map λd=>(d.rev,d.move))=S at F ⊢;refine Ai 0 [(1,.ptr p 0),(2,.q x.j),(3,.ptr (n+1) 0),(20,Aa x.Y),(21,AA x.Y.length),(22,AA i),(23,.bool true)] (U S) m ?_ (λm' c=>?_);simp[go_sem,Or,u];subst c;refine Ai 0 [(1,.ptr p 0),(2,.q x.j),(3,.ptr (n+1) 0),(20,Aa x.Y),(21,AA x.Y.length),(22,AA i)] (U S) m ?_ (λm' c=>?_);simp[go_sem,Or];subst c;refine AR 0 (α:=Unit) (λ_=>[(1,.ptr p 0),(2,.q x.j),(3,.ptr (n+1) 0),(20,Aa x.Y),(21,AA x.Y.length),(22,AA i)]) (λ_=>U (Dt S (d.rev,d.move))) (λ_ m'=>m<=m') (AP ?_) (λ_ m' c=>?_);refine Ao 2 [(1,.ptr p 0),(2,.q x.j),(3,.ptr (n+1) 0),(20,Aa x.Y),(21,AA x.Y.length),(22,AA i),(5,.q [AA d.rev,AA d.move])] (U S) m ?_ (λm' c=>?_);simp[go_sem,Or,u,hd,Dx.h,AZ,AC];refine⟨Ak (Ac (L S) C) (AC _ _ _),λj y e=>?_⟩;have:=L S j y e;rw[AB _ _ nN];exact e;refine AJ ?_;by_cases h0:d.move=0;simp[go_sem,h0,Dt,Or];exact c;obtain⟨r,g1,A⟩:=R8 S (d.rev,d.move);have t:(d.move !=0)=true:=by simpa using h0
 simp[go_sem,t,Up];refine Hy (q:=k) (a:=d.rev) (b:=d.move) rfl nP (G S) nP (R7 S) (es2:=C4 (RN S (d.rev,d.move))) (by simp only[go_sem];cases r<;>exact A) g1 ?_;simp[go_sem,Or,M,Dt,h0];exact c;refine AJ ?_;simp[go_sem,T,Or,-Int.natCast_add];exact⟨i+1,by omega,⟨by omega,by omega⟩,Or,by rw[<-vT,F];exact AE⟩;have:i=x.Y.length:=by omega
 subst this;refine AJ ?_;simp[go_sem];exact⟨C,λo y e=>e⟩;refine AJ ?_;simp[go_sem,AF.j,N,AC];refine .inr ⟨0,x.h,h_ H k (some (.map (C4 (Ei s x.mvs)))),rfl,by simp[AF.h,AF.j,C_,c_,Fd.E.c_,Dx.E.c_,BC.E.c_],λo y e=>?_,rfl,rfl,rfl⟩;have h1:=B o y;have h2:U (Ei s x.mvs) o=some y->h_ (U (Ei s x.mvs)) (n+1) (some (.cells [AU x.Q,AA x.I,AA x.move,Aa x.Y,AN x.Z])) o=some y\/o=n+1:=λg=>by
  by_cases A:o=n+1;exact .inr A;exact .inl (by rw[AB _ _ A];exact g)
 by_cases w:o=k;subst w;rw[AC]at e;cases e;refine⟨?_,J,?_⟩;rw[AB _ _ nN];exact G _;simp only[Ay,qE,C4,qh];intro p hp;obtain⟨z,_,rfl⟩:=qb.1 hp;exact⟨by simp[BV,C_,c_],by simp[C_]⟩;rw[AB _ _ w]at e;obtain⟨P,R⟩:=h1 e;refine⟨?_,P,R⟩;rw[AB _ _ nN,l,AB _ _ nN,AB _ _ w];exact e
end Go.Proofs.YthinbkgpjmjfeaaGreatDoor.Sh
