/- A part of the proof (part 16 of 18). -/
import Derived.Test.YthinbkgpjmjfeaaGreatDoorM15
namespace Go.Proofs.YthinbkgpjmjfeaaGreatDoor.Sh
open Go.Proofs.Tryz
inductive SW where
 | nil
 | pure (i:Nat) (t:SW)
 | one (i:Nat) (t:SW)
 | two (i j:Nat) (t u:SW)
 | three (i j k:Nat) (t u v:SW)
 | four (i j k l:Nat) (t u v x:SW)
def FJ(ops:Array Oper):Array Bool->SW->Bool
 | listed,.nil=>(Region.ready .any ops listed).isEmpty
 | listed,.pure i t=>Region.free .any ops listed i&&(Region.ready .any ops listed).contains i&&FJ ops (listed.setIfInBounds i true) t
 | listed,.one i t=>Region.ready .any ops listed==[i]&&FJ ops (listed.setIfInBounds i true) t
 | listed,.two i j t u=>Region.ready .any ops listed==[i,j]&&FJ ops (listed.setIfInBounds i true) t&&FJ ops (listed.setIfInBounds j true) u
 | listed,.three i j k t u v=>Region.ready .any ops listed==[i,j,k]&&FJ ops (listed.setIfInBounds i true) t&&FJ ops (listed.setIfInBounds j true) u&&FJ ops (listed.setIfInBounds k true) v
 | listed,.four i j k l t u v x=>Region.ready .any ops listed==[i,j,k,l]&&FJ ops (listed.setIfInBounds i true) t&&FJ ops (listed.setIfInBounds j true) u&&FJ ops (listed.setIfInBounds k true) v&&FJ ops (listed.setIfInBounds l true) x
section
variable(E:BU)(P:Program)(ops:Array Oper)(K:SA->Hp->Nat->Prop)
def Fa:Bool->SW->SA->Hp->Nat->Prop
 | _,.nil,sa,h,n=>K sa h n
 | st,.pure i t,sa,h,n=>match ops[i]? with|some o=>K4 P ops st o sa λsa'=>Fa st t sa' h n|none=>False
 | _,.one i t,sa,h,n=>match ops[i]? with|some o=>Da E P ops o sa h n (Fa false t)|none=>False
 | _,.two i j t u,sa,h,n=>match ops[i]?,ops[j]? with|some o,some q=>Da E P ops o sa h n (Fa false t)/\Da E P ops q sa h n (Fa false u)|_,_=>False
 | _,.three i j k t u v,sa,h,n=>match ops[i]?,ops[j]?,ops[k]? with|some o,some q,some r=>Da E P ops o sa h n (Fa false t)/\Da E P ops q sa h n (Fa false u)/\Da E P ops r sa h n (Fa false v)|_,_,_=>False
 | _,.four i j k l t u v x,sa,h,n=>match ops[i]?,ops[j]?,ops[k]?,ops[l]? with|some o,some q,some r,some s=>Da E P ops o sa h n (Fa false t)/\Da E P ops q sa h n (Fa false u)/\Da E P ops r sa h n (Fa false v)/\Da E P ops s sa h n (Fa false x)|_,_,_,_=>False
end
section
variable{E:BU}{P:Program}{N:Nat}{ops:Array Oper}{K:SA->Hp->Nat->Prop}
theorem Vz(hro:E.ro=none)(hdst:∀(i:Nat)(o:Oper),ops[i]? = some o->∀d,o.dst=some d->d<N)(hsel:∀(j:Nat)(o:Oper) cs b,ops[j]? = some o->o.op≠.select cs b){n0:Nat}{c0 c1:Cx}:
 ∀(t:SW)(st:Bool)(listed:Array Bool)(fuel:Nat)(sa:SA)(h:Hp)(n:Nat)(c:Cx)(a:Act),listed.size=ops.size->MR listed=fuel->FJ ops listed t=true->Fa E P ops K st t sa h n->
  E.inv c->Bk h c->Fr n c->FR E N sa c a->Fx n0 c0 n c->DF c1 c->(st=true->c=c1)->
  KU E.fc 0 P .any ops (Oc E N n0 c0 K) (λw=>∃c',c'.w=w/\DF c1 c') fuel listed a c.w:=by
 have hfr:E.fc.round=none:=hro;intro t
 induction t with
 | nil=>
  intro st listed fuel sa h n c a _ _ hok H I R F A X _ _;have hr:Region.ready .any ops listed=[]:=by simpa[FJ]using hok
  have hq:Oc E N n0 c0 K .normal a c.w:=⟨rfl,sa,h,n,c,H,rfl,R,F,A,X⟩
  cases fuel with
  | zero=>exact⟨hr,hq⟩
  | succ fuel=>exact⟨λ_=>hq,by rw[hr];simp⟩
 | pure i t ih=>
  intro st listed fuel sa h n c a hs hu hok H I R F A X X1 hst;simp only[FJ,qh]at hok;obtain⟨⟨hfree,hr⟩,hok⟩:=hok;simp only[Fa]at H;split at H
  case h_2=>exact H.elim
  rename_i o ho;have hmem:i∈Region.ready .any ops listed:=by simpa using hr
  obtain⟨hun,_,_,_⟩:=mem_ready.1 hmem;have hlt:=(qe.1 ho).1;have hF:listed.getD i false=false:=by rw[C6 nN]at hun ⊢;exact hun
  have hu2:=Dk nN hF;obtain⟨fuel,rfl⟩:∃f,fuel=f+1:=⟨fuel-1,by omega⟩
  unfold K4 at H;split at H
  case h_2=>exact H.elim
  rename_i b hg;have hw:=Gl A hg;cases b;simp only[qq,if_false]at H;refine Ee (v:=undef) hfr ho hsel (λ_ _ _ e=>by cases e.1) fuel listed a c.w (Region.free_spec ho hfree) hmem ⟨.inr ⟨hw,rfl⟩,λw=>J8 H.1 w⟩ ⟨c,rfl,X1⟩ (ih st _ fuel _ h n c _ (by simp[hs]) nN hok H.2 I R F (A.put (hdst i o ho) IE) X X1 hst)
  . simp only[if_true]at H;split at H
    case h_2=>exact H.elim
    rename_i v hv;obtain⟨u,hvu,hrun⟩:=N6 (c:=c) (W:=λw=>∃c',c'.w=w/\DF c1 c') hv (λx _=>A.ev x) (λe w hw=>by rw[hst e];exact hw);refine Ee (v:=u) hfr ho hsel (λ_ _ _ e=>by cases e.1) fuel listed a c.w (Region.free_spec ho hfree) hmem ⟨.inl ⟨hw,hrun⟩,λw=>KF hv w⟩ ⟨c,rfl,X1⟩
     (ih st _ fuel _ h n c _ (by simp[hs]) nN hok H I R F (A.put (hdst i o ho) hvu) X X1 hst)
 | one i t ih=>
  intro st listed fuel sa h n c a hs hu hok H I R F A X X1 hst;simp only[FJ,qh,beq_iff_eq]at hok;obtain⟨hr,hok⟩:=hok;simp only[Fa]at H;split at H
  case h_2=>exact H.elim
  rename_i o ho;have hmem:i∈Region.ready .any ops listed:=by rw[hr];simp
  obtain⟨hun,_,_,_⟩:=mem_ready.1 hmem;have hlt:=(qe.1 ho).1;have hF:listed.getD i false=false:=by rw[C6 nN]at hun ⊢;exact hun
  have hu2:=Dk nN hF;obtain⟨fuel,rfl⟩:∃f,fuel=f+1:=⟨fuel-1,by omega⟩
  refine⟨λe=>(by rw[e]at hr;cases hr),λj hj=>?_⟩;rw[hr]at hj;obtain rfl:=qA.1 hj;exact BS ho (hdst j o ho) H I R F A λsa' h' n' c' a' hT R' F' A' X'=>⟨⟨c',rfl,X1.trans X'.ext⟩,ih false _ fuel _ h' n' c' a' (by simp[hs]) nN hok hT (E.ext X'.ext I) R' F' A' (X.trans X') (X1.trans X'.ext) nO⟩
 | two i j t u iht ihu =>
  intro st listed fuel sa h n c a hs hu hok H I R F A X X1 hst;simp only[FJ,qh,beq_iff_eq]at hok;obtain⟨⟨hr,hok1⟩,hok2⟩:=hok;simp only[Fa]at H;split at H
  case h_2=>exact H.elim
  rename_i o q ho hq;have hun:∀k,k∈Region.ready .any ops listed->MR (listed.setIfInBounds k true)+1=MR listed:=λk hk=>by
   obtain⟨hun,o',ho',_⟩:=mem_ready.1 hk;have hlt:=(qe.1 ho').1;have hF:listed.getD k false=false:=by rw[C6 nN]at hun ⊢;exact hun
   exact Dk nN hF
  have hui:=hun i (by rw[hr];simp);have huj:=hun j (by rw[hr];simp);obtain⟨fuel,rfl⟩:∃f,fuel=f+1:=⟨fuel-1,by omega⟩
  refine⟨λe=>(by rw[e]at hr;cases hr),λk hk=>?_⟩;rw[hr]at hk;rcases qd.1 hk with rfl|hk;exact BS ho (hdst _ o ho) H.1 I R F A λsa' h' n' c' a' hT R' F' A' X'=>⟨⟨c',rfl,X1.trans X'.ext⟩,iht false _ fuel _ h' n' c' a' (by simp[hs]) nN hok1 hT (E.ext X'.ext I) R' F' A' (X.trans X') (X1.trans X'.ext) nO⟩
  obtain rfl:=qA.1 hk;exact BS hq (hdst _ q hq) H.2 I R F A λsa' h' n' c' a' hT R' F' A' X'=>⟨⟨c',rfl,X1.trans X'.ext⟩,ihu false _ fuel _ h' n' c' a' (by simp[hs]) nN hok2 hT (E.ext X'.ext I) R' F' A' (X.trans X') (X1.trans X'.ext) nO⟩
 | three i j k t u v iht ihu ihv =>
  intro st listed fuel sa h n c a hs hu hok H I R F A X X1 hst;simp only[FJ,qh,beq_iff_eq]at hok;obtain⟨⟨⟨hr,hok1⟩,hok2⟩,hok3⟩:=hok;simp only[Fa]at H;split at H
  case h_2=>exact H.elim
  rename_i o q r ho hq hr3;have hun:∀k,k∈Region.ready .any ops listed->MR (listed.setIfInBounds k true)+1=MR listed:=λk hk=>by
   obtain⟨hun,o',ho',_⟩:=mem_ready.1 hk;have hlt:=(qe.1 ho').1;have hF:listed.getD k false=false:=by rw[C6 nN]at hun ⊢;exact hun
   exact Dk nN hF
  have hui:=hun i (by rw[hr];simp);have huj:=hun j (by rw[hr];simp);have huk:=hun k (by rw[hr];simp);obtain⟨fuel,rfl⟩:∃f,fuel=f+1:=⟨fuel-1,by omega⟩
  refine⟨λe=>(by rw[e]at hr;cases hr),λk' hk=>?_⟩;rw[hr]at hk;rcases qd.1 hk with rfl|hk;exact BS ho (hdst _ o ho) H.1 I R F A λsa' h' n' c' a' hT R' F' A' X'=>⟨⟨c',rfl,X1.trans X'.ext⟩,iht false _ fuel _ h' n' c' a' (by simp[hs]) nN hok1 hT (E.ext X'.ext I) R' F' A' (X.trans X') (X1.trans X'.ext) nO⟩
  rcases qd.1 hk with rfl|hk;exact BS hq (hdst _ q hq) H.2.1 I R F A λsa' h' n' c' a' hT R' F' A' X'=>⟨⟨c',rfl,X1.trans X'.ext⟩,ihu false _ fuel _ h' n' c' a' (by simp[hs]) nN hok2 hT (E.ext X'.ext I) R' F' A' (X.trans X') (X1.trans X'.ext) nO⟩
  obtain rfl:=qA.1 hk;exact BS hr3 (hdst _ r hr3) H.2.2 I R F A λsa' h' n' c' a' hT R' F' A' X'=>⟨⟨c',rfl,X1.trans X'.ext⟩,ihv false _ fuel _ h' n' c' a' (by simp[hs]) nN hok3 hT (E.ext X'.ext I) R' F' A' (X.trans X') (X1.trans X'.ext) nO⟩
 | four i j k l t u v x iht ihu ihv ihx =>
  intro st listed fuel sa h n c a hs hu hok H I R F A X X1 hst;simp only[FJ,qh,beq_iff_eq]at hok;obtain⟨⟨⟨⟨hr,hok1⟩,hok2⟩,hok3⟩,hok4⟩:=hok;simp only[Fa]at H;split at H
  case h_2=>exact H.elim
  rename_i o q r s ho hq hr3 hr4;have hun:∀k,k∈Region.ready .any ops listed->MR (listed.setIfInBounds k true)+1=MR listed:=λk hk=>by
   obtain⟨hun,o',ho',_⟩:=mem_ready.1 hk;have hlt:=(qe.1 ho').1;have hF:listed.getD k false=false:=by rw[C6 nN]at hun ⊢;exact hun
   exact Dk nN hF
  have hui:=hun i (by rw[hr];simp);have huj:=hun j (by rw[hr];simp);have huk:=hun k (by rw[hr];simp);have hul:=hun l (by rw[hr];simp);obtain⟨fuel,rfl⟩:∃f,fuel=f+1:=⟨fuel-1,by omega⟩
  refine⟨λe=>(by rw[e]at hr;cases hr),λk' hk=>?_⟩;rw[hr]at hk;rcases qd.1 hk with rfl|hk;exact BS ho (hdst _ o ho) H.1 I R F A λsa' h' n' c' a' hT R' F' A' X'=>⟨⟨c',rfl,X1.trans X'.ext⟩,iht false _ fuel _ h' n' c' a' (by simp[hs]) nN hok1 hT (E.ext X'.ext I) R' F' A' (X.trans X') (X1.trans X'.ext) nO⟩
  rcases qd.1 hk with rfl|hk;exact BS hq (hdst _ q hq) H.2.1 I R F A λsa' h' n' c' a' hT R' F' A' X'=>⟨⟨c',rfl,X1.trans X'.ext⟩,ihu false _ fuel _ h' n' c' a' (by simp[hs]) nN hok2 hT (E.ext X'.ext I) R' F' A' (X.trans X') (X1.trans X'.ext) nO⟩
  rcases qd.1 hk with rfl|hk;exact BS hr3 (hdst _ r hr3) H.2.2.1 I R F A λsa' h' n' c' a' hT R' F' A' X'=>⟨⟨c',rfl,X1.trans X'.ext⟩,ihv false _ fuel _ h' n' c' a' (by simp[hs]) nN hok3 hT (E.ext X'.ext I) R' F' A' (X.trans X') (X1.trans X'.ext) nO⟩
  obtain rfl:=qA.1 hk;exact BS hr4 (hdst _ s hr4) H.2.2.2 I R F A λsa' h' n' c' a' hT R' F' A' X'=>⟨⟨c',rfl,X1.trans X'.ext⟩,ihx false _ fuel _ h' n' c' a' (by simp[hs]) nN hok4 hT (E.ext X'.ext I) R' F' A' (X.trans X') (X1.trans X'.ext) nO⟩
theorem Zd(k:E.ro=none)(hm:P.follows .mixedOrders=true)(t:SW){id:Nat}{Q:Ca}{sa:SA}{h:Hp}{n:Nat}(v:Region.noSelect ops=true)(g:FJ ops (Array.replicate ops.size false) t=true)
 (H:Fa E P ops (Q .normal) true t sa h n):Fc E P N (.region id ops true) Q sa h n:=by
 intro hd c a I R F A;simp only[Code.dok,qE]at hd;have f:∀(i:Nat)(o:Oper),ops[i]? = some o->∀d,o.dst=some d->d<N:=λi o u d e=>by
  have:=hd o (by simpa using Array.mem_of_getElem? u);rw[e]at this;simpa using this
 have:=Vz (E:=E) (P:=P) (N:=N) (K:=Q .normal) (n0:=n) (c0:=c) (c1:=c.drew) k f (Region.noSelect_spec v) t true (Array.replicate ops.size false) ops.size sa h n c.drew a nO (by simp[MR]) g H
  (E.ext c.zc I) R.drew (λj s=>F j s) (A.ext c.zc) ⟨c.zc,IO _,λ_ _=>rfl⟩ (wR _) (λ_=>rfl)
 refine wpIn_mono (wpIn_region_any hm (Gd (S:=λw=>∃b,b.w=w/\DF c.drew b) _ _ _ _ this)) ?_;rintro e a' w' ⟨rfl,l,h',n',b,h1,h2,m,p,q,r⟩;exact⟨l,h',n',b,h1,h2,m,p,q,r⟩
end
open Proofs
noncomputable def LK:(E:BU)->(P:Program)->(ops:Array Oper)->(K:SA->Hp->Nat->Prop)->Bool->SW->SA->Hp->Nat->Prop:=Classical.choose (BT Fa)
theorem Ge:LK=Fa:=vb (BT Fa)
noncomputable def aG:(E:BU)->(P:Program)->(ops:Array Oper)->(K:SA->Hp->Nat->Prop)->SW->SA->Option Tmp->SV->Hp->Nat->Prop:=
 Classical.choose (BT λE P ops K t sa dst v h n=>LK E P ops K false t (C3 sa dst v) h n)
section
variable(E:BU)(P:Program)(ops:Array Oper)(K:SA->Hp->Nat->Prop)(st:Bool)(t u:SW)(sa:SA)(h:Hp)(n i j:Nat)
@[go_sem] theorem aI(dst:Option Tmp)(w:SV):aG E P ops K t sa dst w h n=LK E P ops K false t (C3 sa dst w) h n:=by
 unfold aG;rw[vb (BT λE P ops K t sa dst v h n=>LK E P ops K false t (C3 sa dst v) h n)]
theorem Xa(o:Oper):aG E P ops K t sa o.dst=λv h' n'=>Fa E P ops K false t (C3 sa o.dst v) h' n':=by
 funext v h' n';rw[aI,Ge]
@[go_sem] theorem jK:LK E P ops K st .nil sa h n=K sa h n:=by rw[Ge];simp only[Fa]
@[go_sem] theorem fi:LK E P ops K st (.pure i t) sa h n=match ops[i]? with
 | some o=>(match C1 ops sa o with
  | some b=>if b=true then(match IY P st (EV sa) o.op with|some v=>LK E P ops K st t (C3 sa o.dst v) h n|none=>False)else G9 o.op=true/\LK E P ops K st t (C3 sa o.dst (.tup [])) h n
  | none=>False)
 | none=>False:=by
 rw[Ge];simp only[Fa,K4]
 all_goals
  cases ops[i]? with
  | none=>rfl
  | some o =>
   simp only;cases C1 ops sa o with
   | none=>rfl
   | some b=>cases b with
    | false=>rfl
    | true=>simp only[if_true];cases IY P st (EV sa) o.op<;>rfl
def Fv(o:Oper):Prop:=
 match C1 ops sa o with
 | some b=>if b=true then Fj E P o sa h n (aG E P ops K t sa o.dst)else LK E P ops K false t (C3 sa o.dst (.tup [])) h n
 | none=>False
theorem JW(o:Oper):Fv E P ops K t sa h n o=Da E P ops o sa h n (Fa E P ops K false t):=by
 unfold Fv Da;rw[Xa,Ge]
 all_goals
  cases C1 ops sa o with
  | none=>rfl
  | some b=>cases b<;>rfl
@[go_sem] theorem jM:LK E P ops K st (.one i t) sa h n=match ops[i]? with|some o=>Fv E P ops K t sa h n o|none=>False:=by
 rw[Ge];simp only[Fa,JW]<;>cases ops[i]? <;> rfl
@[go_sem] theorem jP:LK E P ops K st (.two i j t u) sa h n=match ops[i]?,ops[j]? with|some o,some q=>Fv E P ops K t sa h n o/\Fv E P ops K u sa h n q|_,_=>False:=by
 rw[Ge];simp only[Fa,JW]<;>cases ops[i]? <;> cases ops[j]? <;> rfl
variable(v:SW)(k:Nat)
@[go_sem] theorem fK:LK E P ops K st (.three i j k t u v) sa h n=match ops[i]?,ops[j]?,ops[k]? with|some o,some q,some r=>Fv E P ops K t sa h n o/\Fv E P ops K u sa h n q/\Fv E P ops K v sa h n r|_,_,_=>False:=by
 rw[Ge];simp only[Fa,JW]<;>cases ops[i]? <;> cases ops[j]? <;> cases ops[k]? <;> rfl
variable(x:SW)(l:Nat)
@[go_sem] theorem fg:LK E P ops K st (.four i j k l t u v x) sa h n=match ops[i]?,ops[j]?,ops[k]?,ops[l]? with|some o,some q,some r,some s=>Fv E P ops K t sa h n o/\Fv E P ops K u sa h n q/\Fv E P ops K v sa h n r/\Fv E P ops K x sa h n s|_,_,_,_=>False:=by
 rw[Ge];simp only[Fa,JW]<;>cases ops[i]? <;> cases ops[j]? <;> cases ops[k]? <;> cases ops[l]? <;> rfl
end
attribute [go_sem] Fv
theorem cV{E:BU}{N id:Nat}{a:Array Oper}{Q:Ca}{sa:SA}{h:Hp}{n:Nat}(t:SW)(c:E.ro=none)(d:Region.noSelect a=true)(b:FJ a (Array.replicate a.size false) t=true)
 (H:LK E prog a (Q .normal) true t sa h n):SP E N (.region id a true) Q sa h n:=
 Zd c follows t d b (by rw[<-Ge];exact H)
set_option maxRecDepth 10000
set_option maxHeartbeats 4000000
def cH:Og:=(.pure 0 (.pure 2 (.pure 3 (.pure 4 (.pure 6 (.pure 7 (.pure 8 (.three 1 5 9 (.two 5 9 (.one 9 (.one 10 (.one 11 (.pure 12 (.pure 13 (.one 14 .nil)))))) (.one 5 (.one 10 (.one 11 (.pure 12 (.pure 13 (.one 14 .nil))))))) (.two 1 9 (.one 9 (.one 10 (.one 11 (.pure 12 (.pure 13 (.one 14 .nil)))))) (.two 1 10 (.one 10 (.one 11 (.pure 12 (.pure 13 (.one 14 .nil))))) (.one 1 (.one 11 (.pure 12 (.pure 13 (.one 14 .nil))))))) (.two 1 5 (.one 5 (.one 10 (.one 11 (.pure 12 (.pure 13 (.one 14 .nil)))))) (.two 1 10 (.one 10 (.one 11 (.pure 12 (.pure 13 (.one 14 .nil))))) (.one 1 (.one 11 (.pure 12 (.pure 13 (.one 14 .nil)))))))))))))))
def Yx:Og:=(.pure 0 (.pure 2 (.pure 3 (.pure 4 (.two 1 5 (.one 5 (.one 6 (.pure 7 (.pure 8 (.one 9 .nil))))) (.one 1 (.one 6 (.pure 7 (.pure 8 (.one 9 .nil))))))))))
def Yy:SW:=(.pure 0 (.pure 1 (.pure 2 (.pure 4 (.pure 6 (.pure 7 (.pure 10 (.pure 11 (.pure 12 (.pure 13 (.four 3 5 9 14 (.three 5 9 14 (.three 8 9 14 (.two 9 14 (.one 14 (.one 15 (.one 16 (.one 17 (.one 18 .nil))))) (.one 9 (.one 15 (.one 16 (.one 17 (.one 18 .nil)))))) (.two 8 14 (.one 14 (.one 15 (.one 16 (.one 17 (.one 18 .nil))))) (.two 8 15 (.one 15 (.one 16 (.one 17 (.one 18 .nil)))) (.one 8 (.one 16 (.one 17 (.one 18 .nil)))))) (.two 8 9 (.one 9 (.one 15 (.one 16 (.one 17 (.one 18 .nil))))) (.two 8 15 (.one 15 (.one 16 (.one 17 (.one 18 .nil)))) (.one 8 (.one 16 (.one 17 (.one 18 .nil))))))) (.two 5 14 (.two 8 14 (.one 14 (.one 15 (.one 16 (.one 17 (.one 18 .nil))))) (.two 8 15 (.one 15 (.one 16 (.one 17 (.one 18 .nil)))) (.one 8 (.one 16 (.one 17 (.one 18 .nil)))))) (.two 5 15 (.two 8 15 (.one 15 (.one 16 (.one 17 (.one 18 .nil)))) (.one 8 (.one 16 (.one 17 (.one 18 .nil))))) (.one 5 (.one 8 (.one 16 (.one 17 (.one 18 .nil))))))) (.two 5 9 (.two 8 9 (.one 9 (.one 15 (.one 16 (.one 17 (.one 18 .nil))))) (.two 8 15 (.one 15 (.one 16 (.one 17 (.one 18 .nil)))) (.one 8 (.one 16 (.one 17 (.one 18 .nil)))))) (.two 5 15 (.two 8 15 (.one 15 (.one 16 (.one 17 (.one 18 .nil)))) (.one 8 (.one 16 (.one 17 (.one 18 .nil))))) (.one 5 (.one 8 (.one 16 (.one 17 (.one 18 .nil)))))))) (.four 3 8 9 14 (.three 8 9 14 (.two 9 14 (.one 14 (.one 15 (.one 16 (.one 17 (.one 18 .nil))))) (.one 9 (.one 15 (.one 16 (.one 17 (.one 18 .nil)))))) (.two 8 14 (.one 14 (.one 15 (.one 16 (.one 17 (.one 18 .nil))))) (.two 8 15 (.one 15 (.one 16 (.one 17 (.one 18 .nil)))) (.one 8 (.one 16 (.one 17 (.one 18 .nil)))))) (.two 8 9 (.one 9 (.one 15 (.one 16 (.one 17 (.one 18 .nil))))) (.two 8 15 (.one 15 (.one 16 (.one 17 (.one 18 .nil)))) (.one 8 (.one 16 (.one 17 (.one 18 .nil))))))) (.three 3 9 14 (.two 9 14 (.one 14 (.one 15 (.one 16 (.one 17 (.one 18 .nil))))) (.one 9 (.one 15 (.one 16 (.one 17 (.one 18 .nil)))))) (.two 3 14 (.one 14 (.one 15 (.one 16 (.one 17 (.one 18 .nil))))) (.two 3 15 (.one 15 (.one 16 (.one 17 (.one 18 .nil)))) (.two 3 16 (.one 16 (.one 17 (.one 18 .nil))) (.one 3 (.one 17 (.one 18 .nil)))))) (.two 3 9 (.one 9 (.one 15 (.one 16 (.one 17 (.one 18 .nil))))) (.two 3 15 (.one 15 (.one 16 (.one 17 (.one 18 .nil)))) (.two 3 16 (.one 16 (.one 17 (.one 18 .nil))) (.one 3 (.one 17 (.one 18 .nil))))))) (.three 3 8 14 (.two 8 14 (.one 14 (.one 15 (.one 16 (.one 17 (.one 18 .nil))))) (.two 8 15 (.one 15 (.one 16 (.one 17 (.one 18 .nil)))) (.one 8 (.one 16 (.one 17 (.one 18 .nil)))))) (.two 3 14 (.one 14 (.one 15 (.one 16 (.one 17 (.one 18 .nil))))) (.two 3 15 (.one 15 (.one 16 (.one 17 (.one 18 .nil)))) (.two 3 16 (.one 16 (.one 17 (.one 18 .nil))) (.one 3 (.one 17 (.one 18 .nil)))))) (.three 3 8 15 (.two 8 15 (.one 15 (.one 16 (.one 17 (.one 18 .nil)))) (.one 8 (.one 16 (.one 17 (.one 18 .nil))))) (.two 3 15 (.one 15 (.one 16 (.one 17 (.one 18 .nil)))) (.two 3 16 (.one 16 (.one 17 (.one 18 .nil))) (.one 3 (.one 17 (.one 18 .nil))))) (.two 3 8 (.one 8 (.one 16 (.one 17 (.one 18 .nil)))) (.two 3 16 (.one 16 (.one 17 (.one 18 .nil))) (.one 3 (.one 17 (.one 18 .nil))))))) (.three 3 8 9 (.two 8 9 (.one 9 (.one 15 (.one 16 (.one 17 (.one 18 .nil))))) (.two 8 15 (.one 15 (.one 16 (.one 17 (.one 18 .nil)))) (.one 8 (.one 16 (.one 17 (.one 18 .nil)))))) (.two 3 9 (.one 9 (.one 15 (.one 16 (.one 17 (.one 18 .nil))))) (.two 3 15 (.one 15 (.one 16 (.one 17 (.one 18 .nil)))) (.two 3 16 (.one 16 (.one 17 (.one 18 .nil))) (.one 3 (.one 17 (.one 18 .nil)))))) (.three 3 8 15 (.two 8 15 (.one 15 (.one 16 (.one 17 (.one 18 .nil)))) (.one 8 (.one 16 (.one 17 (.one 18 .nil))))) (.two 3 15 (.one 15 (.one 16 (.one 17 (.one 18 .nil)))) (.two 3 16 (.one 16 (.one 17 (.one 18 .nil))) (.one 3 (.one 17 (.one 18 .nil))))) (.two 3 8 (.one 8 (.one 16 (.one 17 (.one 18 .nil)))) (.two 3 16 (.one 16 (.one 17 (.one 18 .nil))) (.one 3 (.one 17 (.one 18 .nil)))))))) (.three 3 5 14 (.two 5 14 (.two 8 14 (.one 14 (.one 15 (.one 16 (.one 17 (.one 18 .nil))))) (.two 8 15 (.one 15 (.one 16 (.one 17 (.one 18 .nil)))) (.one 8 (.one 16 (.one 17 (.one 18 .nil)))))) (.two 5 15 (.two 8 15 (.one 15 (.one 16 (.one 17 (.one 18 .nil)))) (.one 8 (.one 16 (.one 17 (.one 18 .nil))))) (.one 5 (.one 8 (.one 16 (.one 17 (.one 18 .nil))))))) (.three 3 8 14 (.two 8 14 (.one 14 (.one 15 (.one 16 (.one 17 (.one 18 .nil))))) (.two 8 15 (.one 15 (.one 16 (.one 17 (.one 18 .nil)))) (.one 8 (.one 16 (.one 17 (.one 18 .nil)))))) (.two 3 14 (.one 14 (.one 15 (.one 16 (.one 17 (.one 18 .nil))))) (.two 3 15 (.one 15 (.one 16 (.one 17 (.one 18 .nil)))) (.two 3 16 (.one 16 (.one 17 (.one 18 .nil))) (.one 3 (.one 17 (.one 18 .nil)))))) (.three 3 8 15 (.two 8 15 (.one 15 (.one 16 (.one 17 (.one 18 .nil)))) (.one 8 (.one 16 (.one 17 (.one 18 .nil))))) (.two 3 15 (.one 15 (.one 16 (.one 17 (.one 18 .nil)))) (.two 3 16 (.one 16 (.one 17 (.one 18 .nil))) (.one 3 (.one 17 (.one 18 .nil))))) (.two 3 8 (.one 8 (.one 16 (.one 17 (.one 18 .nil)))) (.two 3 16 (.one 16 (.one 17 (.one 18 .nil))) (.one 3 (.one 17 (.one 18 .nil))))))) (.three 3 5 15 (.two 5 15 (.two 8 15 (.one 15 (.one 16 (.one 17 (.one 18 .nil)))) (.one 8 (.one 16 (.one 17 (.one 18 .nil))))) (.one 5 (.one 8 (.one 16 (.one 17 (.one 18 .nil)))))) (.three 3 8 15 (.two 8 15 (.one 15 (.one 16 (.one 17 (.one 18 .nil)))) (.one 8 (.one 16 (.one 17 (.one 18 .nil))))) (.two 3 15 (.one 15 (.one 16 (.one 17 (.one 18 .nil)))) (.two 3 16 (.one 16 (.one 17 (.one 18 .nil))) (.one 3 (.one 17 (.one 18 .nil))))) (.two 3 8 (.one 8 (.one 16 (.one 17 (.one 18 .nil)))) (.two 3 16 (.one 16 (.one 17 (.one 18 .nil))) (.one 3 (.one 17 (.one 18 .nil)))))) (.two 3 5 (.one 5 (.one 8 (.one 16 (.one 17 (.one 18 .nil))))) (.two 3 8 (.one 8 (.one 16 (.one 17 (.one 18 .nil)))) (.two 3 16 (.one 16 (.one 17 (.one 18 .nil))) (.one 3 (.one 17 (.one 18 .nil)))))))) (.three 3 5 9 (.two 5 9 (.two 8 9 (.one 9 (.one 15 (.one 16 (.one 17 (.one 18 .nil))))) (.two 8 15 (.one 15 (.one 16 (.one 17 (.one 18 .nil)))) (.one 8 (.one 16 (.one 17 (.one 18 .nil)))))) (.two 5 15 (.two 8 15 (.one 15 (.one 16 (.one 17 (.one 18 .nil)))) (.one 8 (.one 16 (.one 17 (.one 18 .nil))))) (.one 5 (.one 8 (.one 16 (.one 17 (.one 18 .nil))))))) (.three 3 8 9 (.two 8 9 (.one 9 (.one 15 (.one 16 (.one 17 (.one 18 .nil))))) (.two 8 15 (.one 15 (.one 16 (.one 17 (.one 18 .nil)))) (.one 8 (.one 16 (.one 17 (.one 18 .nil)))))) (.two 3 9 (.one 9 (.one 15 (.one 16 (.one 17 (.one 18 .nil))))) (.two 3 15 (.one 15 (.one 16 (.one 17 (.one 18 .nil)))) (.two 3 16 (.one 16 (.one 17 (.one 18 .nil))) (.one 3 (.one 17 (.one 18 .nil)))))) (.three 3 8 15 (.two 8 15 (.one 15 (.one 16 (.one 17 (.one 18 .nil)))) (.one 8 (.one 16 (.one 17 (.one 18 .nil))))) (.two 3 15 (.one 15 (.one 16 (.one 17 (.one 18 .nil)))) (.two 3 16 (.one 16 (.one 17 (.one 18 .nil))) (.one 3 (.one 17 (.one 18 .nil))))) (.two 3 8 (.one 8 (.one 16 (.one 17 (.one 18 .nil)))) (.two 3 16 (.one 16 (.one 17 (.one 18 .nil))) (.one 3 (.one 17 (.one 18 .nil))))))) (.three 3 5 15 (.two 5 15 (.two 8 15 (.one 15 (.one 16 (.one 17 (.one 18 .nil)))) (.one 8 (.one 16 (.one 17 (.one 18 .nil))))) (.one 5 (.one 8 (.one 16 (.one 17 (.one 18 .nil)))))) (.three 3 8 15 (.two 8 15 (.one 15 (.one 16 (.one 17 (.one 18 .nil)))) (.one 8 (.one 16 (.one 17 (.one 18 .nil))))) (.two 3 15 (.one 15 (.one 16 (.one 17 (.one 18 .nil)))) (.two 3 16 (.one 16 (.one 17 (.one 18 .nil))) (.one 3 (.one 17 (.one 18 .nil))))) (.two 3 8 (.one 8 (.one 16 (.one 17 (.one 18 .nil)))) (.two 3 16 (.one 16 (.one 17 (.one 18 .nil))) (.one 3 (.one 17 (.one 18 .nil)))))) (.two 3 5 (.one 5 (.one 8 (.one 16 (.one 17 (.one 18 .nil))))) (.two 3 8 (.one 8 (.one 16 (.one 17 (.one 18 .nil)))) (.two 3 16 (.one 16 (.one 17 (.one 18 .nil))) (.one 3 (.one 17 (.one 18 .nil)))))))))))))))))))
def Yz:Og:=(.pure 0 (.pure 1 (.pure 2 (.pure 4 (.pure 6 (.pure 7 (.pure 8 (.pure 10 (.three 3 5 9 (.two 5 9 (.one 9 (.one 11 (.pure 12 (.one 13 (.one 14 (.one 15 (.pure 16 (.one 17 .nil)))))))) (.two 5 11 (.one 11 (.pure 12 (.one 13 (.one 14 (.one 15 (.pure 16 (.one 17 .nil))))))) (.pure 12 (.two 5 13 (.one 13 (.one 14 (.one 15 (.pure 16 (.one 17 .nil))))) (.one 5 (.one 14 (.one 15 (.pure 16 (.one 17 .nil))))))))) (.two 3 9 (.one 9 (.one 11 (.pure 12 (.one 13 (.one 14 (.one 15 (.pure 16 (.one 17 .nil)))))))) (.two 3 11 (.one 11 (.pure 12 (.one 13 (.one 14 (.one 15 (.pure 16 (.one 17 .nil))))))) (.pure 12 (.two 3 13 (.one 13 (.one 14 (.one 15 (.pure 16 (.one 17 .nil))))) (.two 3 14 (.one 14 (.one 15 (.pure 16 (.one 17 .nil)))) (.one 3 (.one 15 (.pure 16 (.one 17 .nil))))))))) (.three 3 5 11 (.two 5 11 (.one 11 (.pure 12 (.one 13 (.one 14 (.one 15 (.pure 16 (.one 17 .nil))))))) (.pure 12 (.two 5 13 (.one 13 (.one 14 (.one 15 (.pure 16 (.one 17 .nil))))) (.one 5 (.one 14 (.one 15 (.pure 16 (.one 17 .nil)))))))) (.two 3 11 (.one 11 (.pure 12 (.one 13 (.one 14 (.one 15 (.pure 16 (.one 17 .nil))))))) (.pure 12 (.two 3 13 (.one 13 (.one 14 (.one 15 (.pure 16 (.one 17 .nil))))) (.two 3 14 (.one 14 (.one 15 (.pure 16 (.one 17 .nil)))) (.one 3 (.one 15 (.pure 16 (.one 17 .nil)))))))) (.pure 12 (.three 3 5 13 (.two 5 13 (.one 13 (.one 14 (.one 15 (.pure 16 (.one 17 .nil))))) (.one 5 (.one 14 (.one 15 (.pure 16 (.one 17 .nil)))))) (.two 3 13 (.one 13 (.one 14 (.one 15 (.pure 16 (.one 17 .nil))))) (.two 3 14 (.one 14 (.one 15 (.pure 16 (.one 17 .nil)))) (.one 3 (.one 15 (.pure 16 (.one 17 .nil)))))) (.two 3 5 (.one 5 (.one 14 (.one 15 (.pure 16 (.one 17 .nil))))) (.two 3 14 (.one 14 (.one 15 (.pure 16 (.one 17 .nil)))) (.one 3 (.one 15 (.pure 16 (.one 17 .nil))))))))))))))))))
theorem M5.fz{h' h2:Hp}{z:Nat}{es:List SV}{v:SV}{ob:DN}(H:M5 z es v ob)(a:∀e∈es,e.B=true/\e.cells.length=z)(c:BL ob h')(b:∀k∈AK ob,h2 k=none):Jc h' h2 [v] [.x z es false]:=
 Lf H rfl a c b λcs sub g _ _=>by
  obtain⟨rfl,rfl⟩:=g;refine⟨Bv a,0,λK _=>?_⟩;generalize es.flatMap SV.cells=l
  induction l with
  | nil=>trivial
  | cons x l ih=>exact⟨Or,ih⟩
theorem fj{E:BU}{N:Nat}{a:Code}{Q:Ca}{sa:SA}{h:Hp}{n:Nat}(H:HQ h n->SP E N a Q sa h n):SP E N a Q sa h n:=
 λhd c b I R F A=>H (λo x e=>E5 F (R.obj o x e)) hd c b I R F A
theorem IK{z:Nat}:∀{es:List SV},(∀e∈es,e.cells.length=z)->(es.flatMap SV.cells).length=es.length*z
 | [],_=>by simp
 | e::es,h=>by rw[qV,qk,h e nO,IK λx a=>h x (by simp[a]),qo,wd];omega
theorem VK(l:List Dx):((l.map Dx.h).flatMap SV.cells).length=l.length*2:=by
 induction l with
 | nil=>rfl
 | cons a l ih=>simp only[qg,qV,qk,ih,qo];simp[Dx.h,SV.cells];omega
def I76(x:AF)(H:Hp)(n:Nat)(a:SV×SV×DN×DN×Hp)(m:Nat):Prop:=n+2<=m/\M5 2 (x.Y.map Dx.h) a.1 a.2.2.1/\M5 4 (x.Z.map BC.h) a.2.1 a.2.2.2.1/\(AK (a.2.2.1++a.2.2.2.1)).Nodup/\(∀k∈AK (a.2.2.1++a.2.2.2.1),n+2<=k/\k<m)/\BL (a.2.2.1++a.2.2.2.1) a.2.2.2.2/\a.2.2.2.2 n=some (.cells [AU x.Q,AA x.I,AA x.move,a.1,a.2.1])/\a.2.2.2.2 (n+1)=some (.cells [.x 0 [] true,AA 0,AA 0,.x 0 [] true,.x 0 [] true])/\∀j y,H j=some y->a.2.2.2.2 j=some y
theorem w76(x:AF)(hs:x.D)(mv:List ((Int×Int)×Int))(K:List (Int×Int)){H:Hp}{n t l k1 k2:Nat}(h1:H t=some (.cells [.map k1]))(h2:H l=some (.cells [.map k2]))(R:H k1=some (.map (EX mv)))(h4:H k2=some (.map (EA K))):
 BF prog 76 [x.h,.ptr t 0,.ptr l 0] H n (λv h' n'=>v=(MC mv K x).h/\h'=H/\n'=n):=by
 refine E8 func76 rfl λho=>?_;have l1:=(ho t _ h1).1;have l2:=(ho l _ h2).1;have l3:=(ho k1 _ R).1;have l4:=(ho k2 _ h4).1;have V:=ho.lt;obtain⟨X,hX⟩:∃X:Hp,X=h_ (h_ H n (some (.cells [AU x.Q,AA x.I,AA x.move,Aa x.Y,AN x.Z]))) (n+1) (some (.cells [.x 0 [] true,AA 0,AA 0,.x 0 [] true,.x 0 [] true])):=⟨_,rfl⟩
 refine A6 0 [(1,.ptr t 0),(2,.ptr l 0),(3,.ptr n 0),(4,.ptr (n+1) 0)] X (λm=>n+2=m) ?_ (λm hm=>?_);rw[hX];simp[go_sem,AF.h,AF.j,qw,Or,SV.cells];subst hm;have hx:X n=some (.cells [AU x.Q,AA x.I,AA x.move,Aa x.Y,AN x.Z]):=by rw[hX,AB _ _ nN,AC]
 have hy:X (n+1)=some (.cells [.x 0 [] true,AA 0,AA 0,.x 0 [] true,.x 0 [] true]):=by rw[hX,AC]
 have hXo:∀j y,H j=some y->X j=some y:=λj y e=>by have:=V j y e;rw[hX,AB _ _ nN,AB _ _ nN];exact e
 clear hX;have hnn:n+1≠n:=by omega
 refine EF 0 (α:=SV×SV×DN×DN×Hp) (λ_=>[(1,.ptr t 0),(2,.ptr l 0),(3,.ptr n 0),(4,.ptr (n+1) 0)]) (λa=>a.2.2.2.2)
  (λa m=>I76 x H n a m) ?_ (λa m hm=>?_)
 simp[go_sem,hx];refine wM (by simpa[AF.h,AF.j]using n30 x hs) ?_;rintro v h' n' ⟨hn1,ob,⟨vd,o1,vl,o2,rfl,rfl,hD,hL⟩,hnd,w,hh⟩;have hx1:=wj (_L:=IV []) (_v:=vd) w hh (show n<n+2 by omega) hx;have hy1:=wj (_L:=IV []) (_v:=vd) w hh (show n+1<n+2 by omega) hy;have hD':JG 2 _ _ vd o1:=hD;have hL':JG 4 _ _ vl o2:=hL;obtain⟨s1,s2⟩:=hD'.st;obtain⟨s3,s4⟩:=hL'.st;unfold SV.B at s1 s3;unfold SV.cells at s2 s4;simp[go_sem,hx1];refine⟨vd,vl,o1,o2,_,⟨hn1,hD,hL,hnd,w,λp hp=>?_,AC _ _ _,by dsimp only;rw[AB _ _ hnn];exact hy1,λj y e=>?_⟩,AE⟩;have:=w p.1 (qb.2 ⟨p,hp,rfl⟩);dsimp only at hp ⊢;rw[AB _ _ nN];exact K6 hnd hh p hp;have:=V j y e;dsimp only;rw[AB _ _ nN];exact wj (_L:=IV []) (_v:=vd) w hh nN (hXo j y e);obtain⟨vd,vl,o1,o2,hh⟩:=a;obtain⟨hnm,hD,hL,hnd,w,hob,hx1,hy1,Ar⟩:=hm;dsimp only at hnm hD hL hnd w hob hx1 hy1 Ar ⊢;refine Ai 0 [(1,.ptr t 0),(2,.ptr l 0),(3,.ptr n 0),(4,.ptr (n+1) 0),(5,.ptr n 1)] hh m ?_ (λm' C=>?_);simp[go_sem,Or];subst C;have g1:=Ar _ _ h1;have g2:=Ar _ _ h2;have g3:=Ar _ _ R;have g4:=Ar _ _ h4;refine AR 0 (α:=Unit) (λ_=>[(1,.ptr t 0),(2,.ptr l 0),(3,.ptr n 0),(4,.ptr (n+1) 0),(5,.ptr n 1)]) (λ_=>h_ hh n (some (.cells [AU x.Q,AA x.I,AA (FV mv (x.I,x.move)),vd,vl]))) (λ_ m'=>m=m') (Il cH rfl nQ nQ ?_) (λ_ m' C=>?_)
 . obtain⟨r,f1,f2⟩:=Le x.I x.move mv 0;simp[go_sem,cH,hx1,g1,BN]
   repeat' (with_reducible refine And.intro ?_ ?_)
   all_goals
    refine Ey (q:=k1) (a:=x.I) (b:=x.move) rfl nP g3 nP (v:=AA (FV mv (x.I,x.move))) (by cases r<;>exact f2) f1 ?_;simp[go_sem,hx1,Or]
 subst C;have nk:∀j,j<n->∀y,h_ hh n y j=hh j:=λj hj y=>AB _ _ nN;refine AR 0 (α:=Unit) (λ_=>[(1,.ptr t 0),(2,.ptr l 0),(3,.ptr n 0),(4,.ptr (n+1) 0),(5,.ptr n 1)]) (λ_=>h_ hh n (some (.cells [AU x.Q,AA (Cl K x.I),AA (FV mv (x.I,x.move)),vd,vl]))) (λ_ m'=>m=m') (Il Yx rfl nQ nQ ?_) (λ_ m' C=>?_);rcases Gi x.I K with⟨f1,f2⟩|⟨j,f1⟩
 simp[go_sem,Yx,Or,AC,AZ,nk _ l2,nk _ l4,g2,g4,f1,f2,BN];simp[go_sem,Yx,Or,AC,AZ,nk _ l2,nk _ l4,g2,g4,f1,BN];subst C;obtain⟨B,hB⟩:∃B:Hp,B=h_ hh n (some (.cells [AU x.Q,AA (Cl K x.I),AA (FV mv (x.I,x.move)),vd,vl])):=⟨_,rfl⟩
 have Bn:B n=some (.cells [AU x.Q,AA (Cl K x.I),AA (FV mv (x.I,x.move)),vd,vl]):=by rw[hB,AC]
 have Bo:∀j,j≠n->B j=hh j:=λj hj=>by rw[hB,AB _ _ hj]
 rw[<-hB];obtain⟨M,hfd⟩:∃M:Dx->Dx,M=λd=>{ d with rev:=Cl K d.rev,move:=FV mv (d.rev,d.move) }:=⟨_,rfl⟩
 refine AR 0 (α:=Hp) (λ_=>[(1,.ptr t 0),(2,.ptr l 0),(3,.ptr n 0),(4,.ptr (n+1) 0),(5,.ptr n 1)]) (λh2=>h2) (λh2 m'=>m<=m'/\(∃s,AK s=AK o1/\M5 2 ((x.Y.map M).map Dx.h) vd s/\BL s h2)/\∀j,j∉AK o1->h2 j=B j) ?_ (λh2 m' C=>?_)
 . rcases hD with⟨hd0,⟨z',full,rfl⟩,rfl⟩|⟨f,full,cs,sub,rfl,rfl,rfl,rfl⟩
   have hd0':x.Y=[]:=by simpa using hd0
   refine Ai 0 [(1,.ptr t 0),(2,.ptr l 0),(3,.ptr n 0),(4,.ptr (n+1) 0),(5,.ptr n 1),(39,AA 0),(40,AA 0)] B m ?_ (λm' C=>?_);simp[go_sem,Bn,Or];subst C;refine AP (As 0 (α:=Unit) (λ_=>[(1,.ptr t 0),(2,.ptr l 0),(3,.ptr n 0),(4,.ptr (n+1) 0),(5,.ptr n 1),(39,AA 0),(40,AA 0)]) (λ_=>B) (λ_ m'=>m=m') (λ_=>0) () rfl (by simp[look,Or]) AE ?_);rintro _ m' rfl;refine AJ ?_;simp[go_sem];exact⟨B,⟨⟨by rw[hd0'];exact .inl ⟨rfl,⟨_,_,rfl⟩,rfl⟩,λp hp=>by cases hp⟩,λ_=>rfl⟩,AE⟩
   . have hjd:=w f (by simp[AK]);have hjb:f≠n:=by omega
     have hBj:B f=some (.cells ((x.Y.map Dx.h).flatMap SV.cells)):=by rw[Bo _ hjb];exact hob (f,_) nO
     obtain⟨W,hW⟩:∃W:Nat->Hp,∀i,W i=h_ B f (some (.cells ((((x.Y.take i).map M++x.Y.drop i).map Dx.h).flatMap SV.cells))):=⟨_,λ_=>rfl⟩
     have Wj:∀i,W i f=some (.cells ((((x.Y.take i).map M++x.Y.drop i).map Dx.h).flatMap SV.cells)):=λi=>by rw[hW,AC]
     have Wo:∀i j,j≠f->W i j=B j:=λi j hj=>by rw[hW,AB _ _ hj]
     have W0:W 0=B:=by rw[hW];simp only[vt,vW,qK,wq];funext j;simp only[h_];grind
     rw[qj];refine Ai 0 [(1,.ptr t 0),(2,.ptr l 0),(3,.ptr n 0),(4,.ptr (n+1) 0),(5,.ptr n 1),(38,.sl f 0 2 x.Y.length full),(39,AA x.Y.length),(40,AA 0)] (W 0) m ?_ (λm' C=>?_);rw[W0];rw[qj]at Bn;simp[go_sem,Bn,Or];subst C;refine AP (As 0 (α:=Nat) (λi=>[(1,.ptr t 0),(2,.ptr l 0),(3,.ptr n 0),(4,.ptr (n+1) 0),(5,.ptr n 1),(38,.sl f 0 2 x.Y.length full),(39,AA x.Y.length),(40,AA i)]) W (λi m'=>i<=x.Y.length/\m<=m') (λi=>x.Y.length-i) 0 ⟨qi _,IO _⟩ ?_ AE ?_);simp[go_sem,look,Or];rintro i m' ⟨hi,hmm⟩;by_cases u:i<x.Y.length
     . have hsd:=hs.Y;have w1:=wS i nN;obtain⟨d,hd⟩:∃d,x.Y[i]=d:=⟨_,rfl⟩
       refine Ai 0 [(1,.ptr t 0),(2,.ptr l 0),(3,.ptr n 0),(4,.ptr (n+1) 0),(5,.ptr n 1),(38,.sl f 0 2 x.Y.length full),(39,AA x.Y.length),(40,AA i),(41,.bool true)] (W i) m' ?_ (λF o=>?_);simp[go_sem,Or,u];subst o;refine Ai 0 [(1,.ptr t 0),(2,.ptr l 0),(3,.ptr n 0),(4,.ptr (n+1) 0),(5,.ptr n 1),(38,.sl f 0 2 x.Y.length full),(39,AA x.Y.length),(40,AA i)] (W i) m' ?_ (λF o=>?_);simp[go_sem,Or];subst o;refine AR 0 (α:=Unit) (λ_=>[(1,.ptr t 0),(2,.ptr l 0),(3,.ptr n 0),(4,.ptr (n+1) 0),(5,.ptr n 1),(38,.sl f 0 2 x.Y.length full),(39,AA x.Y.length),(40,AA i)]) (λ_=>W (i+1)) (λ_ F=>m'<=F) (AP ?_) (λ_ F o=>?_)
       . have hjp1:f≠t:=by omega
         have hjp2:f≠l:=by omega
         have hjk1:f≠k1:=by omega
         have hjk2:f≠k2:=by omega
         have Wn:W i n=_:=(Wo i n hjb.symm).trans Bn;have Wp1:W i t=_:=(Wo i t hjp1.symm).trans ((Bo t nN).trans g1);have O:W i l=_:=(Wo i l hjp2.symm).trans ((Bo l nN).trans g2);have U:W i k1=_:=(Wo i k1 hjk1.symm).trans ((Bo k1 nN).trans g3);have N:W i k2=_:=(Wo i k2 hjk2.symm).trans ((Bo k2 nN).trans g4);obtain⟨P,hP⟩:∃P:List SV,P=((((x.Y.take i).map M)).map Dx.h).flatMap SV.cells:=⟨_,rfl⟩
         obtain⟨S,hS⟩:∃S:List SV,S=((x.Y.drop (i+1)).map Dx.h).flatMap SV.cells:=⟨_,rfl⟩
         have c:P.length=i*2:=by rw[hP,VK,qj,va,vQ hi]
         have e1:(((x.Y.take i).map M++x.Y.drop i).map Dx.h).flatMap SV.cells=P++(AA d.rev::AA d.move::S):=by
          rw[qG u,hd,hP,hS,qc,qS];rfl
         have e2:(((x.Y.take (i+1)).map M++x.Y.drop (i+1)).map Dx.h).flatMap SV.cells=P++(AA (M d).rev::AA (M d).move::S):=by
          rw[qa u,hd,hP,hS,qc,qc,qS,qc,qS,qv];rfl
         have Wi:=Wj i;rw[e1]at Wi;have Wi1:W (i+1)=h_ (W i) f (some (.cells (P++(AA (M d).rev::AA (M d).move::S)))):=by
          rw[hW (i+1),hW i,e2,AZ]
         refine fj λhoW=>?_;have hWb:∀j y,W i j=some y->j<m':=λj y e=>(hoW j y e).1;have A:(i:Int)<x.Y.length:=by omega
         refine Ao 2 [(1,.ptr t 0),(2,.ptr l 0),(3,.ptr n 0),(4,.ptr (n+1) 0),(5,.ptr n 1),(6,AA i),(7,.q [AA d.rev,AA d.move]),(38,.sl f 0 2 x.Y.length full),(39,AA x.Y.length),(40,AA i)] (W i) m' ?_ (λF o=>?_);simp[go_sem,Wi,A,BW c,c,Or,AC];exact⟨Ak (Ac hWb (IO _)) (AC _ _ _),AV hWb (AV hWb AE)⟩;rw[Wi1];refine cV Yy rfl nQ nQ ?_;obtain⟨r,f1,f2⟩:=Le d.rev d.move mv 0;have fdd:M d={ d with rev:=Cl K d.rev,move:=FV mv (d.rev,d.move) }:=by rw[hfd]
         rw[fdd];rcases Gi d.rev K with⟨q1,q2⟩|⟨j,q1⟩
         . simp[go_sem,Yy,Wn,Wp1,O,N,BN,q1,q2]
           repeat' (with_reducible refine And.intro ?_ ?_)
           all_goals
            refine Ey (q:=k1) (a:=d.rev) (b:=d.move) rfl nP U nP (v:=AA (FV mv (d.rev,d.move))) (by cases r<;>exact f2) f1 ?_;simp[go_sem,Or,Wn,O,N,Wi,BN,q1,A,B9 c,BZ c,c,o]
         . simp[go_sem,Yy,Wn,Wp1,O,N,BN,q1]
           repeat' (with_reducible refine And.intro ?_ ?_)
           all_goals
            refine Ey (q:=k1) (a:=d.rev) (b:=d.move) rfl nP U nP (v:=AA (FV mv (d.rev,d.move))) (by cases r<;>exact f2) f1 ?_;simp[go_sem,Or,Wn,O,N,Wi,BN,q1,A,B9 c,BZ c,c,o]
       refine AJ ?_;simp[go_sem,w1,Or,-Int.natCast_add];exact⟨i+1,by omega,⟨by omega,by omega⟩,Or,AE⟩
     have:i=x.Y.length:=by omega
     subst this;refine AJ ?_;have hfin:m<=m'/\(∃s,AK s=AK [(f,A7.cells ((x.Y.map Dx.h).flatMap SV.cells))]/\M5 2 ((x.Y.map M).map Dx.h) (.sl f 0 2 x.Y.length full) s/\BL s (W x.Y.length))/\∀j,j∉AK [(f,A7.cells ((x.Y.map Dx.h).flatMap SV.cells))]->W x.Y.length j=B j:=by
      refine⟨hmm,⟨[(f,.cells (((x.Y.map M).map Dx.h).flatMap SV.cells))],rfl,.inr ⟨f,full,_,[],by simp,rfl,rfl,rfl⟩,λp hp=>?_⟩,λj hj=>Wo _ j (λe=>hj (by simp[AK,e]))⟩;rw[qA]at hp;subst hp;show W _ f=_;rw[Wj,qn,wA,vp]
     simp[go_sem];exact⟨W x.Y.length,by simpa using hfin,AE⟩
 obtain⟨hmm,⟨s,hk1,hD',ho1'⟩,G⟩:=C;have nin:∀j,j<n+2->j∉AK o1:=λj hj g=>by have:=w j (by rw[Ad];exact qx _ g);omega
 have Gn:h2 n=_:=(G n (nin n nN)).trans Bn;have Gn1:h2 (n+1)=_:=(G _ (nin _ nN)).trans ((Bo _ hnn).trans hy1);have Gp2:h2 l=_:=(G l (nin _ nN)).trans ((Bo l nN).trans g2);have Gk2:h2 k2=_:=(G k2 (nin _ nN)).trans ((Bo k2 nN).trans g4);have Gold:∀j y,H j=some y->h2 j=some y:=λj y e=>by have:=V j y e;rw[G j (nin j nN),Bo j nN];exact Ar j y e
 have hnd2:=hnd;rw[Ad,qr]at hnd2;have ho2:BL o2 h2:=λp hp=>by
  have hk:p.1∈AK o2:=qb.2 ⟨p,hp,rfl⟩;have:=w p.1 (by rw[Ad];exact qt _ hk);rw[G p.1 (λg=>hnd2.2.2 _ g _ hk rfl),Bo p.1 nN];exact hob p (qt _ hp)
 obtain⟨fl,hfl⟩:∃fl:BC->BC,fl=λy=>{ y with rev:=Cl K y.rev }:=⟨_,rfl⟩
 have T:∀k∈AK o2,n+2<=k/\k<m:=λk hk=>w k (by rw[Ad];exact qt _ hk);refine AR 0 (α:=Hp) (λ_=>[(1,.ptr t 0),(2,.ptr l 0),(3,.ptr n 0),(4,.ptr (n+1) 0),(5,.ptr n 1)]) (λR=>R) (λR F=>m'<=F/\(∃o2',AK o2'=AK o2/\M5 4 ((x.Z.map fl).map BC.h) vl o2'/\BL o2' R)/\∀j,j∉AK o2->R j=h2 j) ?_ (λR F o=>?_);rcases hL with⟨hd0,⟨z',full,rfl⟩,rfl⟩|⟨f,full,cs,sub,rfl,rfl,rfl,rfl⟩
 have hd0':x.Z=[]:=by simpa using hd0
 refine Ai 0 [(1,.ptr t 0),(2,.ptr l 0),(3,.ptr n 0),(4,.ptr (n+1) 0),(5,.ptr n 1),(68,AA 0),(69,AA 0)] h2 m' ?_ (λF o=>?_);simp[go_sem,Gn,Or];subst o;refine AP (As 0 (α:=Unit) (λ_=>[(1,.ptr t 0),(2,.ptr l 0),(3,.ptr n 0),(4,.ptr (n+1) 0),(5,.ptr n 1),(68,AA 0),(69,AA 0)]) (λ_=>h2) (λ_ F=>m'=F) (λ_=>0) () rfl (by simp[look,Or]) AE ?_);rintro _ F rfl;refine AJ ?_;simp[go_sem];exact⟨h2,⟨⟨by rw[hd0'];exact .inl ⟨rfl,⟨_,_,rfl⟩,rfl⟩,λp hp=>by cases hp⟩,λ_=>rfl⟩,AE⟩;have hjd:=T f (by simp[AK]);have hjb:f≠n:=by omega
 have hBj:h2 f=some (.cells ((x.Z.map BC.h).flatMap SV.cells)):=ho2 (f,_) nO;obtain⟨W,hW⟩:∃W:Nat->Hp,∀i,W i=h_ h2 f (some (.cells ((((x.Z.take i).map fl++x.Z.drop i).map BC.h).flatMap SV.cells))):=⟨_,λ_=>rfl⟩
 have Wj:∀i,W i f=some (.cells ((((x.Z.take i).map fl++x.Z.drop i).map BC.h).flatMap SV.cells)):=λi=>by rw[hW,AC]
 have Wo:∀i j,j≠f->W i j=h2 j:=λi j hj=>by rw[hW,AB _ _ hj]
 have W0:W 0=h2:=by rw[hW];simp only[vt,vW,qK,wq];funext j;simp only[h_];grind
 rw[qj];refine Ai 0 [(1,.ptr t 0),(2,.ptr l 0),(3,.ptr n 0),(4,.ptr (n+1) 0),(5,.ptr n 1),(68,AA x.Z.length),(69,AA 0)] (W 0) m' ?_ (λF o=>?_);rw[W0];rw[qj]at Gn;simp[go_sem,Gn,Or];subst o;refine AP (As 0 (α:=Nat) (λi=>[(1,.ptr t 0),(2,.ptr l 0),(3,.ptr n 0),(4,.ptr (n+1) 0),(5,.ptr n 1),(68,AA x.Z.length),(69,AA i)]) W (λi F=>i<=x.Z.length/\m'<=F) (λi=>x.Z.length-i) 0 ⟨qi _,IO _⟩ ?_ AE ?_);simp[go_sem,look,Or];rintro i F ⟨hi,o⟩;by_cases u:i<x.Z.length;have hsd:=hs.Z;have w1:=wS i nN;obtain⟨d,hd⟩:∃d,x.Z[i]=d:=⟨_,rfl⟩
 refine Ai 0 [(1,.ptr t 0),(2,.ptr l 0),(3,.ptr n 0),(4,.ptr (n+1) 0),(5,.ptr n 1),(68,AA x.Z.length),(69,AA i),(70,.bool true)] (W i) F ?_ (λm4 hm4=>?_);simp[go_sem,Or,u];subst hm4;refine Ai 0 [(1,.ptr t 0),(2,.ptr l 0),(3,.ptr n 0),(4,.ptr (n+1) 0),(5,.ptr n 1),(68,AA x.Z.length),(69,AA i)] (W i) F ?_ (λm4 hm4=>?_);simp[go_sem,Or];subst hm4;refine AR 0 (α:=Unit) (λ_=>[(1,.ptr t 0),(2,.ptr l 0),(3,.ptr n 0),(4,.ptr (n+1) 0),(5,.ptr n 1),(68,AA x.Z.length),(69,AA i)]) (λ_=>W (i+1)) (λ_ m4=>F<=m4) (AP ?_) (λ_ m4 hm4=>?_);have hjp2:f≠l:=by omega
 have hjk2:f≠k2:=by omega
 have Wn:W i n=_:=(Wo i n hjb.symm).trans Gn;have O:W i l=_:=(Wo i l hjp2.symm).trans Gp2;have N:W i k2=_:=(Wo i k2 hjk2.symm).trans Gk2;obtain⟨P,hP⟩:∃P:List SV,P=((((x.Z.take i).map fl)).map BC.h).flatMap SV.cells:=⟨_,rfl⟩
 obtain⟨S,hS⟩:∃S:List SV,S=((x.Z.drop (i+1)).map BC.h).flatMap SV.cells:=⟨_,rfl⟩
 have c:P.length=i*4:=by rw[hP,IK (z:=4) (λe he=>by obtain⟨y,_,rfl⟩:=qb.1 he;rfl),qj,qj,va,vQ hi]
 have e1:(((x.Z.take i).map fl++x.Z.drop i).map BC.h).flatMap SV.cells=P++(AA d.rev::AA d.key::AA d.before::.bool d.had::S):=by
  rw[qG u,hd,hP,hS,qc,qS];rfl
 have e2:(((x.Z.take (i+1)).map fl++x.Z.drop (i+1)).map BC.h).flatMap SV.cells=P++(AA (Cl K d.rev)::AA d.key::AA d.before::.bool d.had::S):=by
  rw[qa u,hd,hP,hS,qc,qc,qS,qc,qS,qv,hfl];rfl
 have Wi:=Wj i;rw[e1]at Wi;have Wi1:W (i+1)=h_ (W i) f (some (.cells (P++(AA (Cl K d.rev)::AA d.key::AA d.before::.bool d.had::S)))):=by
  rw[hW (i+1),hW i,e2,AZ]
 have A:(i:Int)<x.Z.length:=by omega
 refine Ai 0 [(1,.ptr t 0),(2,.ptr l 0),(3,.ptr n 0),(4,.ptr (n+1) 0),(5,.ptr n 1),(8,AA i),(68,AA x.Z.length),(69,AA i)] (W i) F ?_ (λm4 hm4=>?_);simp[go_sem,Or];subst hm4;rw[Wi1];refine Il Yz rfl nQ nQ ?_;rcases Gi d.rev K with⟨q1,q2⟩|⟨j,q1⟩
 simp[go_sem,Yz,Or,Wn,O,N,Wi,BN,q1,q2,A,B9 c,BW c,BZ c,c];simp[go_sem,Yz,Or,Wn,O,N,Wi,BN,q1,A,B9 c,BW c,BZ c,c];refine AJ ?_;simp[go_sem,w1,Or,-Int.natCast_add];exact⟨i+1,by omega,⟨by omega,by omega⟩,Or,AE⟩;have:i=x.Z.length:=by omega
 subst this;refine AJ ?_;have hfin:m'<=F/\(∃s,AK s=AK [(f,A7.cells ((x.Z.map BC.h).flatMap SV.cells))]/\M5 4 ((x.Z.map fl).map BC.h) (.sl f 0 4 x.Z.length full) s/\BL s (W x.Z.length))/\∀j,j∉AK [(f,A7.cells ((x.Z.map BC.h).flatMap SV.cells))]->W x.Z.length j=h2 j:=by
  refine⟨o,⟨[(f,.cells (((x.Z.map fl).map BC.h).flatMap SV.cells))],rfl,.inr ⟨f,full,_,[],by simp,rfl,rfl,rfl⟩,λp hp=>?_⟩,λj hj=>Wo _ j (λe=>hj (by simp[AK,e]))⟩;rw[qA]at hp;subst hp;show W _ f=_;rw[Wj,qn,wA,vp]
 simp[go_sem];exact⟨W x.Z.length,by simpa using hfin,AE⟩;obtain⟨hmm3,⟨o2',hk2,hL',ho2'⟩,J⟩:=o;have nin2:∀j,j<n+2->j∉AK o2:=λj hj g=>by have:=T j g;omega
 have Yn:R n=_:=(J n (nin2 n nN)).trans Gn;have Yn1:R (n+1)=_:=(J _ (nin2 _ nN)).trans Gn1;have ho13:BL s R:=λp hp=>by
  have hk:p.1∈AK o1:=by rw[<-hk1];exact qb.2 ⟨p,hp,rfl⟩
  rw[J p.1 (λg=>hnd2.2.2 _ hk _ g rfl)];exact ho1' p hp
 have Yold:∀j y,H j=some y->R j=some y:=λj y e=>by have:=V j y e;rw[J j (nin2 j nN)];exact Gold j y e
 have hD2:JG 2 _ _ vd s:=hD';have hL2:JG 4 _ _ vl o2':=hL';obtain⟨s1,s2⟩:=hD2.st;obtain⟨s3,s4⟩:=hL2.st;unfold SV.B at s1 s3;unfold SV.cells at s2 s4;have hnone:∀k,n+2<=k->H k=none:=λk hk=>by
  cases e:H k with
  | none=>rfl
  | some y=>have:=V k y e;omega
 obtain⟨Y,hY⟩:∃Y:Hp,Y=h_ R (n+1) (some (.cells [AU x.Q,AA (Cl K x.I),AA (FV mv (x.I,x.move)),vd,vl])):=⟨_,rfl⟩
 have Yk:∀k,k≠n+1->Y k=R k:=λk hk=>by rw[hY,AB _ _ hk]
 have ho13y:BL s Y:=λp hp=>by
  have hk:p.1∈AK o1:=by rw[<-hk1];exact qb.2 ⟨p,hp,rfl⟩
  have:=w p.1 (by rw[Ad];exact qx _ hk);rw[Yk _ nN];exact ho13 p hp
 have ho2y:BL o2' Y:=λp hp=>by
  have hk:p.1∈AK o2:=by rw[<-hk2];exact qb.2 ⟨p,hp,rfl⟩
  have:=T p.1 hk;rw[Yk _ nN];exact ho2' p hp
 obtain⟨K1,f1⟩:=hD'.fz (h2:=H) (by intro e he;obtain⟨y,_,rfl⟩:=qb.1 he;exact⟨rfl,rfl⟩) ho13y (λk hk=>hnone k (w k (by rw[Ad];rw[hk1]at hk;exact qx _ hk)).1);obtain⟨K2,f2⟩:=hL'.fz (h2:=H) (by intro e he;obtain⟨y,_,rfl⟩:=qb.1 he;exact⟨rfl,rfl⟩) ho2y (λk hk=>hnone k (T k (by rw[hk2]at hk;exact hk)).1);refine AJ ?_;simp[go_sem,Yn,Yn1,AC];rw[<-hY];have hen:(MC mv K x).h=.agg [AU x.Q,AA (Cl K x.I),AA (FV mv (x.I,x.move)),.x 2 ((x.Y.map M).map Dx.h) false,.x 4 ((x.Z.map fl).map BC.h) false]:=by
  rw[hfd,hfl];rfl
 refine .inr ⟨max K1 K2+1,(MC mv K x).h,H,?_,?_,λj y e=>⟨?_,ho j y e⟩,rfl,rfl,rfl⟩;rw[hen];exact .inr ⟨Or,Or,Or,(f1 _ nN).1,(f2 _ nN).1,trivial⟩;simp[AF.h,AF.j,C_,c_,Fd.E.c_,Dx.E.c_,BC.E.c_];have:=V j y e;rw[Yk j nN];exact Yold j y e
structure M3 where
 m:Nat
 r:Nat
 pr:Nat
 pm:Nat
 kc:Nat
 kb:Nat
 pc:Nat
 pb:Nat
def M3.keys(O:M3):List Nat:=[O.kc,O.kb,O.m,O.r,O.pr,O.pm,O.pc,O.pb]
def L0(O:M3)(mv:List ((Int×Int)×Int))(rv:List (Int×Int))(s:List (Int×Int)×List (Int×Int))(o:Nat):Option A7:=
 if o=O.kc then some (.map (EA s.1))else if o=O.kb then some (.map (EA s.2))else if o=O.m then some (.map (EA rv))else if o=O.r then some (.map (EX mv))else
 if o=O.pr then some (.cells [.map O.m])else if o=O.pm then some (.cells [.map O.r])else if o=O.pc then some (.cells [.map O.kc])else if o=O.pb then some (.cells [.map O.kb])else none
theorem eq{O:M3}{mv:List ((Int×Int)×Int)}{k:List (Int×Int)}{s0:List (Int×Int)×List (Int×Int)}{H:Hp}(l:MX (L0 O mv k) s0 H)(s:List (Int×Int)×List (Int×Int))(hk:O.kb≠O.kc):
 Aq (L0 O mv k) s H=h_ (h_ H O.kb (some (.map (EA s.2)))) O.kc (some (.map (EA s.1))):=by
 funext j;have h:=l j;simp only[Aq,L0,h_]at h ⊢;by_cases f:j=O.kc;simp[f];by_cases g:j=O.kb;subst g;simp[hk];simp only[f,g,if_false]at h ⊢;by_cases a:j=O.m;subst a;simp only[if_true]at h ⊢;exact(h _ rfl).symm;by_cases b:j=O.r;subst b;simp only[a,if_true,if_false]at h ⊢;exact(h _ rfl).symm;by_cases c:j=O.pr;subst c;simp only[a,b,if_true,if_false]at h ⊢;exact(h _ rfl).symm;by_cases d:j=O.pm;subst d;simp only[a,b,c,if_true,if_false]at h ⊢;exact(h _ rfl).symm;by_cases e:j=O.pc;subst e;simp only[a,b,c,d,if_true,if_false]at h ⊢;exact(h _ rfl).symm;by_cases i:j=O.pb;subst i;simp only[a,b,c,d,e,if_true,if_false]at h ⊢;exact(h _ rfl).symm;simp[a,b,c,d,e,i]
theorem OI{O:M3}{mv:List ((Int×Int)×Int)}{j:List (Int×Int)}{s:List (Int×Int)×List (Int×Int)}{o:Nat}:L0 O mv j s o=none↔o∉O.keys:=by
 simp only[L0,M3.keys,qd,vC,or_false,not_or];by_cases a:o=O.kc;rw[nS a];exact⟨λh=>(by cases h),λh=>(by simp[a]at h)⟩;by_cases b:o=O.kb;rw[nR a,nS b];exact⟨λh=>(by cases h),λh=>(by simp[b]at h)⟩;by_cases c:o=O.m;rw[nR a,nR b,nS c];exact⟨λh=>(by cases h),λh=>(by simp[c]at h)⟩;by_cases d:o=O.r;rw[nR a,nR b,nR c,nS d];exact⟨λh=>(by cases h),λh=>(by simp[d]at h)⟩;by_cases e:o=O.pr;rw[nR a,nR b,nR c,nR d,nS e];exact⟨λh=>(by cases h),λh=>(by simp[e]at h)⟩;by_cases f:o=O.pm;rw[nR a,nR b,nR c,nR d,nR e,nS f];exact⟨λh=>(by cases h),λh=>(by simp[f]at h)⟩;by_cases g:o=O.pc;rw[nR a,nR b,nR c,nR d,nR e,nR f,nS g];exact⟨λh=>(by cases h),λh=>(by simp[g]at h)⟩;by_cases i:o=O.pb;rw[nR a,nR b,nR c,nR d,nR e,nR f,nR g,nS i];exact⟨λh=>(by cases h),λh=>(by simp[i]at h)⟩;rw[nR a,nR b,nR c,nR d,nR e,nR f,nR g,nR i];exact⟨λ_=>⟨a,b,c,d,e,f,g,i⟩,λ_=>rfl⟩
theorem S9(n:Nat)(l:List (Int×Int)):Ay n (.map (EA l))=true:=by
 simp only[Ay,qE,EA,qh];intro p hp;obtain⟨x,_,rfl⟩:=qb.1 hp;exact⟨by simp[C_],by simp[C_]⟩
theorem aM(n:Nat)(l:List ((Int×Int)×Int)):Ay n (.map (EX l))=true:=by
 simp only[Ay,qE,EX,qh];intro p hp;obtain⟨x,_,rfl⟩:=qb.1 hp;exact⟨by simp[BV,C_,c_],by simp[C_]⟩
theorem Vc(l:List (Int×Int))(x v:Int):l.length<=(EN l x v).length:=by
 have:∀l:List (Int×Int),l.length<=(DL l x v).length:=by
  intro l
  induction l with
  | nil=>simp[DL]
  | cons p l ih=>
   obtain⟨a,b⟩:=p;rw[DL];split;simp;simp;exact ih
 unfold EN;split;exact this l;exact IO _
theorem Ok(x:AD)(s:List (Int×Int)×List (Int×Int)):s.2.length<=(DD x s).2.2.length:=by
 unfold DD;split;split;exact IO _;exact Vc _ _ _;exact IO _
theorem Wc(x:AD)(s:List (Int×Int)×List (Int×Int)):∃i,(DD x s).1=GI x i:=by
 unfold DD;split;split;exact⟨_,rfl⟩;exact⟨_,rfl⟩;exact⟨x.id,by cases x;rfl⟩
theorem lM{O:M3}{n0 K:Nat}(mv:List ((Int×Int)×Int))(g:List (Int×Int))(t:∀k∈O.keys,k<n0)(d:O.keys.Nodup)(hK:K<=1048576):
 Zb (L0 O mv g) n0 113 76 77 [] [.ptr O.pm 0,.ptr O.pr 0] [.ptr O.pb 0,.ptr O.pc 0] (MU mv g) (lim AF.D K) (OW AF.D K) AF.D (λs=>s.2.length) 1099511627776:=by
 have f:O.kb≠O.kc:=λe=>by simp[M3.keys,e]at d
 have q:∀k∈O.keys,k<n0:=t;simp only[M3.keys,qd,vC,or_false,forall_eq_or_imp,forall_eq]at t;obtain⟨a1,a2,a3,a4,a5,a6,a7,a8⟩:=t;simp only[M3.keys,qY,qd,vC,or_false,not_or,not_false_eq_true,List.nodup_nil,and_true]at d;obtain⟨⟨b1,z,A,B,C,E,F⟩,⟨G,I,J,L,M,P⟩,⟨Q,S,T,U,V⟩,⟨W,X,Y,Z⟩,⟨f5,f6,f7⟩,⟨g6,g7⟩,h7⟩:=d;refine { up:=⟨λ_ _ _=>IO _,λ_ _=>IO _,λx s=>Ok x s⟩,lt:=λs o h=>?_,dom:=λs s' o h=>?_,cl:=λs o y h=>?_,zero:=λl h=>h,W:=λN id l s H n u ht d a=>?_,H:=λx s H n b _ d a=>?_,item:=λN x s H n _ ht d a=>?_,flow_ok:=λN id l s u=>?_,item_ok:=λN x s b _=>?_ };simp only[L0];rw[nR nN,nR nN,nR nN,nR nN,nR nN,nR nN,nR nN,nR nN];exact OI.2 (OI.1 h);simp only[L0]at h;split at h;cases h;exact S9 _ _;split at h;cases h;exact S9 _ _;split at h;cases h;exact S9 _ _;split at h;cases h;exact aM _ _;split at h;cases h;simpa[Ay,C_,c_]using a3;split at h;cases h;simpa[Ay,C_,c_]using a4;split at h;cases h;simpa[Ay,C_,c_]using a1;split at h;cases h;simpa[Ay,C_,c_]using a2;cases h;refine wn (bD id l H n) ?_;rintro v h' n' ⟨rfl,rfl,rfl⟩;exact⟨rfl,(Cs s _ a).symm,rfl⟩;have h1:H O.pm=some (.cells [.map O.r]):=a _ _ (by simp[L0,Ne.symm C,Ne.symm L,Ne.symm T,Ne.symm X,Ne.symm f5]);have h2:H O.pr=some (.cells [.map O.m]):=a _ _ (by simp[L0,Ne.symm B,Ne.symm J,Ne.symm S,Ne.symm W]);have j:H O.r=some (.map (EX mv)):=a _ _ (by simp[L0,Ne.symm A,Ne.symm I,Ne.symm Q]);have p:H O.m=some (.map (EA g)):=a _ _ (by simp[L0,Ne.symm z,Ne.symm G]);refine wn (w76 x b mv g h1 h2 j p) ?_;rintro v h' n' ⟨rfl,rfl,rfl⟩;exact⟨rfl,(Cs s _ a).symm,rfl⟩;have h1:H O.pb=some (.cells [.map O.kb]):=a _ _ (by simp[L0,Ne.symm F,Ne.symm P,Ne.symm V,Ne.symm Z,Ne.symm f7,Ne.symm g7,Ne.symm h7]);have h2:H O.pc=some (.cells [.map O.kc]):=a _ _ (by simp[L0,Ne.symm E,Ne.symm M,Ne.symm U,Ne.symm Y,Ne.symm f6,Ne.symm g6]);have j:H O.kb=some (.map (EA s.2)):=a _ _ (by simp[L0,Ne.symm b1]);have p:H O.kc=some (.map (EA s.1)):=a _ _ (by simp[L0]);have w:s.2.length<=1099511627776:=qy (Ok x s) ht;refine wn (w77 x s.2 s.1 w h1 h2 j p f) ?_;rintro v h' n' ⟨rfl,rfl,rfl⟩;exact⟨rfl,(eq a _ f).symm,rfl⟩;exact⟨by have:=(CX.1 u).1;simp only[MU];omega,(CX.1 u).2.2⟩;obtain⟨i,e⟩:=Wc x s;show dQ _ _ N (DD x s).1;rw[e];exact⟨b.1,λ_=>b.2.1,λ_=>⟨by have:=b.2.2.1;show x.R.length<=_;omega,λr hr=>⟨(b.2.2.2 r hr).1,by have:=(b.2.2.2 r hr).2.1;omega,λc hc=>(b.2.2.2 r hr).2.2 c hc⟩⟩⟩
private theorem hat (h:Hp) (j:Nat) (x:Option A7):h_ h j x j=x:=by simp[h_]
private theorem hne' (h:Hp) {j k:Nat} (x:Option A7) (e:k≠j):h_ h j x k=h k:=by simp[h_,e]
section
variable{E:BU}{P:Program}
theorem Ab.lendMap{f:FuncId}{us bs:List SV}{h:Hp}{n:Nat}{es:List (SV×SV)}{K:SV->Hp->Nat->Prop}(k:Nat)
 (H:BF P f bs (λ_=>none) n (λv h' n'=>∃r,v=.map r/\n<=r/\r<n'/\h' r=some (.map es))) (hp:∀p∈es,DZ p.1=true/\DZ p.2=true) (hw:AT (Fz h (λ_=>none) k) us bs)
 (hk:∀r n',n<=r->r<n'->K (.map r) (h_ h r (some (.map es))) n'):Ab E P f us h n K:=by
 refine⟨H.1,λc vs _ R F A=>?_⟩;have hs:∀o x,(λ_=>none:Hp) o=some x->h o=some x:=λ_ _ e=>by cases e
 have A':AT (V (c.less λ_=>none)) bs vs:=ud (R:=V c) (S:=Fz h (λ_=>none) k) (T:=V (c.less λ_=>none)) (λa b g h1 h2=>Fz.sound R hs k h2 h1) A hw;refine(H.2 (c.less λ_=>none) vs trivial (R.less hs) F A').mono ?_;rintro e w' ⟨u,v',h',n',c',he,⟨r,rfl,Z,hr2,hr⟩,rfl,hv',R',F',C⟩;have L:∀b,¬(c.less λ_=>none).own b:=λb ⟨o,x,e,_⟩=>by cases e
 obtain⟨B,U,I,g1,g2,g3,hB⟩:=R'.obj r _ hr;have J:c'.own B:=(R'.own2 B).2 ⟨r,_,hr,.inl ⟨0,g1⟩⟩;have hBnew:c.w.heap.size<=B:=by
  rcases vk B c.w.heap.size with q|q;exact absurd J (C.ext.keep B q (L B)).1;exact q
 have W:c.ρ r=none:=F r Z;obtain⟨y,i⟩:∃y:Cx,y={ ρ:=λj=>if j=r then some (B,0)else c.ρ j,own:=λb=>c.own b\/b=B,w:=c'.w,bk:=c.bk }:=⟨_,rfl⟩
 have X:DF c y:=by
  subst i;refine⟨λo p e=>?_,C.ext.size,λb hb z=>⟨λg=>?_,(C.ext.keep b hb (L b)).2⟩,C.ext.room,C.ext.os,C.ext.out,C.ext.td⟩;dsimp only;rw[nR (λg=>by rw[g,W]at e;cases e)];exact e;rcases g with g|g;exact z g;omega
 have G:∀o x,h o=some x->o≠r:=λo x z g=>by
  obtain⟨b,st,m,_⟩:=(R.obj o x z).block;rw[g,W]at m;cases m
 have d:∀o x b,o≠r->(Ar y o x b↔Ar c o x b):=λo x b D=>by
  subst i;simp only[Ar,nR D]
 have s:∀b,Ar y r (.map es) b↔b=B:=λb=>by
  subst i;simp only[Ar,if_true];constructor;rintro(⟨st,q⟩|⟨q,_⟩);cases q;rfl;cases q;rintro rfl;exact .inl ⟨0,rfl⟩
 have Q:Bk (h_ h r (some (.map es))) y:=by
  refine⟨λo x z=>?_,λo O x x' b M N m t=>?_,λb=>?_⟩;by_cases Y:o=r;subst Y;rw[hat]at z;cases z;refine⟨B,U,I,?_,?_,?_,hB⟩;subst i;simp;subst i;exact g2;have:∀{es:List (SV×SV)} {l:List MapEntry},(∀p∈es,DZ p.1=true/\DZ p.2=true)->AT (λ(p:SV×SV)(e:MapEntry)=>V c' p.1 e.key/\V c' p.2 e.val) es l->AT (λ(p:SV×SV)(e:MapEntry)=>V y p.1 e.key/\V y p.2 e.val) es l:=by
   intro es
   induction es with
   | nil=>intro l _ q;cases l with
    | nil=>trivial
    | cons=>exact q
   | cons p es ih=>intro l hp q;cases l with
    | nil=>exact q
    | cons e l=>exact⟨⟨q.1.1.plain (hp p nO).1,q.1.2.plain (hp p nO).2⟩,ih (λx hx=>hp x (by simp[hx])) q.2⟩
  exact this hp g3;rw[hne' _ _ Y]at z;refine(R.obj o x z).mono X (hk:=by subst i;rfl) λb hb=>?_;have:=(C.ext.keep b ((R.obj o x z).hold_lt hb) (L b)).2;subst i;exact this;by_cases h1:o=r;by_cases h2:O=r;rw[h1,h2];subst h1;rw[hat]at M;cases M;rw[hne' _ _ h2]at N;have m:=(s b).1 m;have t:=(d O x' b h2).1 t;have:=(R.obj O x' N).hold_lt t;omega;by_cases h2:O=r;subst h2;rw[hat]at N;cases N;rw[hne' _ _ h1]at M;have t:=(s b).1 t;have m:=(d o x b h1).1 m;have:=(R.obj o x M).hold_lt m;omega;rw[hne' _ _ h1]at M;rw[hne' _ _ h2]at N;exact R.inj2 o O x x' b M N ((d o x b h1).1 m) ((d O x' b h2).1 t);have z:y.own b↔c.own b\/b=B:=by subst i;rfl
  rw[z,R.own2];constructor;rintro(⟨o,x,m,t⟩|rfl);have D:=G o x m;exact⟨o,x,by rw[hne' _ _ D];exact m,(d o x b D).2 t⟩;exact⟨r,.map es,hat _ _ _,(s _).2 rfl⟩;rintro⟨o,x,m,t⟩;by_cases h1:o=r;subst h1;rw[hat]at m;cases m;exact .inr ((s b).1 t);rw[hne' _ _ h1]at m;exact .inl ⟨o,x,m,(d o x b h1).1 t⟩
 have hv2:V y (.map r) u:=by
  rw[V]at hv' ⊢;obtain⟨b,m,t⟩:=hv';rw[g1]at m;cases m;exact⟨B,by subst i;simp,t⟩
 refine⟨u,.map r,h_ h r (some (.map es)),n',y,he,hk r n' Z hr2,by subst i;rfl,hv2,Q,λj hj=>?_,⟨X,C.le,λj hj=>?_⟩⟩;subst i;dsimp only;rw[nR nN];exact F j (by have:=C.le;omega);subst i;dsimp only;rw[nR nN]
end
def Yu:Tr:=(.pure 1 (.pure 3 (.pure 7 (.pure 8 (.two 0 2 (.one 2 (.one 4 (.pure 5 (.one 6 (.one 9 .nil))))) (.two 0 4 (.one 4 (.pure 5 (.one 6 (.one 9 .nil)))) (.pure 5 (.two 0 6 (.one 6 (.one 9 .nil)) (.one 0 (.one 9 .nil))))))))))
def Yv:Tr:=(.pure 1 (.pure 2 (.pure 3 (.pure 5 (.pure 6 (.two 0 4 (.one 4 (.one 7 .nil)) (.one 0 (.one 7 .nil))))))))
def Yw:Tr:=(.pure 0 (.pure 1 (.pure 2 (.pure 3 (.pure 5 (.pure 6 (.pure 7 (.two 4 8 (.one 8 (.one 9 (.pure 10 (.pure 11 (.one 12 (.pure 13 (.pure 14 (.one 15 .nil)))))))) (.one 4 (.one 9 (.pure 10 (.pure 11 (.one 12 (.pure 13 (.pure 14 (.one 15 .nil))))))))))))))))
theorem PH:∀(l:List CI)(i:Int)(m:List (Int×Int))(r:CI),Df (l++[r]) i m=DL (Df l i m) r.id (i+l.length+1)
 | [],i,m,r=>by simp[Df]
 | x::l,i,m,r=>by rw[qB,Df,Df,PH l,qo];congr 1;push_cast;omega
theorem Lj:∀(l:List CI)(i:Int)(r:CI),EP (l++[r]) i=EP l i++[{ r with id:=i+l.length+1 }]
 | [],i,r=>by simp[EP]
 | x::l,i,r=>by rw[qB,EP,EP,Lj l,qo];simp;omega
theorem On:∀(l:List AX)(i:Int)(m:List (Int×Int))(c:AX),CE (l++[c]) i m=((CE l i m).1++[{ c with id:=i+l.length+1,parent:=Cl (DL (CE l i m).2 c.id (i+l.length+1)) c.parent }],DL (CE l i m).2 c.id (i+l.length+1))
 | [],i,m,c=>by simp[CE]
 | x::l,i,m,c=>by
  have e:i+1+(l.length:Int)+1=i+((x::l).length:Int)+1:=by rw[qo];push_cast;omega
  rw[qB,CE,CE,On l,e];rfl
theorem G8:∀(l:List CI)(i:Int),(EP l i).length=l.length
 | [],_=>rfl
 | x::l,i=>by rw[EP,qo,G8 l,qo]
theorem Ki:∀(l:List AX)(i:Int)(m:List (Int×Int)),(CE l i m).1.length=l.length
 | [],_,_=>rfl
 | x::l,i,m=>by rw[CE,qo,Ki l,qo]
def Qz(e:AH):AH:=⟨e.W,e.T0,EP e.V 0,{ e.S with C:=(CE e.S.C 0 [(0,0)]).1 }⟩
def I25(e:AH)(h:Hp)(n:Nat)(a:SV×DN×SV×DN×SV×DN×Hp)(m:Nat):Prop:=
 n+2<=m/\IV e.W a.1 a.2.1/\M5 3 (e.V.map CI.h) a.2.2.1 a.2.2.2.1/\M5 6 (e.S.C.map AX.h) a.2.2.2.2.1 a.2.2.2.2.2.1/\(AK (a.2.1++(a.2.2.2.1++a.2.2.2.2.2.1))).Nodup/\
 (∀k∈AK (a.2.1++(a.2.2.2.1++a.2.2.2.2.2.1)),n+2<=k/\k<m)/\BL (a.2.1++(a.2.2.2.1++a.2.2.2.2.2.1)) a.2.2.2.2.2.2/\
 a.2.2.2.2.2.2 n=some (.cells (a.1::AU e.T0.Q::AA e.T0.I::AA e.T0.move::Aa e.T0.Y::AN e.T0.Z::a.2.2.1::AW e.S.A::CA e.S.L::a.2.2.2.2.1::CW e.S.vars::[]))/\
 a.2.2.2.2.2.2 (n+1)=some (.cells LY)/\∀j y,h j=some y->a.2.2.2.2.2.2 j=some y
theorem Z3{h' h2:Hp}{v w:SV}(H:∃a,∀K,a<=K->Fz h' h2 K v w):Jc h' h2 [v] [w]:=by
 obtain⟨a,b⟩:=H;exact⟨a,λK h=>⟨b K h,trivial⟩⟩
theorem Sq{h' h2:Hp}{e:AH}{revs:List CI}{coms:List AX}{f g d:SV}{o1 o2 o3:DN}(h1:IV e.W f o1)(hr:M5 3 (revs.map CI.h) g o2)(n:M5 6 (coms.map AX.h) d o3)(g1:BL o1 h')(l:BL o2 h')(g3:BL o3 h')
 (n1:∀k∈AK o1,h2 k=none) (o:∀k∈AK o2,h2 k=none) (p:∀k∈AK o3,h2 k=none):
 ∃K,Fz h' h2 K (.agg (f::AU e.T0.Q::AA e.T0.I::AA e.T0.move::Aa e.T0.Y::AN e.T0.Z::g::AW e.S.A::CA e.S.L::d::CW e.S.vars::[]))
  (AH.mk e.W e.T0 revs { e.S with C:=coms }).h:=by
 have a1:=Z3 (dY h1 g1 n1);have a2:=hr.fz (by intro x b;obtain⟨y,_,rfl⟩:=qb.1 b;exact⟨rfl,rfl⟩) l o;have a3:=n.fz (by intro x b;obtain⟨y,_,rfl⟩:=qb.1 b;exact⟨rfl,rfl⟩) g3 p;obtain⟨c,m⟩:=((((a1.app (ua (a:=[AU e.T0.Q,AA e.T0.I,AA e.T0.move,Aa e.T0.Y,AN e.T0.Z]))).app a2).app (ua (a:=[AW e.S.A,CA e.S.L]))).app a3).app (ua (a:=[CW e.S.vars]));have i:(AH.mk e.W e.T0 revs { e.S with C:=coms }).h=.agg ([AI e.W]++[AU e.T0.Q,AA e.T0.I,AA e.T0.move,Aa e.T0.Y,AN e.T0.Z]++[.x 3 (revs.map CI.h) false]++[AW e.S.A,CA e.S.L]++[.x 6 (coms.map AX.h) false]++[CW e.S.vars]):=by simp[AH.h,AF.j,AO.j]
 rw[i];exact⟨c+1,.inr (m c (IO _))⟩
theorem w25(d:AH)(hd:d.D)(hn:d.normal.D)(hu:(BD [] (AD.U (Ae d.W)++d.T0.all)).length<=1048576)(hb:(Cz 0 d.normal.W).2<=1099511627776){K N:Nat}(hK:K<=1048576)
 (he:d.normal.renum.D) (hl:lim AF.D K N d.normal.renum.W) (hmet:(Hf N d.normal.renum).length<=1048576) (hE:(Qz d.normal.renum).D)
 (hrk:(Ia (MU (FL (DM (Hf N d.normal.renum))).2 (Df d.normal.renum.V 0 [(0,0)])) N (Qz d.normal.renum) ((CE d.normal.renum.S.C 0 [(0,0)]).2,[])).2.2.length<=1099511627776)
 (hY:(Jf N d.normal.renum).D) (hZ:(Jf N d.normal.renum).normal.D) (hW:(BD [] (AD.U (Ae (Jf N d.normal.renum).W)++(Jf N d.normal.renum).T0.all)).length<=1048576):PC 25 [d.h] (HT N d).h:=by
 intro h n;refine E8 func25 rfl λho=>?_;have hHb:=ho.lt;have h74:=mV d hd hn hu hb;obtain⟨X,hX⟩:∃X:Hp,X=h_ (h_ h n (some (.cells ([AI d.W]++d.T0.j++[Cq d.V]++d.S.j)))) (n+1) (some (.cells LY)):=⟨_,rfl⟩
 refine A6 2 [(1,.ptr n 0),(2,.ptr (n+1) 0)] X (λm=>n+2=m) ?_ (λm hm=>?_)
 . rw[hX];simp[go_sem,AH.h,qw,Or,SV.cells,AF.j,AO.j]
   done
 subst hm;have hx:X n=some (.cells ([AI d.W]++d.T0.j++[Cq d.V]++d.S.j)):=by rw[hX,AB _ _ nN,AC]
 have hy:X (n+1)=some (.cells LY):=by rw[hX,AC]
 have hXo:∀j y,h j=some y->X j=some y:=λj y e=>by have:=hHb j y e;rw[hX,AB _ _ nN,AB _ _ nN];exact e
 clear hX;have hnn:n+1≠n:=by omega
 have hgoal:HT N d=(Jf N d.normal.renum).normal:=rfl;rw[hgoal];have hP:Jf N d.normal.renum=(Ia (MU (FL (DM (Hf N d.normal.renum))).2 (Df d.normal.renum.V 0 [(0,0)])) N (Qz d.normal.renum) ((CE d.normal.renum.S.C 0 [(0,0)]).2,[])).1:=rfl;generalize d.normal.renum=e at *;refine EF 0 (α:=SV×DN×SV×DN×SV×DN×Hp) (λ_=>[(1,.ptr n 0),(2,.ptr (n+1) 0)]) (λa=>a.2.2.2.2.2.2) (λa m=>I25 e h n a m) ?_ (λa m hm=>?_);simp[go_sem,hx,AF.j,AO.j];refine wM (by simpa[AH.h,AF.j,AO.j]using h74) ?_;rintro v h1 n1 ⟨hn1,ob,⟨vf,o1,vr,o2,vc,o3,rfl,rfl,hL1,hL2,hL3⟩,hnd,hks,hh⟩;have hx1:=wj (_L:=IV []) (_v:=vc) hks hh (show n<n+2 by omega) hx;have hy1:=wj (_L:=IV []) (_v:=vc) hks hh (show n+1<n+2 by omega) hy;have hL2':JG 3 _ _ vr o2:=hL2;have hL3':JG 6 _ _ vc o3:=hL3;obtain⟨s1,s2⟩:=hL1.st;obtain⟨s3,s4⟩:=hL2'.st;obtain⟨s5,s6⟩:=hL3'.st;unfold SV.B at s1 s3 s5;unfold SV.cells at s2 s4 s6;simp[go_sem,hx1,AF.j,AO.j];refine⟨vf,o1,vr,o2,vc,o3,_,⟨hn1,hL1,hL2,hL3,hnd,hks,λp hp=>?_,AC _ _ _,by dsimp only;rw[AB _ _ hnn];exact hy1,λj y e=>?_⟩,AE⟩;have:=hks p.1 (qb.2 ⟨p,hp,rfl⟩);dsimp only at hp ⊢;rw[AB _ _ nN];exact K6 hnd hh p hp;have:=hHb j y e;dsimp only;rw[AB _ _ nN];exact wj (_L:=IV []) (_v:=vc) hks hh nN (hXo j y e);obtain⟨vf,o1,vr,o2,vc,o3,hh⟩:=a;obtain⟨hnm,hL1,hL2,hL3,hnd,hks,hob,hx1,hy1,Ar⟩:=hm;dsimp only at hnm hL1 hL2 hL3 hnd hks hob hx1 hy1 Ar ⊢;have hL2':JG 3 _ _ vr o2:=hL2;have hL3':JG 6 _ _ vc o3:=hL3;obtain⟨s1,s2⟩:=hL1.st;obtain⟨s3,s4⟩:=hL2'.st;obtain⟨s5,s6⟩:=hL3'.st;unfold SV.B at s1 s3 s5;unfold SV.cells at s2 s4 s6;obtain⟨hob1,hob23⟩:=wE.1 hob;obtain⟨hob2,hob3⟩:=wE.1 hob23;have hks1:∀k∈AK o1,n+2<=k/\k<m:=λk hk=>hks k (by rw[Ad];exact qx _ hk);have hks2:∀k∈AK o2,n+2<=k/\k<m:=λk hk=>hks k (by rw[Ad,Ad];exact qt _ (qx _ hk));have hks3:∀k∈AK o3,n+2<=k/\k<m:=λk hk=>hks k (by rw[Ad,Ad];exact qt _ (qt _ hk));rw[Ad,Ad,qr,qr]at hnd;obtain⟨_,⟨_,_,nd23⟩,nd1⟩:=hnd;obtain⟨mv,hmv⟩:∃mv,mv=(FL (DM (Hf N e))).2:=⟨_,rfl⟩
 have has_keep:∀{o:DN} {G G':Hp},BL o G->(∀k∈AK o,G' k=G k)->BL o G':=fun {o G G'} g q p hp=>by rw[q p.1 (qb.2 ⟨p,hp,rfl⟩)];exact g p hp
 refine EF 0 (α:=Nat×Nat) (λa=>[(1,.ptr n 0),(2,.ptr (n+1) 0),(3,.ptr a.2 0),(4,.ptr (a.2+1) 0)])
  (λa=>h_ (h_ (h_ (h_ hh m (some (.map (EA [(0,0)])))) a.1 (some (.map (EX mv)))) a.2 (some (.cells [.map m]))) (a.2+1) (some (.cells [.map a.1]))) (λa m'=>m<a.1/\a.1<a.2/\m'=a.2+2) ?_ (λa m' hm'=>?_)
 have Gn:h_ hh m (some (.map (EA [(0,0)]))) n=_:=(AB _ _ nN).trans hx1;have keep:∀{o:DN},BL o hh->(∀k∈AK o,n+2<=k/\k<m)->BL o (h_ hh m (some (.map (EA [(0,0)])))):=λg q=>has_keep g λk hk=>AB _ _ (by have:=q k hk;omega);obtain⟨K0,hK0⟩:=Sq (h':=h_ hh m (some (.map (EA [(0,0)])))) (h2:=λ_=>none) (e:=e) hL1 hL2 hL3 (keep hob1 hks1) (keep hob2 hks2) (keep hob3 hks3) (λ_ _=>rfl) (λ_ _=>rfl) (λ_ _=>rfl);have hkv:EA [(0,0)]=[(AA 0,AA 0)]:=rfl;rw[hkv]at Gn hK0 ⊢;simp[go_sem,Gn,BN,Cd,AZ,AC];refine Ab.lendMap K0 (bs:=[e.h]) (es:=EX mv) (wn (w75 e he hK hl hmet (λ_=>none) (m+1)) ?_) ?_ ⟨hK0,trivial⟩ λr n' h1 h2=>?_;rintro v h' n' ⟨r,rfl,q1,q2,q3,_⟩;exact⟨r,rfl,q1,q2,by rw[hmv];exact q3⟩;intro p hp;obtain⟨x,_,rfl⟩:=qb.1 hp;exact⟨rfl,rfl⟩;simp[go_sem,AC,AB,qw];exact⟨r,n',⟨by omega,by omega,rfl⟩,⟨Or,Or⟩,λo y q=>by simp only[h_]at q ⊢;grind⟩;obtain⟨r,p⟩:=a;obtain⟨hmr,hrp,hmp⟩:=hm';dsimp only at hmr hrp hmp ⊢;subst hmp;obtain⟨B,hB⟩:∃B:Hp,B=h_ (h_ (h_ (h_ hh m (some (.map (EA [(0,0)])))) r (some (.map (EX mv)))) p (some (.cells [.map m]))) (p+1) (some (.cells [.map r])):=⟨_,rfl⟩
 rw[<-hB];have Bo:∀j,j≠m->j≠r->j≠p->j≠p+1->B j=hh j:=λj a b c d=>by rw[hB,AB _ _ d,AB _ _ c,AB _ _ b,AB _ _ a]
 have Bm:B m=some (.map (EA [(0,0)])):=by rw[hB,AB _ _ nN,AB _ _ nN,AB _ _ nN,AC]
 have Br:B r=some (.map (EX mv)):=by rw[hB,AB _ _ nN,AB _ _ nN,AC]
 have Bp:B p=some (.cells [.map m]):=by rw[hB,AB _ _ nN,AC]
 have Bp1:B (p+1)=some (.cells [.map r]):=by rw[hB,AC]
 have Bn:B n=_:=(Bo n nN nN nN nN).trans hx1;have Bn1:B (n+1)=_:=(Bo (n+1) nN nN nN nN).trans hy1;have bo1:BL o1 B:=has_keep hob1 λk hk=>by have:=hks1 k hk;exact Bo k nN nN nN nN
 have bo2:BL o2 B:=has_keep hob2 λk hk=>by have:=hks2 k hk;exact Bo k nN nN nN nN
 have bo3:BL o3 B:=has_keep hob3 λk hk=>by have:=hks3 k hk;exact Bo k nN nN nN nN
 have Bold:∀j y,h j=some y->B j=some y:=λj y q=>by have:=hHb j y q;rw[Bo j nN nN nN nN];exact Ar j y q
 have hrl:e.V.length<=1048576:=he.V;have hcl:e.S.C.length<=1048576:=he.set.C;refine AR 0 (α:=Hp) (λ_=>[(1,.ptr n 0),(2,.ptr (n+1) 0),(3,.ptr p 0),(4,.ptr (p+1) 0)]) (λh2=>h2) (λh2 m1=>p+2<=m1/\(∃o2',AK o2'=AK o2/\M5 3 ((EP e.V 0).map CI.h) vr o2'/\BL o2' h2)/\h2 m=some (.map (EA (Df e.V 0 [(0,0)])))/\∀j,j∉AK o2->j≠m->h2 j=B j) ?_ (λh2 m1 hm1=>?_);rcases hL2 with⟨hd0,⟨z',full,rfl⟩,rfl⟩|⟨jd,full,cs,sub,rfl,rfl,rfl,rfl⟩
 have hd0':e.V=[]:=by simpa using hd0
 refine A6 0 [(1,.ptr n 0),(2,.ptr (n+1) 0),(3,.ptr p 0),(4,.ptr (p+1) 0),(19,AA 0),(20,AA 0)] B (λm'=>p+2=m') ?_ (λm' hm'=>?_);simp[go_sem,Bn,Or];subst hm';refine AP (As 0 (α:=Unit) (λ_=>[(1,.ptr n 0),(2,.ptr (n+1) 0),(3,.ptr p 0),(4,.ptr (p+1) 0),(19,AA 0),(20,AA 0)]) (λ_=>B) (λ_ m'=>p+2=m') (λ_=>0) () rfl (by simp[look,Or]) AE ?_);rintro _ m' rfl;refine AJ ?_;simp[go_sem];exact⟨B,⟨⟨by rw[hd0'];exact .inl ⟨rfl,⟨_,_,rfl⟩,rfl⟩,λp hp=>by cases hp⟩,by rw[hd0'];exact Bm,λ_ _=>rfl⟩,AE⟩;have hjd:=hks2 jd (by simp[AK]);have hBj:B jd=some (.cells ((e.V.map CI.h).flatMap SV.cells)):=bo2 (jd,_) nO;obtain⟨W,hW⟩:∃W:Nat->Hp,∀i,W i=h_ (h_ B m (some (.map (EA (Df (e.V.take i) 0 [(0,0)]))))) jd (some (.cells (((EP (e.V.take i) 0++e.V.drop i).map CI.h).flatMap SV.cells))):=⟨_,λ_=>rfl⟩
 have Wj:∀i,W i jd=some (.cells (((EP (e.V.take i) 0++e.V.drop i).map CI.h).flatMap SV.cells)):=λi=>by rw[hW,AC]
 have Wm:∀i,W i m=some (.map (EA (Df (e.V.take i) 0 [(0,0)]))):=λi=>by rw[hW,AB _ _ nN,AC]
 have Wo:∀i j,j≠jd->j≠m->W i j=B j:=λi j hj hj2=>by rw[hW,AB _ _ hj,AB _ _ hj2]
 have W0:W 0=B:=by rw[hW];simp only[vt,EP,Df,qK,wq];funext j;simp only[h_];grind
 refine A6 0 [(1,.ptr n 0),(2,.ptr (n+1) 0),(3,.ptr p 0),(4,.ptr (p+1) 0),(19,AA e.V.length),(20,AA 0)] (W 0) (λm'=>p+2=m') ?_ (λm' hm'=>?_);rw[W0];rw[qj]at Bn;simp[go_sem,Bn,Or];subst hm';refine AP (As 0 (α:=Nat) (λi=>[(1,.ptr n 0),(2,.ptr (n+1) 0),(3,.ptr p 0),(4,.ptr (p+1) 0),(19,AA e.V.length),(20,AA i)]) W (λi m'=>i<=e.V.length/\p+2<=m') (λi=>e.V.length-i) 0 ⟨qi _,IO _⟩ ?_ AE ?_);simp[go_sem,look,Or];rintro i m' ⟨hi,hm'⟩;by_cases hlt:i<e.V.length;have w1:=wS i nN;obtain⟨x,hx⟩:∃x,e.V[i]=x:=⟨_,rfl⟩
 refine Ai 0 [(1,.ptr n 0),(2,.ptr (n+1) 0),(3,.ptr p 0),(4,.ptr (p+1) 0),(19,AA e.V.length),(20,AA i),(21,.bool true)] (W i) m' ?_ (λm3 hm3=>?_);simp[go_sem,Or,hlt];subst hm3;refine Ai 0 [(1,.ptr n 0),(2,.ptr (n+1) 0),(3,.ptr p 0),(4,.ptr (p+1) 0),(19,AA e.V.length),(20,AA i)] (W i) m' ?_ (λm3 hm3=>?_);simp[go_sem,Or];subst hm3;refine AR 0 (α:=Unit) (λ_=>[(1,.ptr n 0),(2,.ptr (n+1) 0),(3,.ptr p 0),(4,.ptr (p+1) 0),(19,AA e.V.length),(20,AA i)]) (λ_=>W (i+1)) (λ_ m3=>m'<=m3) (AP ?_) (λ_ m3 hm3=>?_);have Wn:W i n=_:=(Wo i n nN nN).trans Bn;have Wp:W i p=_:=(Wo i p nN nN).trans Bp;obtain⟨P,hP⟩:∃P:List SV,P=((EP (e.V.take i) 0).map CI.h).flatMap SV.cells:=⟨_,rfl⟩
 obtain⟨S,hS⟩:∃S:List SV,S=((e.V.drop (i+1)).map CI.h).flatMap SV.cells:=⟨_,rfl⟩
 have hPl:P.length=i*3:=by rw[hP,IK (z:=3) (λe he=>by obtain⟨y,_,rfl⟩:=qb.1 he;rfl),qj,G8,va,vQ hi]
 have hlen:(e.V.take i).length=i:=by rw[va,vQ hi]
 have e1:((EP (e.V.take i) 0++e.V.drop i).map CI.h).flatMap SV.cells=P++(AA x.id::.str x.O::AA x.time::S):=by
  rw[qG hlt,hx,hP,hS,qc,qS];rfl
 have e2:((EP (e.V.take (i+1)) 0++e.V.drop (i+1)).map CI.h).flatMap SV.cells=P++(AA ((i+1:Nat):Int)::.str x.O::AA x.time::S):=by
  rw[qa hlt,hx,Lj,hlen,Int.zero_add,hP,hS,qv,qc,qS];rfl
 have e3:Df (e.V.take (i+1)) 0 [(0,0)]=DL (Df (e.V.take i) 0 [(0,0)]) x.id ((i+1:Nat):Int):=by
  rw[qa hlt,hx,PH,hlen,Int.zero_add];rfl
 have Wi:=Wj i;have Wmi:=Wm i;rw[e1]at Wi;obtain⟨q,hq⟩:∃q,q=Df (e.V.take i) 0 [(0,0)]:=⟨_,rfl⟩
 rw[<-hq]at e3 Wmi;obtain⟨Z,hZ⟩:∃Z:Hp,Z=h_ (W i) m (some (.map (EA (DL q x.id ((i+1:Nat):Int))))):=⟨_,rfl⟩
 have Wi1:W (i+1)=h_ Z jd (some (.cells (P++(AA ((i+1:Nat):Int)::.str x.O::AA x.time::S)))):=by
  rw[hW (i+1),hZ,hW i,e2,e3];funext j;simp only[h_];grind
 have hlt':(i:Int)<e.V.length:=by omega
 refine Ai 0 [(1,.ptr n 0),(2,.ptr (n+1) 0),(3,.ptr p 0),(4,.ptr (p+1) 0),(5,AA i),(19,AA e.V.length),(20,AA i)] (W i) m' ?_ (λm4 hm4=>?_);simp[go_sem,Or];subst hm4;refine AR 0 (α:=Unit) (λ_=>[(1,.ptr n 0),(2,.ptr (n+1) 0),(3,.ptr p 0),(4,.ptr (p+1) 0),(5,AA i),(19,AA e.V.length),(20,AA i)]) (λ_=>Z) (λ_ m4=>m'=m4) (CJ Yu rfl nQ nQ ?_) (λ_ m4 hm4=>?_);rw[hZ];rcases Gy x.id ((i+1:Nat):Int) q 0 with⟨h1,h2,h3⟩|⟨j,h1,h2⟩
 rw[<-h3];simp[go_sem,Yu,Or,Wn,Wp,Wmi,Wi,h1,BN,hlt',w1,BW hPl,hPl,-Int.natCast_add];rw[qW]at h1;rw[<-h2];simp[go_sem,Yu,Or,Wn,Wp,Wmi,Wi,h1,BN,hlt',w1,BW hPl,hPl,-Int.natCast_add];subst hm4;have Zn:=(show Z n=W i n by rw[hZ];exact AB _ _ nN).trans Wn;have Zj:=(show Z jd=W i jd by rw[hZ];exact AB _ _ nN).trans Wi;rw[Wi1];refine AJ ?_;simp[go_sem,Or,Zn,Zj,hlt',w1,B9 hPl,BZ hPl,hPl,-Int.natCast_add];refine AJ ?_;simp[go_sem,w1,Or,-Int.natCast_add];exact⟨i+1,by omega,⟨by omega,by omega⟩,Or,AE⟩;have:i=e.V.length:=by omega
 subst this;refine AJ ?_;have hfin:p+2<=m'/\(∃o2',AK o2'=AK [(jd,A7.cells ((e.V.map CI.h).flatMap SV.cells))]/\M5 3 ((EP e.V 0).map CI.h) (.sl jd 0 3 (e.V.map CI.h).length full) o2'/\BL o2' (W e.V.length))/\W e.V.length m=some (.map (EA (Df e.V 0 [(0,0)])))/\∀j,j∉AK [(jd,A7.cells ((e.V.map CI.h).flatMap SV.cells))]->j≠m->W e.V.length j=B j:=by
  refine⟨hm',⟨[(jd,.cells (((EP e.V 0).map CI.h).flatMap SV.cells))],rfl,.inr ⟨jd,full,_,[],by simp[G8],rfl,rfl,rfl⟩,λp hp=>?_⟩,by rw[Wm,qn],λj hj hj2=>Wo _ j (λe=>hj (by simp[AK,e])) hj2⟩;rw[qA]at hp;subst hp;show W _ jd=_;rw[Wj,qn,wA,vp]
 simp[go_sem];exact⟨W e.V.length,by simpa using hfin,AE⟩;obtain⟨hm1,⟨o2',hk2,hL2n,ho2'⟩,hmp2,hoff2⟩:=hm1;have Dn:h2 n=_:=(hoff2 n (λg=>by have:=hks2 n g;omega) nN).trans Bn;have Dn1:h2 (n+1)=_:=(hoff2 (n+1) (λg=>by have:=hks2 _ g;omega) nN).trans Bn1;have Dr:h2 r=_:=(hoff2 r (λg=>by have:=hks2 r g;omega) nN).trans Br;have Dp:h2 p=_:=(hoff2 p (λg=>by have:=hks2 p g;omega) nN).trans Bp;have Dp1:h2 (p+1)=_:=(hoff2 (p+1) (λg=>by have:=hks2 _ g;omega) nN).trans Bp1;have do1:BL o1 h2:=has_keep bo1 λk hk=>hoff2 k (λg=>nd1 _ hk _ (by simp only[qf];exact .inl g) rfl) (by have:=hks1 k hk;omega);have do3:BL o3 h2:=has_keep bo3 λk hk=>hoff2 k (λg=>nd23 _ g _ hk rfl) (by have:=hks3 k hk;omega);have Dold:∀j y,h j=some y->h2 j=some y:=λj y q=>by have:=hHb j y q;rw[hoff2 j (λg=>by have:=hks2 _ g;omega) nN];exact Bold j y q
 clear hB Bo Bm Br Bp Bp1 Bn Bn1 bo1 bo2 bo3 Bold hoff2;refine A6 0 [(1,.ptr n 0),(2,.ptr (n+1) 0),(3,.ptr p 0),(4,.ptr (p+1) 0),(6,.ptr (m1+2) 0),(7,.ptr (m1+3) 0)] (h_ (h_ (h_ (h_ h2 m1 (some (.map (EA [(0,0)])))) (m1+1) (some (.map (EA [])))) (m1+2) (some (.cells [.map m1]))) (m1+3) (some (.cells [.map (m1+1)]))) (λm'=>m1+4=m') ?_ (λm' hm'=>?_);have hkv:EA [(0,0)]=[(AA 0,AA 0)]:=rfl;have hkv2:EA []=[]:=rfl;rw[hkv,hkv2];simp[go_sem,BN,Cd,AZ,AC,AB,Or,qw];intro o y q;simp only[h_]at q ⊢;grind;subst hm';obtain⟨C,hC⟩:∃C:Hp,C=h_ (h_ (h_ (h_ h2 m1 (some (.map (EA [(0,0)])))) (m1+1) (some (.map (EA [])))) (m1+2) (some (.cells [.map m1]))) (m1+3) (some (.cells [.map (m1+1)])):=⟨_,rfl⟩
 rw[<-hC];have Co:∀j,j<m1->C j=h2 j:=λj q=>by rw[hC,AB _ _ nN,AB _ _ nN,AB _ _ nN,AB _ _ nN]
 have Cm:C m1=some (.map (EA [(0,0)])):=by rw[hC,AB _ _ nN,AB _ _ nN,AB _ _ nN,AC]
 have Cm1:C (m1+1)=some (.map (EA [])):=by rw[hC,AB _ _ nN,AB _ _ nN,AC]
 have Cm2:C (m1+2)=some (.cells [.map m1]):=by rw[hC,AB _ _ nN,AC]
 have Cm3:C (m1+3)=some (.cells [.map (m1+1)]):=by rw[hC,AC]
 have Cn:C n=_:=(Co n nN).trans Dn;have Cn1:C (n+1)=_:=(Co _ nN).trans Dn1;have Cr:C r=_:=(Co _ nN).trans Dr;have Cp:C p=_:=(Co _ nN).trans Dp;have Cp1:C (p+1)=_:=(Co _ nN).trans Dp1;have Cmm:C m=_:=(Co _ nN).trans hmp2;have co1:BL o1 C:=has_keep do1 λk hk=>Co k (by have:=hks1 k hk;omega);have co2:BL o2' C:=has_keep ho2' λk hk=>Co k (by rw[hk2]at hk;have:=hks2 k hk;omega);have co3:BL o3 C:=has_keep do3 λk hk=>Co k (by have:=hks3 k hk;omega);have Cold:∀j y,h j=some y->C j=some y:=λj y q=>by have:=hHb j y q;rw[Co j nN];exact Dold j y q
 refine AR 0 (α:=Hp) (λ_=>[(1,.ptr n 0),(2,.ptr (n+1) 0),(3,.ptr p 0),(4,.ptr (p+1) 0),(6,.ptr (m1+2) 0),(7,.ptr (m1+3) 0)]) (λh3=>h3) (λh3 m2=>m1+4<=m2/\(∃o3',AK o3'=AK o3/\M5 6 ((CE e.S.C 0 [(0,0)]).1.map AX.h) vc o3'/\BL o3' h3)/\h3 m1=some (.map (EA (CE e.S.C 0 [(0,0)]).2))/\∀j,j∉AK o3->j≠m1->h3 j=C j) ?_ (λh3 m2 hm2=>?_)
 . rcases hL3 with⟨hd0,⟨z',full,rfl⟩,rfl⟩|⟨jd,full,cs,sub,rfl,rfl,rfl,rfl⟩
   have hd0':e.S.C=[]:=by simpa using hd0
   refine A6 0 [(1,.ptr n 0),(2,.ptr (n+1) 0),(3,.ptr p 0),(4,.ptr (p+1) 0),(6,.ptr (m1+2) 0),(7,.ptr (m1+3) 0),(46,AA 0),(47,AA 0)] C (λm'=>m1+4=m') ?_ (λm' hm'=>?_);simp[go_sem,Cn,Or];subst hm';refine AP (As 0 (α:=Unit) (λ_=>[(1,.ptr n 0),(2,.ptr (n+1) 0),(3,.ptr p 0),(4,.ptr (p+1) 0),(6,.ptr (m1+2) 0),(7,.ptr (m1+3) 0),(46,AA 0),(47,AA 0)]) (λ_=>C) (λ_ m'=>m1+4=m') (λ_=>0) () rfl (by simp[look,Or]) AE ?_);rintro _ m' rfl;refine AJ ?_;simp[go_sem];exact⟨C,⟨⟨by rw[hd0'];exact .inl ⟨rfl,⟨_,_,rfl⟩,rfl⟩,λp hp=>by cases hp⟩,by rw[hd0'];exact Cm,λ_ _=>rfl⟩,AE⟩
   . have hjd:=hks3 jd (by simp[AK]);have hCj:C jd=some (.cells ((e.S.C.map AX.h).flatMap SV.cells)):=co3 (jd,_) nO;obtain⟨W,hW⟩:∃W:Nat->Hp,∀i,W i=h_ (h_ C m1 (some (.map (EA (CE (e.S.C.take i) 0 [(0,0)]).2)))) jd (some (.cells ((((CE (e.S.C.take i) 0 [(0,0)]).1++e.S.C.drop i).map AX.h).flatMap SV.cells))):=⟨_,λ_=>rfl⟩
     have Wj:∀i,W i jd=some (.cells ((((CE (e.S.C.take i) 0 [(0,0)]).1++e.S.C.drop i).map AX.h).flatMap SV.cells)):=λi=>by rw[hW,AC]
     have Wm:∀i,W i m1=some (.map (EA (CE (e.S.C.take i) 0 [(0,0)]).2)):=λi=>by rw[hW,AB _ _ nN,AC]
     have Wo:∀i j,j≠jd->j≠m1->W i j=C j:=λi j hj hj2=>by rw[hW,AB _ _ hj,AB _ _ hj2]
     have W0:W 0=C:=by rw[hW];simp only[vt,CE,qK,wq];funext j;simp only[h_];grind
     refine A6 0 [(1,.ptr n 0),(2,.ptr (n+1) 0),(3,.ptr p 0),(4,.ptr (p+1) 0),(6,.ptr (m1+2) 0),(7,.ptr (m1+3) 0),(46,AA e.S.C.length),(47,AA 0)] (W 0) (λm'=>m1+4=m') ?_ (λm' hm'=>?_);rw[W0];rw[qj]at Cn;simp[go_sem,Cn,Or];subst hm';refine AP (As 0 (α:=Nat) (λi=>[(1,.ptr n 0),(2,.ptr (n+1) 0),(3,.ptr p 0),(4,.ptr (p+1) 0),(6,.ptr (m1+2) 0),(7,.ptr (m1+3) 0),(46,AA e.S.C.length),(47,AA i)]) W (λi m'=>i<=e.S.C.length/\m1+4<=m') (λi=>e.S.C.length-i) 0 ⟨qi _,IO _⟩ ?_ AE ?_);simp[go_sem,look,Or];rintro i m' ⟨hi,hm'⟩;by_cases hlt:i<e.S.C.length
     . have w1:=wS i nN;obtain⟨x,hx⟩:∃x,e.S.C[i]=x:=⟨_,rfl⟩
       refine Ai 0 [(1,.ptr n 0),(2,.ptr (n+1) 0),(3,.ptr p 0),(4,.ptr (p+1) 0),(6,.ptr (m1+2) 0),(7,.ptr (m1+3) 0),(46,AA e.S.C.length),(47,AA i),(48,.bool true)] (W i) m' ?_ (λm3 hm3=>?_);simp[go_sem,Or,hlt];subst hm3;refine Ai 0 [(1,.ptr n 0),(2,.ptr (n+1) 0),(3,.ptr p 0),(4,.ptr (p+1) 0),(6,.ptr (m1+2) 0),(7,.ptr (m1+3) 0),(46,AA e.S.C.length),(47,AA i)] (W i) m' ?_ (λm3 hm3=>?_);simp[go_sem,Or];subst hm3;refine AR 0 (α:=Unit) (λ_=>[(1,.ptr n 0),(2,.ptr (n+1) 0),(3,.ptr p 0),(4,.ptr (p+1) 0),(6,.ptr (m1+2) 0),(7,.ptr (m1+3) 0),(46,AA e.S.C.length),(47,AA i)]) (λ_=>W (i+1)) (λ_ m3=>m'<=m3) (AP ?_) (λ_ m3 hm3=>?_)
       . have Wn:W i n=_:=(Wo i n nN nN).trans Cn;have Wm2:W i (m1+2)=_:=(Wo i (m1+2) nN nN).trans Cm2;obtain⟨P,hP⟩:∃P:List SV,P=((CE (e.S.C.take i) 0 [(0,0)]).1.map AX.h).flatMap SV.cells:=⟨_,rfl⟩
         obtain⟨S,hS⟩:∃S:List SV,S=((e.S.C.drop (i+1)).map AX.h).flatMap SV.cells:=⟨_,rfl⟩
         have hPl:P.length=i*6:=by rw[hP,IK (z:=6) (λe he=>by obtain⟨y,_,rfl⟩:=qb.1 he;rfl),qj,Ki,va,vQ hi]
         have hlen:(e.S.C.take i).length=i:=by rw[va,vQ hi]
         obtain⟨q,hq⟩:∃q,q=(CE (e.S.C.take i) 0 [(0,0)]).2:=⟨_,rfl⟩
         obtain⟨c1,hc1⟩:∃c1,c1=Cl (DL q x.id ((i+1:Nat):Int)) x.parent:=⟨_,rfl⟩
         have e1:(((CE (e.S.C.take i) 0 [(0,0)]).1++e.S.C.drop i).map AX.h).flatMap SV.cells=P++(AA x.id::AA x.parent::.str x.O::AA x.time::.str x.J::.bool x.done::S):=by
          rw[qG hlt,hx,hP,hS,qc,qS];rfl
         have e0:CE (e.S.C.take (i+1)) 0 [(0,0)]=((CE (e.S.C.take i) 0 [(0,0)]).1++[{ x with id:=((i+1:Nat):Int),parent:=c1 }],DL q x.id ((i+1:Nat):Int)):=by
          rw[qa hlt,hx,On,hlen,Int.zero_add,hc1,hq];rfl
         have e2:(((CE (e.S.C.take (i+1)) 0 [(0,0)]).1++e.S.C.drop (i+1)).map AX.h).flatMap SV.cells=P++(AA ((i+1:Nat):Int)::AA c1::.str x.O::AA x.time::.str x.J::.bool x.done::S):=by
          rw[e0,hP,hS,qv,qc,qS];rfl
         have e3:(CE (e.S.C.take (i+1)) 0 [(0,0)]).2=DL q x.id ((i+1:Nat):Int):=by rw[e0]
         have Wi:=Wj i;have Wmi:=Wm i;rw[e1]at Wi;rw[<-hq]at Wmi;obtain⟨Z,hZ⟩:∃Z:Hp,Z=h_ (W i) m1 (some (.map (EA (DL q x.id ((i+1:Nat):Int))))):=⟨_,rfl⟩
         have Wi1:W (i+1)=h_ Z jd (some (.cells (P++(AA ((i+1:Nat):Int)::AA c1::.str x.O::AA x.time::.str x.J::.bool x.done::S)))):=by
          rw[hW (i+1),hZ,hW i,e2,e3];funext j;simp only[h_];grind
         have hlt':(i:Int)<e.S.C.length:=by omega
         refine Ai 0 [(1,.ptr n 0),(2,.ptr (n+1) 0),(3,.ptr p 0),(4,.ptr (p+1) 0),(6,.ptr (m1+2) 0),(7,.ptr (m1+3) 0),(8,AA i),(46,AA e.S.C.length),(47,AA i)] (W i) m' ?_ (λm4 hm4=>?_);simp[go_sem,Or];subst hm4;refine Ai 0 [(1,.ptr n 0),(2,.ptr (n+1) 0),(3,.ptr p 0),(4,.ptr (p+1) 0),(6,.ptr (m1+2) 0),(7,.ptr (m1+3) 0),(8,AA i),(9,.ptr jd (i*6)),(46,AA e.S.C.length),(47,AA i)] (W i) m' ?_ (λm4 hm4=>?_);simp[go_sem,Or,Wn,hlt'];subst hm4;refine AR 0 (α:=Unit) (λ_=>[(1,.ptr n 0),(2,.ptr (n+1) 0),(3,.ptr p 0),(4,.ptr (p+1) 0),(6,.ptr (m1+2) 0),(7,.ptr (m1+3) 0),(8,AA i),(9,.ptr jd (i*6)),(46,AA e.S.C.length),(47,AA i)]) (λ_=>Z) (λ_ m4=>m'=m4) (CJ Yv rfl nQ nQ ?_) (λ_ m4 hm4=>?_);rw[hZ];rcases Gy x.id ((i+1:Nat):Int) q 0 with⟨h1,h2,h3⟩|⟨j,h1,h2⟩
         rw[<-h3];simp[go_sem,Yv,Or,Wm2,Wmi,Wi,h1,BN,w1,BW hPl,hPl,-Int.natCast_add];rw[qW]at h1;rw[<-h2];simp[go_sem,Yv,Or,Wm2,Wmi,Wi,h1,BN,w1,BW hPl,hPl,-Int.natCast_add];subst hm4;have Zm2:=(show Z (m1+2)=W i (m1+2)by rw[hZ];exact AB _ _ nN).trans Wm2;have Zm:Z m1=some (.map (EA (DL q x.id ((i+1:Nat):Int)))):=by rw[hZ,AC]
         have Zj:=(show Z jd=W i jd by rw[hZ];exact AB _ _ nN).trans Wi;rw[Wi1];refine CJ Yw rfl nQ nQ ?_;have hmj:m1≠jd:=by omega
         have d2:∀L:List SV,(P++L).drop (i*6+1+1)=L.drop 2:=λL=>B9 hPl 2;have t1:i*6+1+1<=i*6+(S.length+1+1+1+1+1+1):=by omega
         have t2:i*6+1<=i*6+(S.length+1+1+1+1+1+1):=by omega
         have hmj2:m1+2≠jd:=by omega
         rcases Gi x.parent (DL q x.id ((i+1:Nat):Int))with⟨q1,q2⟩|⟨j,q1⟩
         rw[<-hc1]at q2;simp[go_sem,Yw,Or,t1,t2,d2,Zm2,Zm,Zj,q1,q2,BN,w1,AC,AZ,B9 hPl,CG hPl,BZ hPl,hPl,-Int.natCast_add];rw[<-hc1]at q1;simp[go_sem,Yw,Or,t1,t2,d2,Zm2,Zm,Zj,q1,BN,w1,AC,AZ,B9 hPl,CG hPl,BZ hPl,hPl,-Int.natCast_add]
       refine AJ ?_;simp[go_sem,w1,Or,-Int.natCast_add];exact⟨i+1,by omega,⟨by omega,by omega⟩,Or,AE⟩
     have:i=e.S.C.length:=by omega
     subst this;refine AJ ?_;have hfin:m1+4<=m'/\(∃o3',AK o3'=AK [(jd,A7.cells ((e.S.C.map AX.h).flatMap SV.cells))]/\M5 6 ((CE e.S.C 0 [(0,0)]).1.map AX.h) (.sl jd 0 6 (e.S.C.map AX.h).length full) o3'/\BL o3' (W e.S.C.length))/\W e.S.C.length m1=some (.map (EA (CE e.S.C 0 [(0,0)]).2))/\∀j,j∉AK [(jd,A7.cells ((e.S.C.map AX.h).flatMap SV.cells))]->j≠m1->W e.S.C.length j=C j:=by
      refine⟨hm',⟨[(jd,.cells (((CE e.S.C 0 [(0,0)]).1.map AX.h).flatMap SV.cells))],rfl,.inr ⟨jd,full,_,[],by simp[Ki],rfl,rfl,rfl⟩,λp hp=>?_⟩,by rw[Wm,qn],λj hj hj2=>Wo _ j (λe=>hj (by simp[AK,e])) hj2⟩;rw[qA]at hp;subst hp;show W _ jd=_;rw[Wj,qn,wA,vp]
     simp[go_sem];exact⟨W e.S.C.length,by simpa using hfin,AE⟩
 obtain⟨hm2,⟨o3',hk3,hL3n,ho3'⟩,hmc,hoff3⟩:=hm2;have En:h3 n=_:=(hoff3 n (λg=>by have:=hks3 n g;omega) nN).trans Cn;have En1:h3 (n+1)=_:=(hoff3 (n+1) (λg=>by have:=hks3 _ g;omega) nN).trans Cn1;have Er:h3 r=_:=(hoff3 r (λg=>by have:=hks3 r g;omega) nN).trans Cr;have Ep:h3 p=_:=(hoff3 p (λg=>by have:=hks3 p g;omega) nN).trans Cp;have Ep1:h3 (p+1)=_:=(hoff3 (p+1) (λg=>by have:=hks3 _ g;omega) nN).trans Cp1;have Em:h3 m=_:=(hoff3 m (λg=>by have:=hks3 m g;omega) nN).trans Cmm;have Em1:h3 (m1+1)=_:=(hoff3 (m1+1) (λg=>by have:=hks3 _ g;omega) nN).trans Cm1;have Em2:h3 (m1+2)=_:=(hoff3 (m1+2) (λg=>by have:=hks3 _ g;omega) nN).trans Cm2;have Em3:h3 (m1+3)=_:=(hoff3 (m1+3) (λg=>by have:=hks3 _ g;omega) nN).trans Cm3;have eo1:BL o1 h3:=has_keep co1 λk hk=>hoff3 k (λg=>nd1 _ hk _ (by simp only[qf];exact .inr g) rfl) (by have:=hks1 k hk;omega);have eo2:BL o2' h3:=has_keep co2 λk hk=>by rw[hk2]at hk;exact hoff3 k (λg=>nd23 _ hk _ g rfl) (by have:=hks2 k hk;omega)
 have Eold:∀j y,h j=some y->h3 j=some y:=λj y q=>by have:=hHb j y q;rw[hoff3 j (λg=>by have:=hks3 _ g;omega) nN];exact Cold j y q
 obtain⟨O,hO⟩:∃O:M3,O=⟨m,r,p,p+1,m1,m1+1,m1+2,m1+3⟩:=⟨_,rfl⟩
 refine A6 0 [(1,.ptr n 0),(2,.ptr (n+1) 0),(3,.ptr p 0),(4,.ptr (p+1) 0),(6,.ptr (m1+2) 0),(7,.ptr (m1+3) 0),(10,.ptr m2 0)] (h_ h3 m2 (some (.cells [.fn (.func 113) [] [],.fn (.func 114) [] [],.fn (.func 115) [] []]))) (λm'=>m2+1=m') ?_ (λm' hm'=>?_);simp[go_sem];refine qO w46 ?_;simp[go_sem,Or,AZ,AC,SV.cells];subst hm';refine A6 0 [(1,.ptr n 0),(2,.ptr (n+1) 0),(3,.ptr p 0),(4,.ptr (p+1) 0),(6,.ptr (m1+2) 0),(7,.ptr (m1+3) 0),(10,.ptr m2 0)] (h_ h3 m2 (some (.cells [.fn (.func 113) [] [],.fn (.func 76) [] [.ptr (p+1) 0,.ptr p 0],.fn (.func 115) [] []]))) (λm'=>m2+1=m') ?_ (λm' hm'=>?_);simp[go_sem,Or,AZ,AC,SV.cells];subst hm';refine A6 0 [(1,.ptr n 0),(2,.ptr (n+1) 0),(10,.ptr m2 0)] (h_ h3 m2 (some (.cells [.fn (.func 113) [] [],.fn (.func 76) [] [.ptr (p+1) 0,.ptr p 0],.fn (.func 77) [] [.ptr (m1+3) 0,.ptr (m1+2) 0]]))) (λm'=>m2+1=m') ?_ (λm' hm'=>?_);simp[go_sem,Or,AZ,AC,SV.cells];subst hm';obtain⟨G,hG⟩:∃G:Hp,G=h_ h3 m2 (some (.cells [.fn (.func 113) [] [],.fn (.func 76) [] [.ptr (p+1) 0,.ptr p 0],.fn (.func 77) [] [.ptr (m1+3) 0,.ptr (m1+2) 0]])):=⟨_,rfl⟩
 have Gm2:G m2=some (.cells [.fn (.func 113) [] [],.fn (.func 76) [] [.ptr (p+1) 0,.ptr p 0],.fn (.func 77) [] [.ptr (m1+3) 0,.ptr (m1+2) 0]]):=by rw[hG,AC]
 have Go:∀j,j≠m2->G j=h3 j:=λj hj=>by rw[hG,AB _ _ hj]
 rw[<-hG];have Gn:G n=_:=(Go n nN).trans En;obtain⟨s0,hs0⟩:∃s0:List (Int×Int)×List (Int×Int),s0=((CE e.S.C 0 [(0,0)]).2,[]):=⟨_,rfl⟩
 obtain⟨rv,hrv⟩:∃rv,rv=Df e.V 0 [(0,0)]:=⟨_,rfl⟩
 rw[<-hmv,<-hrv,<-hs0]at hP hrk;have hkeys:O.keys=[m1,m1+1,m,r,p,p+1,m1+2,m1+3]:=by rw[hO];rfl
 have hOm:∀k∈O.keys,m<=k/\k<m2:=by
  rw[hkeys];intro k hk;simp only[qd,vC,or_false]at hk;omega
 have hOn:O.keys.Nodup:=by rw[hkeys];simp;omega
 have hstk:∀o y,L0 O mv rv s0 o=some y->h3 o=some y:=λo y q=>by
  simp only[L0,hO]at q;split at q
  . next g=>cases q;rw[g,hs0];exact hmc
  split at q
  . next g=>cases q;rw[g,hs0];exact Em1
  split at q
  . next g=>cases q;rw[g,hrv];exact Em
  split at q
  . next g=>cases q;rw[g];exact Er
  split at q
  . next g=>cases q;rw[g];exact Ep
  split at q
  . next g=>cases q;rw[g];exact Ep1
  split at q
  . next g=>cases q;rw[g];exact Em2
  split at q
  . next g=>cases q;rw[g];exact Em3
  cases q
 obtain⟨R2,hR2⟩:∃R2:Hp,R2=h_ (Aq (L0 O mv rv) s0 h) (n+1) (some (.cells LY)):=⟨_,rfl⟩
 have hst1:∀s o y,L0 O mv rv s o=some y->m<=o/\o<m2:=λs o y q=>by
  refine hOm o (wG λg=>?_);rw[OI.2 g]at q;cases q
 have hup:∀s o,o<m->Aq (L0 O mv rv) s h o=h o:=λs o q=>by
  simp only[Aq];cases e1:L0 O mv rv s o with
  | none=>rfl
  | some y=>have:=hst1 s o y e1;omega
 have hsub:∀o y,R2 o=some y->G o=some y:=λo y q=>by
  rw[hR2]at q;by_cases e1:o=n+1;subst e1;rw[AC]at q;rw[Go _ nN,En1];exact q;rw[AB _ _ e1]at q;simp only[Aq]at q;cases e2:L0 O mv rv s0 o with
  | none=>
   rw[e2]at q;have:=hHb o y q;rw[Go _ nN];exact Eold o y q
  | some z=>
   rw[e2]at q;cases q;have:=hst1 s0 o _ e2;rw[Go _ nN];exact hstk o _ e2
 have hR2n:∀k,n+2<=k->k<m->R2 k=none:=λk h1 h2=>by
  rw[hR2,AB _ _ nN,hup _ _ h2];cases e1:h k with
  | none=>rfl
  | some y=>have:=hHb k y e1;omega
 have go1:BL o1 G:=has_keep eo1 λk hk=>Go k (by have:=hks1 k hk;omega);have go2:BL o2' G:=has_keep eo2 λk hk=>Go k (by rw[hk2]at hk;have:=hks2 k hk;omega);have go3:BL o3' G:=has_keep ho3' λk hk=>Go k (by rw[hk3]at hk;have:=hks3 k hk;omega);obtain⟨K0,hK0⟩:=Sq (h':=G) (h2:=R2) (e:=e) hL1 hL2n hL3n go1 go2 go3 (λk hk=>hR2n k (hks1 k hk).1 (hks1 k hk).2) (λk hk=>by rw[hk2]at hk;exact hR2n k (hks2 k hk).1 (hks2 k hk).2) (λk hk=>by rw[hk3]at hk;exact hR2n k (hks3 k hk).1 (hks3 k hk).2);have h49:=gh (lM (O:=O) (n0:=m2+1) mv rv (λk hk=>by have:=hOm k hk;omega) hOn hK) (Qz e) hE hE.T0 N hl s0 hrk (H:=R2) (n:=m2+1) (IO _) (λo y q=>by
  have:=hst1 s0 o y q;rw[hR2,AB _ _ nN];simp only[Aq];rw[q])
 rw[hO]at h49;dsimp only at h49;rw[<-hO]at h49;have hfin:∀s,Aq (L0 O mv rv) s R2 (n+1)=some (.cells LY):=λs=>by
  simp only[Aq];cases e1:L0 O mv rv s (n+1)with
  | none=>rw[hR2];exact AC _ _ _
  | some y=>have:=hst1 s _ y e1;omega
 have hfin2:∀s j y,h j=some y->Aq (L0 O mv rv) s R2 j=some y:=λs j y q=>by
  have:=hHb j y q;simp only[Aq];cases e1:L0 O mv rv s j with
  | none=>show R2 j=_;rw[hR2,AB _ _ nN,hup _ _ nN];exact q
  | some y=>have:=hst1 s _ y e1;omega
 refine AJ ?_;simp[go_sem,Gm2,Gn];refine wT (bs:=[.agg [.fn (.func 113) [] [],.fn (.func 76) [] [.ptr (p+1) 0,.ptr p 0],.fn (.func 77) [] [.ptr (m1+3) 0,.ptr (m1+2) 0]],(Qz e).h]) (h2:=R2) K0 hsub ⟨Or,hK0,trivial⟩ ?_;refine qI h49 ?_;rintro v h' n' ⟨rfl,rfl,rfl⟩;rw[<-hP];simp[go_sem];refine qO (c21 _ hY hZ hW) ?_;generalize(Jf N e).normal=z;have hcl:=AH.cl n z;have hen:z.h=.agg [AI z.W,AU z.T0.Q,AA z.T0.I,AA z.T0.move,Aa z.T0.Y,AN z.T0.Z,Cq z.V,AW z.S.A,CA z.S.L,A8 z.S.C,CW z.S.vars]:=by simp[AH.h,AF.j,AO.j]
 rw[hen]at hcl;simp[go_sem,hfin,AC,AH.h,AF.j,AO.j];exact K8 ho hcl λj y q=>by
  have:=hHb j y q;rw[AB _ _ nN];exact hfin2 _ j y q
theorem Mo(a b:List AD):AD.hdL (a++b)=AD.hdL a++AD.hdL b:=by simp only[wV,qS]
theorem Mp(x:AD):AD.hdL [x]=x.hd:=by simp[wV]
theorem Z6(x:AD)(t:ByteArray):(AD.mk x.l x.code x.id t x.H x.W x.R).hd=x.hd:=by cases x;rw[AD.hd,AD.hd];rfl
theorem S4:∀{N:Nat} {l:List AD},MW N l->(AD.hdL l).length<=21*M2 N l
 | 0,_,h=>h.elim
 | N + 1, l, H => by
  have a:∀b:List AG,(∀c∈b,MW N c.W)->(AG.hdL b).length<=21*(b.map λc=>1+M2 N c.W).sum:=by
   intro b
   induction b with
   | nil=>intro _;rw[AG.hdL];simp
   | cons c b ih=>
    intro h;have h1:=ih λc a=>h c (by simp[a]);have h2:=S4 (h c nO);rw[AG.hdL,qk,wY,qo,qg,wp];omega
  have hr:∀rs:List AM,(∀r∈rs,∀c∈r.cells,MW N c.W)->(AM.hdL rs).length<=rs.length+21*(rs.map λr=>(r.cells.map λc=>1+M2 N c.W).sum).sum:=by
   intro rs
   induction rs with
   | nil=>intro _;rw[AM.hdL];simp
   | cons r rs ih=>
    intro h;have h1:=ih λc a=>h c (by simp[a]);have h2:=a r.cells (h r nO);rw[AM.hdL,qk,wX,qo,qg,wp,qo];omega
  have hi:∀xs:List AD,(∀x∈xs,Z2 N x)->(AD.hdL xs).length<=21*(xs.map λx=>1+M2 N x.W+(x.R.map λr=>(r.cells.map λc=>1+M2 N c.W).sum).sum).sum:=by
   intro xs
   induction xs with
   | nil=>intro _;rw[AD.hdL];simp
   | cons x xs ih=>
    intro h;have h1:=ih λc a=>h c (by simp[a]);obtain⟨⟨_,g1⟩,d,g3⟩:=h x nO;have h2:=S4 d;have h3:=hr x.R λr hr=>(g3 r hr).2;rw[AD.hdL,qk,wZ,qo,qk,qg,wp];omega
  exact hi l H.2
theorem Z5(out:List AD)(x:AD):(AD.hdL (Ah out x)).length<=(AD.hdL out).length+x.hd.length:=by
 unfold Ah;split;omega;split;rename_i y a;obtain⟨ys,rfl⟩:∃ys,out=ys++[y]:=by
  rcases List.eq_nil_or_concat out with rfl|⟨ys,z,rfl⟩
  simp at a;simp only[List.concat_eq_append]at a ⊢;rw[ws]at a;cases a;exact⟨ys,rfl⟩
 split;rw[List.dropLast_concat,Mo,Mo,Mp,Mp];have:(y.zb x.J).hd=y.hd:=Z6 y _;rw[this];omega;rw[Mo,Mp];simp;rw[Mo,Mp];simp
theorem RJ:∀(l out:List AD),(AD.hdL (l.foldl Ah out)).length<=(AD.hdL out).length+(AD.hdL l).length
 | [],out=>by rw[AD.hdL];simp
 | x::l,out=>by
  have h1:=RJ l (Ah out x);have h2:=Z5 out x;rw[qH,AD.hdL,qk];omega
section
variable{hp:AF->Prop}{T:Int->Prop}
theorem La:∀{N:Nat} {l:List AD},wf hp T N l->(AD.hdL (Ae l)).length<=(AD.hdL l).length
 | 0,_,h=>h.elim
 | N + 1, l, H => by
  have d:∀b:List AG,(∀c∈b,wf hp T N c.W)->(AG.hdL (b.map AG.N)).length<=(AG.hdL b).length:=by
   intro b
   induction b with
   | nil=>intro _;exact IO _
   | cons c b ih=>
    intro h;have h1:=ih λc a=>h c (by simp[a]);have h2:=La (h c nO);rw[qg,AG.hdL,AG.hdL,qk,qk,wY,wY,qo,qo,AG.zj];show(AD.hdL (Ae c.W)).length+1+_<=_;omega
  have i:∀rs:List AM,(∀r∈rs,∀c∈r.cells,wf hp T N c.W)->(AM.hdL (rs.map AM.N)).length<=(AM.hdL rs).length:=by
   intro rs
   induction rs with
   | nil=>intro _;exact IO _
   | cons r rs ih=>
    intro h;have h1:=ih λc a=>h c (by simp[a]);have h2:=d r.cells (h r nO);rw[qg,AM.hdL,AM.hdL,qk,qk,wX,wX,qo,qo,AM.zj];show(AG.hdL (r.cells.map AG.N)).length+1+_<=_;omega
  have g:∀xs:List AD,(∀x∈xs,fY hp T N x)->(AD.hdL (xs.map AD.N)).length<=(AD.hdL xs).length:=by
   intro xs
   induction xs with
   | nil=>intro _;exact IO _
   | cons x xs ih=>
    intro h;have h1:=ih λc a=>h c (by simp[a]);obtain⟨_,_,_,_,_,f,w⟩:=h x nO;have h2:=La f;have h3:=i x.R λr hr c a=>((w r hr).2.2 c a).2.2;have e:=F7 λr hr=>(w r hr).2.1;rw[qg,AD.hdL,AD.hdL,qk,qk,wZ,wZ x,qo,qo,qk,qk,AD.zj,e];show(AD.hdL (Ae x.W)).length+(AM.hdL (x.R.map AM.N)).length+1+_<=_;omega
  unfold Ae Eg;rw[wL];have h1:=RJ (l.map AD.N) [];have h2:=g l λx j=>DP.1 H x j;rw[AD.hdL]at h1;simp only[vL,qW]at h1;omega
end
mutual
theorem eP:∀(x:AD)(c:Int),(Ft c x).2<=c+x.hd.length
 | .mk k co i t h f r,c=>by
  have h1:=QK f (c+1);have h2:=YZ r (c+1);rw[Ft,AD.hd,qo,qk];split;dsimp only;push_cast;omega;split;dsimp only;push_cast;omega;dsimp only;push_cast;omega
theorem QK:∀(l:List AD)(c:Int),(Cz c l).2<=c+(AD.hdL l).length
 | [],c=>by rw[Cz];show c<=_;omega
 | x::l,c=>by
  have h1:=eP x c;have h2:=QK l (Ft c x).2;rw[Cz,AD.hdL,qk];dsimp only;push_cast;omega
theorem eQ:∀(x:AM)(c:Int),(Ii c x).2<=c+x.hd.length
 | .mk h cs,c=>by
  have h1:=YY cs c;rw[Ii,AM.hd,qo];dsimp only;push_cast;omega
theorem YZ:∀(l:List AM)(c:Int),(Dh c l).2<=c+(AM.hdL l).length
 | [],c=>by rw[Dh];show c<=_;omega
 | x::l,c=>by
  have h1:=eQ x c;have h2:=YZ l (Ii c x).2;rw[Dh,AM.hdL,qk];dsimp only;push_cast;omega
theorem eO:∀(x:AG)(c:Int),(Ih c x).2<=c+x.hd.length
 | .mk i h f,c=>by
  have h1:=QK f (c+1);rw[Ih,AG.hd,qo];dsimp only;push_cast;omega
theorem YY:∀(l:List AG)(c:Int),(Dg c l).2<=c+(AG.hdL l).length
 | [],c=>by rw[Dg];show c<=_;omega
 | x::l,c=>by
  have h1:=eO x c;have h2:=YY l (Ih c x).2;rw[Dg,AG.hdL,qk];dsimp only;push_cast;omega
end
mutual
theorem cg:∀(x:AD),x.an.length<=x.hd.length
 | .mk k co i t h f r=>by
  have h1:=Pg f;have h2:=WL r;rw[AD.an,AD.hd,qo,qk,qk,qk];split;rw[wg];omega;rw[vL];omega
theorem Pg:∀(l:List AD),(AD.anL l).length<=(AD.hdL l).length
 | []=>by rw[AD.anL];exact qi _
 | x::l=>by
  have h1:=cg x;have h2:=Pg l;rw[AD.anL,AD.hdL,qk,qk];omega
theorem ch:∀(x:AM),x.an.length<=x.hd.length
 | .mk h cs=>by
  have h1:=WK cs;rw[AM.an,AM.hd,qo];omega
theorem WL:∀(l:List AM),(AM.anL l).length<=(AM.hdL l).length
 | []=>by rw[AM.anL];exact qi _
 | x::l=>by
  have h1:=ch x;have h2:=WL l;rw[AM.anL,AM.hdL,qk,qk];omega
theorem cf:∀(x:AG),x.an.length<=x.hd.length
 | .mk i h f=>by
  have h1:=Pg f;rw[AG.an,AG.hd,qo];omega
theorem WK:∀(l:List AG),(AG.anL l).length<=(AG.hdL l).length
 | []=>by rw[AG.anL];exact qi _
 | x::l=>by
  have h1:=cf x;have h2:=WK l;rw[AG.anL,AG.hdL,qk,qk];omega
end
theorem PD:∀(l s:List (Int×Int)),(l.foldl Dt s).length<=s.length+l.length
 | [],_=>IO _
 | a::l,s=>by
  have h1:=PD l (Dt s a);have h2:(Dt s a).length<=s.length+1:=by unfold Dt RN;split;omega;split<;>simp
  rw[qH,qo];omega
theorem aR{b:List AF}(h:∀x∈b,x.Y.length<=16):(C0 b).length<=17*b.length:=by
 induction b with
 | nil=>simp[C0]
 | cons a b ih=>
  have h1:=ih λx c=>h x (by simp[c]);have h2:=h a nO;have e:C0 (a::b)=a.mvs++C0 b:=by simp[C0]
  rw[e,qk,qo,AF.mvs,qo,qj];omega
theorem YE(R:List Int):∀(l:List (Int×Int))(s:List (List Int)),ML (l.foldl (BA R) s)<=ML s+l.length
 | [],_=>IO _
 | p :: l, s => by
  have h1:=YE R l (BA R s p);have h2:ML (BA R s p)<=ML s+1:=by
   unfold BA;split;exact(KI _ _ _).2;omega
  rw[qH,qo];omega
theorem TD{hp d:AF->Prop}{K:Nat}:∀{N:Nat} {l:List AD},lim hp K N l->(∀h∈AD.hdL l,d h)->lim d K N l
 | 0,_,h,_=>h.elim
 | N+1,l,H,hh=>by
  obtain⟨a,b,c⟩:=CX.1 H;refine CX.2 ⟨a,b,λx j=>?_⟩;have e:∀h∈x.hd,d h:=λh hm=>hh h (by rw[wV,qJ];exact⟨x,j,hm⟩);rw[wZ]at e;obtain⟨x1,k,m,n⟩:=c x j;refine⟨e _ nO,TD k λh hm=>e h (by simp[hm]),m,λr hr=>?_⟩;have g:∀h∈r.hd,d h:=λh hm=>e h (by rw[AM.hdL_eq];simp only[qd,qf,qJ];exact .inr (.inr ⟨r,hr,hm⟩));rw[wX]at g;obtain⟨u,v,w⟩:=n r hr;refine⟨g _ nO,v,λc i=>?_⟩;have f:∀h∈c.hd,d h:=λh hm=>g h (by rw[AG.hdL_eq];simp only[qd,qJ];exact .inr ⟨c,i,hm⟩);rw[wY]at f;exact⟨f _ nO,TD (w c i).2 λh hm=>f h (by simp[hm])⟩
theorem YI:∀(l:List AD)(c:Int),(Cz c l).1.length=l.length/\Bu (Cz c l).1=Bu l
 | [],c=>by rw[Cz];exact⟨rfl,rfl⟩
 | x::l,c=>by
  obtain⟨h1,h2⟩:=YI l (Ft c x).2;rw[Cz];refine⟨by simp[h1],?_⟩;simp only[Bu,qg,wp]at h2 ⊢;rw[h2,(Ry x c).J]
theorem TE{hp:AF->Prop}{K:Nat}:∀{N:Nat} {l:List AD} (c:Int),lim hp K N l->lim hp K N (Cz c l).1
 | 0,_,_,h=>h.elim
 | N+1,l,c,H=>by
  obtain⟨a,b,q⟩:=CX.1 H;obtain⟨e1,e2⟩:=YI l c;refine CX.2 ⟨by omega,by omega,λy k=>?_⟩;obtain⟨x,t,d,rfl⟩:=Mw k;obtain⟨w,m,n,o⟩:=q x t;refine⟨by rw[(Ry x d).H];exact w,?_,?_,λr hr=>?_⟩;rcases LA x d with e|⟨g,e⟩
  rw[e];exact m;rw[e];exact TE g m;rcases LB x d with e|⟨g,e⟩
  rw[e];exact n;rw[e,Mx];exact n;rcases LB x d with e|⟨g,e⟩
  rw[e]at hr;exact o r hr;rw[e]at hr;obtain⟨r0,h0,p,rfl⟩:=My hr;obtain⟨u,v,z⟩:=o r0 h0;obtain⟨hd,s⟩:=r0;rw[Ii];refine⟨u,by show(Dg p s).1.length<=K;rw[Mu];exact v,λy k=>?_⟩;obtain⟨c0,j,c4,rfl⟩:=Mv k;have:=z c0 j;obtain⟨i,hh,f⟩:=c0;rw[Ih];exact⟨this.1,TE _ this.2⟩
theorem TA{hp d:AF->Prop}{K:Nat}{g:AF->AF}{p:Int->Int->Int->Int}{q:Int->Int}(hg:∀x,hp x->d (g x)):∀{N:Nat} {l:List AD},lim hp K N l->lim d K N (AD.gmL g p q l)
 | 0,_,h=>h.elim
 | N + 1, l, H => by
  obtain⟨a,b,c⟩:=CX.1 H;rw[AD.gmL_eq];have e:Bu (l.map (AD.gm g p q))=Bu l:=by
   simp only[Bu,wo];congr 1;exact qN λx _=>by simp only[Function.comp_apply,uc];rfl
  refine CX.2 ⟨by rw[qj];exact a,by rw[e];exact b,λy j=>?_⟩;obtain⟨x,i,rfl⟩:=qb.1 j;obtain⟨n,o,s,t⟩:=c x i;rw[uc];refine⟨hg _ n,TA hg o,by show(x.R.map _).length<=K;rw[qj];exact s,λr hr=>?_⟩;obtain⟨r0,h0,rfl⟩:=qb.1 hr;obtain⟨u,v,z⟩:=t r0 h0;rw[AM.gm_eq];refine⟨hg _ u,by show(r0.cells.map _).length<=K;rw[qj];exact v,λc f=>?_⟩;obtain⟨c0,h1,rfl⟩:=qb.1 f;obtain⟨k,m⟩:=z c0 h1;rw[AG.gm_eq];exact⟨hg _ k,TA hg m⟩
end Go.Proofs.YthinbkgpjmjfeaaGreatDoor.Sh
