/- A part of the proof (part 3 of 17). -/
import Derived.Test.YthinbkgpjmjfeaaGreatDoorN2
import Derived.Test.YthinbkgpjmjfeaaGreatDoorProg
import Derived.KernelRfl
import Derived.Tactics
import Derived.IntWalk
namespace Go.Proofs.YthinbkgpjmjfeaaGreatDoor.Sh
open Go.Proofs.Tryz
abbrev Or:=@Fz.same
abbrev uj:=@AU.trans3
abbrev wE:=@Fo.refl
abbrev ww:=@Ab.mono
def Ex(f:Nat->SV):Operand->SV
 | .tmp t=>f t
 | .const v=>ofValue v
 | .global _=>.junk
 | .func g=>.fn (.func g) [] []
theorem Pk(sa:SA):EV sa=Ex (look sa):=by funext x;cases x<;>rfl
def DI(ops:Array Oper)(f:Nat->SV)(o:Oper):Option Bool:=
 match o.guard with
 | none=>some true
 | some (j,want)=>
  match(ops[j]?).bind (·.dst)with
  | some d=>match f d with|.bool b=>some (b==want)|.tup []=>some false|_=>none
  | none=>none
theorem GZ(a:Array Oper)(sa:SA)(o:Oper):Cz a sa o=DI a (look sa) o:=rfl
structure SS(E:BZ)(N:Nat)(f:Nat->SV)(c:Cx)(a:Act):Prop where
 size:a.tmps.size=N
 defers:Qd E c a.defers
 val:∀t,V c (f t) (a.tmps.getD t undef)
structure CC where
 dst:Option Tmp
 val:SV
 foot:List Nat:=[]
 wr:List (Nat×Option A9):=[]
 new:List (Nat×Option A9):=[]
def CC.tw(r:CC):List (Nat×SV):=r.dst.toList.map λd=>(d,r.val)
def CC.hw(r:CC):List (Nat×Option A9):=r.wr++r.new
def LO(E:BZ)(P:Program)(N:Nat)(o:Oper)(f:Nat->SV)(h:Hp)(n:Nat)(r:CC):Prop:=
 ∀(f':Nat->SV)(h':Hp)(c:Cx)(a:Act)(Kr:Act->World->Prop)(Qr:Exit->Act->World->Prop),(∀x∈o.op.operands,Ex f' x=Ex f x)->(∀j∈r.foot,h' j=h j)->E.inv c->CB h' c->Fr n c->
  (∀j∈Aj r.new,c.ρ j=none)->SS E N f' c a->
  (∀c' u,V c' r.val u->CB (CU h' r.hw) c'->Fr n c'->DV c c'->(∀j,j∉Aj r.new->c'.ρ j=c.ρ j)->Kr (a.put o.dst u) c'.w)->o.wpIn E.fc 0 P a c.w Kr Qr
def M7(E:BZ)(P:Program)(g:FuncId)(aS:List SV)(foot:List Nat)(wr:List (Nat×Option A9))(v:SV)(h:Hp):Prop:=
 ∀(h':Hp)(n:Nat),(∀j∈foot,h' j=h j)->Ab E P g aS h' n λv' h2 n2=>v'=v/\h2=CU h' wr/\n2=n
def DU(ops:Array Oper)(j i:Nat):Bool:=match ops[i]? with|some o=>o.after.any λe=>Region.binds .any e&&e.on==j|none=>false
def ED(ops:Array Oper):Bool:=(List.range ops.size).all λi=>
 match ops[i]? with
 | some oi=>(oi.after.all λe=>!Region.binds .any e||decide (e.on<i))&&(List.range i).all λj=>DU ops j i||(match ops[j]? with|some oj=>oj.apart ops oi|none=>true)
 | none=>true
theorem QN{a:Array Oper}(h:ED a=true){i:Nat}{c:Oper}(hi:a[i]? = some c):∀e∈c.after,Region.binds .any e=true->e.on<i:=by
 intro e d hb;have b:=(qh.1 hi).1;have:=qG.1 h i (List.mem_range.2 b);simp only[hi,qg]at this;have:=Array.all_eq_true'.1 this.1 e d;simpa[hb]using this
theorem D5{a:Array Oper}(h:ED a=true){i j:Nat}{d e:Oper}(hi:a[i]? = some d)(f:a[j]? = some e)(b:j<i)(hd:DU a j i=false):e.apart a d=true:=by
 have c:=(qh.1 hi).1;have:=qG.1 h i (List.mem_range.2 c);simp only[hi,qg]at this;have:=qG.1 this.2 j (List.mem_range.2 b);simpa[hd,f]using this
structure To(E:BZ)(P:Program)(N:Nat)(ops:Array Oper)(f0:Nat->SV)(h0:Hp)(n0 n:Nat)(rs:List CC):Prop where
 len:rs.length=ops.size
 stat:ED ops=true
 dok:∀(i:Nat)(o:Oper),ops[i]? = some o->∀d,o.dst=some d->d<N
 ok:∀(i:Nat)(o:Oper)(r:CC),ops[i]? = some o->rs[i]? = some r->r.dst=o.dst/\(∀j∈Aj r.wr,j∈r.foot)/\
  ((DI ops (Dj (rs.map CC.tw) (λq=>decide (q<i)) 0 f0) o=some false/\r.val=.tup []/\r.foot=[]/\r.wr=[]/\r.new=[])\/
   (DI ops (Dj (rs.map CC.tw) (λq=>decide (q<i)) 0 f0) o=some true/\
    LO E P N o (Dj (rs.map CC.tw) (λq=>decide (q<i)) 0 f0) (Dj (rs.map CC.hw) (λq=>decide (q<i)) 0 h0) n r))
 ind:∀(i j:Nat)(ri rj:CC),j<i->rs[i]? = some ri->rs[j]? = some rj->DU ops j i=false->
  (∀k∈Aj rj.wr,k∉ri.foot)/\(∀k∈Aj ri.wr,k∉rj.foot)/\(∀k∈Aj rj.new,k∉ri.foot)
 newlo:∀(i:Nat)(r:CC),rs[i]? = some r->∀k∈Aj r.new,n0<=k/\k<n
 newne:∀(i j:Nat)(ri rj:CC),i≠j->rs[i]? = some ri->rs[j]? = some rj->∀k∈Aj ri.new,k∉Aj rj.new
 newfoot:∀(i j:Nat)(ri rj:CC),j<=i->rs[i]? = some ri->rs[j]? = some rj->∀k∈Aj ri.new,k∉rj.foot
section
variable{E:BZ}{P:Program}{N:Nat}{ops:Array Oper}{f0:Nat->SV}{h0:Hp}{n0 n:Nat}{rs:List CC}
theorem IB{f:Nat->SV}{c:Cx}{a:Act}{o:Oper}{b:Bool}(F:SS E N f c a)(hg:DI ops f o=some b):Region.wanted o (yielded ops a.tmps)=b:=by
 unfold DI at hg;unfold Region.wanted;split at hg;rename_i e;rw[e];simpa using hg
 . rename_i j want e;rw[e];split at hg<;>try cases hg
   rename_i d hd;split at hg<;>try cases hg
   rename_i i hb;have hv:=F.val d;rw[hb]at hv;have:=HU hv;simp only[yielded,hd,qN];have h:a.tmps[d]? = some (.bool i):=by
    rcases vq d a.tmps.size with g|g;rw[qO,vj g]at this;rw[vj g];simpa using this;rw[qO,vt g]at this;cases this
   rw[h];simp;rename_i hb;have hv:=F.val d;rw[hb,V]at hv;obtain⟨vs,hv,_⟩:=hv;simp only[yielded,hd,qN];rcases vq d a.tmps.size with g|g;rw[qO,vj g]at hv;rw[vj g];simp only[Option.getD_some]at hv;rw[hv];rfl;rw[vt g];rfl
theorem JV{r:CC}{t:Nat}:t∈Aj r.tw↔r.dst=some t:=by
 unfold CC.tw Aj;cases h:r.dst<;>simp[eq_comm]
theorem SS.put{f:Nat->SV}{c:Cx}{a:Act}(h:SS E N f c a){r:CC}(hd:∀d,r.dst=some d->d<N){u:Value}(hv:V c r.val u):SS E N (CU f r.tw) c (a.put r.dst u):=by
 unfold CC.tw;cases e:r.dst with
 | none=>exact h
 | some d=>
  refine⟨by simpa[Act.put]using h.size,h.defers,λt=>?_⟩;simp only[Option.toList_some,qi,vN,CU,qL,List.foldl_nil,Vv,Act.put];by_cases b:t=d;subst b;have:=hd t e;have g:=h.size;simp[g,this,hv];simp only[b,if_false];have:=h.val t;simpa[vM (Ne.symm b)]using this
structure At(E:BZ)(P:Program)(N:Nat)(ops:Array Oper)(f0:Nat->SV)(h0:Hp)(n0 n:Nat)(rs:List CC)(c0:Cx)(listed:Array Bool)(c:Cx)(a:Act):Prop where
 size:listed.size=ops.size
 C_:∀(i:Nat)(o:Oper),ops[i]? = some o->listed.getD i false=true->∀e∈o.after,Region.binds .any e=true->listed.getD e.on false=true
 inv:E.inv c
 rel:CB (Dj (rs.map CC.hw) (λq=>listed.getD q false) 0 h0) c
 fr:SS E N (Dj (rs.map CC.tw) (λq=>listed.getD q false) 0 f0) c a
 free:Fr n c
 ext:DV c0 c
 same:∀j,j<n0->c.ρ j=c0.ρ j
 new:∀(i:Nat)(r:CC),rs[i]? = some r->listed.getD i false=false->∀k∈Aj r.new,c.ρ k=none
theorem C5{a:Array Bool}{i:Nat}(h:i<a.size)(b:Bool):a.getD i b=a[i]:=by simp[Array.getD,h]
theorem VG(G:To E P N ops f0 h0 n0 n rs){c0 c:Cx}{b:Array Bool}{a:Act}(A:At E P N ops f0 h0 n0 n rs c0 b c a){i:Nat}(hi:i∈Region.ready .any ops b)
 {Qr:Exit->Act->World->Prop} {Kr:Act->World->Prop} (hK:∀J a',At E P N ops f0 h0 n0 n rs c0 (b.setIfInBounds i true) J a'->Kr a' J.w):wpOpIn E.fc 0 P ops Qr i Kr a c.w:=by
 obtain⟨hun,o,Q,S⟩:=mem_ready.1 hi;have O:=(qh.1 Q).1;have z:b.getD i false=false:=by rw[C5 (by rw[A.size];exact O)]at hun ⊢;exact hun
 obtain⟨r,hr⟩:∃r,rs[i]? = some r:=⟨rs[i]'(by rw[G.len];exact O),by simp⟩
 obtain⟨K,hwf,hok⟩:=G.ok i o r Q hr;have H:∀{α:Type} (g:CC->List (Nat×α)) (q:Nat) (w:List (Nat×α)),(rs.map g)[q]? = some w->∃v,rs[q]? = some v/\w=g v:=λg q w f=>by
  simp only[vo,qT]at f;obtain⟨v,h1,rfl⟩:=f;exact⟨v,h1,rfl⟩
 have X:∀(q:Nat)(v:CC),rs[q]? = some v->∃X,ops[q]? = some X:=λq v f=>⟨ops[q]'(by rw[<-G.len];exact(qv.1 f).1),by simp⟩
 have e1:∀q,b.getD q false=false->DU ops q i=false:=λq f=>by
  unfold DU;rw[Q];simp only;rw[Array.any_eq_false'];intro e Y;rw[qg,beq_iff_eq];rintro⟨hb,rfl⟩;rw[S e Y hb]at f;cases f
 have e2:∀q,b.getD q false=true->DU ops i q=false:=λq f=>by
  unfold DU;cases y:ops[q]? with
  | none=>rfl
  | some X=>
   simp only;rw[Array.any_eq_false'];intro e Y;rw[qg,beq_iff_eq];rintro⟨hb,rfl⟩;have:=A.C_ q X y f e Y hb;rw[z]at this;cases this
 have D:∀t,t∈o.looksAt ops->Dj (rs.map CC.tw) (λq=>b.getD q false) 0 f0 t=Dj (rs.map CC.tw) (λq=>decide (q<i)) 0 f0 t:=λt ht=>by
  refine Fj λq w _ hw s=>?_;rw[wy]at hw;obtain⟨v,l,rfl⟩:=H _ q w hw;obtain⟨L,y⟩:=X q v l;have hdq:=(G.ok q L v y l).1;rw[JV,hdq];intro Z;rcases Nat.lt_trichotomy q i with f|f|f;have T:b.getD q false=false:=by cases R:b.getD q false with|false=>rfl|true=>rw[R]at s;simp[f]at s
  exact(Oper.apart_spec (D5 G.stat Q y f (e1 q T))).1 t Z ht;subst f;rw[z]at s;simp at s;have C:b.getD q false=true:=by cases R:b.getD q false with|true=>rfl|false=>rw[R]at s;simp[Nat.not_lt.2 (Nat.le_of_lt f)]at s
  exact(Oper.apart_spec (D5 G.stat y Q f (e2 q C))).2.2 t Z ht
 have M:∀k∈r.foot,Dj (rs.map CC.hw) (λq=>b.getD q false) 0 h0 k=Dj (rs.map CC.hw) (λq=>decide (q<i)) 0 h0 k:=λk hk=>by
  refine Fj λq w _ hw s=>?_;rw[wy]at hw;obtain⟨v,l,rfl⟩:=H _ q w hw;simp only[CC.hw,Aj,qc,qd];rcases Nat.lt_trichotomy q i with f|f|f;have T:b.getD q false=false:=by cases R:b.getD q false with|false=>rfl|true=>rw[R]at s;simp[f]at s
  have:=G.ind i q r v f hr l (e1 q T);rintro(h1|h1);exact this.1 k h1 hk;exact this.2.2 k h1 hk;subst f;rw[z]at s;simp at s;have C:b.getD q false=true:=by cases R:b.getD q false with|true=>rfl|false=>rw[R]at s;simp[Nat.not_lt.2 (Nat.le_of_lt f)]at s
  have:=G.ind q i v r f l hr (e2 q C);rintro(h1|h1);exact this.2.1 k h1 hk;exact G.newfoot q i v r (Nat.le_of_lt f) l hr k h1 hk
 have hD:(λq=>(b.setIfInBounds i true).getD q false)=λq=>b.getD q false||q==i:=by
  funext q;by_cases f:q=i;subst f;simp[A.size,O];have:(q==i)=false:=by simp;exact f
  rw[this,Bool.or_false];simp[vM (Ne.symm f)]
 have insT:∀t,Dj (rs.map CC.tw) (λq=>b.getD q false||q==i) 0 f0 t=CU (Dj (rs.map CC.tw) (λq=>b.getD q false) 0 f0) r.tw t:=by
  refine IG z (qj _) (by simp[hr]) λq w f _ hw C k hk m=>?_;rw[wy]at hw;obtain⟨v,l,rfl⟩:=H _ q w hw;obtain⟨L,y⟩:=X q v l;rw[JV,K]at hk;rw[JV,(G.ok q L v y l).1]at m;exact(Oper.apart_spec (D5 G.stat y Q f (e2 q C))).2.1 k hk m
 have insH:∀k,Dj (rs.map CC.hw) (λq=>b.getD q false||q==i) 0 h0 k=CU (Dj (rs.map CC.hw) (λq=>b.getD q false) 0 h0) r.hw k:=by
  refine IG z (qj _) (by simp[hr]) λq w f _ hw C k hk m=>?_;rw[wy]at hw;obtain⟨v,l,rfl⟩:=H _ q w hw;obtain⟨L,y⟩:=X q v l;have hI:=G.ind q i v r f l hr (e2 q C);have hwq:=(G.ok q L v y l).2.1;simp only[CC.hw,Aj,qc,qd]at hk m;rcases hk with hk|hk<;>rcases m with m|m;exact hI.1 k hk (hwq k m);exact G.newfoot q i v r (Nat.le_of_lt f) l hr k m (hwf k hk);exact hI.2.2 k hk (hwq k m);exact G.newne i q r v mq hr l k hk m
 have F:∀J u,V J r.val u->CB (CU (Dj (rs.map CC.hw) (λq=>b.getD q false) 0 h0) r.hw) J->Fr n J->DV c J->(∀j,j∉Aj r.new->J.ρ j=c.ρ j)->Kr (a.put o.dst u) J.w:=by
  intro J u hv R' F' X' hρ;refine hK J _ ⟨by simp[A.size],λj oj U C e Y hb=>?_,E.ext X' A.inv,?_,?_,F',A.ext.trans X',λj hj=>?_,λj rj hrj C k hk=>?_⟩;by_cases I:j=i;subst I;rw[Q]at U;cases U;exact getD_set_true (S e Y hb);rw[getD_set_ne false (Ne.symm I)]at C;exact getD_set_true (A.C_ j oj U C e Y hb);rw[hD];have:Dj (rs.map CC.hw) (λq=>b.getD q false||q==i) 0 h0=CU (Dj (rs.map CC.hw) (λq=>b.getD q false) 0 h0) r.hw:=funext insH;rw[this];exact R';rw[hD];have:Dj (rs.map CC.tw) (λq=>b.getD q false||q==i) 0 f0=CU (Dj (rs.map CC.tw) (λq=>b.getD q false) 0 f0) r.tw:=funext insT;rw[this,<-K];have FE:SS E N (Dj (rs.map CC.tw) (λq=>b.getD q false) 0 f0) J a:=⟨A.fr.size,A.fr.defers.mono X',λt=>wK X' (A.fr.val t)⟩
  exact FE.put (λd hd=>G.dok i o Q d (by rw[<-K];exact hd)) hv;rw[hρ j λhj2=>by have:=(G.newlo i r hr j hj2).1;omega];exact A.same j hj;by_cases I:j=i;subst I;rw[show(b.setIfInBounds j true).getD j false=true by simp[A.size,O]]at C;cases C;rw[getD_set_ne false (Ne.symm I)]at C;rw[hρ k λm=>G.newne j i rj r I hrj hr k hk m];exact A.new j rj hrj C k hk
 have B:DI ops (Dj (rs.map CC.tw) (λq=>b.getD q false) 0 f0) o=DI ops (Dj (rs.map CC.tw) (λq=>decide (q<i)) 0 f0) o:=by
  unfold DI;cases hg:o.guard with
  | none=>rfl
  | some p =>
   obtain⟨j,want⟩:=p;simp only;cases hd:(ops[j]?).bind (·.dst)with
   | none=>rfl
   | some d=>
    simp only;rw[D d (by simp[Oper.looksAt,hg,hd])]
 unfold wpOpIn;rw[Q];simp only;rcases hok with⟨hg,hv,_,hw0,hn0⟩|⟨hg,W⟩
 rw[IB A.fr (B.trans hg)];simp only[qt,if_false];refine⟨λ_ _=>trivial,?_⟩;refine F c undef (by rw[hv];exact Hz) ?_ A.free (wT c) λ_ _=>rfl;have:r.hw=[]:=by simp[CC.hw,hw0,hn0]
 rw[this];exact A.rel;rw[IB A.fr (B.trans hg),my rfl];refine(W _ _ c a _ _ (λx R=>?_) M A.inv A.rel A.free (A.new i r hr z) A.fr F);cases x with
 | tmp t=>exact D t (by simp only[Oper.looksAt,qd,List.mem_filterMap];exact .inl ⟨.tmp t,by simpa using R,rfl⟩)
 | _=>rfl
end
section
variable{E:BZ}{P:Program}{N:Nat}{ops:Array Oper}{f0:Nat->SV}{h0:Hp}{n0 n:Nat}{rs:List CC}
def MO(listed:Array Bool):Nat:=listed.toList.count false
theorem Ds{a:Array Bool}{i:Nat}(hi:i<a.size)(h:a.getD i false=false):MO (a.setIfInBounds i true)+1=MO a:=by
 have hv:a.toList[i]'(by simpa using hi)=false:=by rw[C5 hi]at h;simpa using h
 have hpos:0<a.toList.count false:=List.count_pos_iff.2 (by rw[<-hv];exact qn _);unfold MO;rw[Array.toList_setIfInBounds,List.count_set (h:=by simpa using hi),hv];have b:(if(false==false)=true then 1 else 0)=1:=rfl;have c:(if(true==false)=true then 1 else 0)=0:=rfl;rw[b,c];omega
theorem NB(d:ED ops=true){a:Array Bool}(hs:a.size=ops.size)(hr:Region.ready .any ops a=[]):∀i,i<ops.size->a.getD i false=true:=by
 intro i
 induction i using Nat.strongRecOn with
 | _ i ih =>
  intro hi;cases h:a.getD i false with
  | true=>rfl
  | false =>
   exfalso;have b:ops[i]? = some ops[i]:=by simp[hi]
   have:i∈Region.ready .any ops a:=mem_ready.2 ⟨by rw[C5 mq]at h ⊢;exact h,ops[i],b,λe f hb=>by
    have c:=QN d b e f hb;exact ih e.on c mq⟩
   rw[hr]at this;cases this
theorem K7{a:Array Bool}(hs:a.size=ops.size)(h:MO a=0):Region.ready .any ops a=[]:=by
 cases hr:Region.ready .any ops a with
 | nil=>rfl
 | cons i l=>
  exfalso;obtain⟨b,o,d,_⟩:=mem_ready.1 (show i∈Region.ready .any ops a by rw[hr];simp);have hlt:=(qh.1 d).1;have c:a.getD i false=false:=by rw[C5 mq]at b ⊢;exact b
  have:=Ds mq c;omega
theorem Ww(G:To E P N ops f0 h0 n0 n rs){c0:Cx}{Qr:Exit->Act->World->Prop}
 (v:∀g a',CB (Dj (rs.map CC.hw) (λq=>decide (q<ops.size)) 0 h0) g->SS E N (Dj (rs.map CC.tw) (λq=>decide (q<ops.size)) 0 f0) g a'->Fr n g->DV c0 g->(∀j,j<n0->g.ρ j=c0.ρ j)->Qr .normal a' g.w):
 ∀(d:Nat)(b:Array Bool)(c:Cx)(a:Act),At E P N ops f0 h0 n0 n rs c0 b c a->MO b=d->wpAnyIn E.fc 0 P .any ops Qr d b a c.w:=by
 have done:∀(b:Array Bool)(c:Cx)(a:Act),At E P N ops f0 h0 n0 n rs c0 b c a->Region.ready .any ops b=[]->Qr .normal a c.w:=by
  intro b c a A hr;have h:=NB G.stat A.size hr;have e:∀{α:Type} (l:List (List (Nat×α))) (f:Nat->α),l.length=ops.size->Dj l (λq=>b.getD q false) 0 f=Dj l (λq=>decide (q<ops.size)) 0 f:=λl f hl=>by
   funext k;refine Fj λq w _ hw p=>?_;have y:=(qv.1 hw).1;rw[wy]at y;rw[h q mq]at p;simp[show q<ops.size by omega]at p
  have R:=A.rel;have F:=A.fr;rw[e _ _ (by simp[G.len])]at R F;exact v c a R F A.free A.ext A.same
 intro d
 induction d with
 | zero=>
  intro b c a A s;have hr:=K7 A.size s;exact⟨hr,done b c a A hr⟩
 | succ d ih=>
  intro b c a A s;refine⟨done b c a A,λi hi=>?_⟩;obtain⟨r,o,x,_⟩:=mem_ready.1 hi;have m:=(qh.1 x).1;have u:b.getD i false=false:=by rw[C5 (by rw[A.size];exact m)]at r ⊢;exact r
  have hu:=Ds (by rw[A.size];exact m) u;exact VG G A hi λg a' t=>ih _ g a' t mq
theorem Sl(G:To E P N ops f0 h0 n0 n rs)(hm:P.follows .mixedOrders=true){id:Nat}{c:Cx}{a:Act}{Qr:Exit->Act->World->Prop}(v:n0<=n)(I:E.inv c)(R:CB h0 c)(F:Fr n0 c)(A:SS E N f0 c a)
 (u:∀d a',CB (Dj (rs.map CC.hw) (λq=>decide (q<ops.size)) 0 h0) d->SS E N (Dj (rs.map CC.tw) (λq=>decide (q<ops.size)) 0 f0) d a'->Fr n d->Fo n0 c n d->Qr .normal a' d.w):
 (Code.region id ops true).wpIn E.fc 0 P Qr a c.w:=by
 refine wpIn_region_any hm ?_;have hg:∀i,(Array.replicate ops.size false).getD i false=false:=λi=>by
  rw[qO];by_cases hi:i<ops.size<;>simp[hi]
 have b:∀{α:Type} (l:List (List (Nat×α))) (f:Nat->α),Dj l (λq=>(Array.replicate ops.size false).getD q false) 0 f=f:=λl f=>by
  funext k;exact Mu λq w _ g=>by rw[hg]at g;cases g
 have:=Ww G (c0:=c) (Qr:=Qr) (λd a' p m e E' s=>u d a' p m e ⟨E',v,s⟩) ops.size (Array.replicate ops.size false) c.drew a
  ⟨by simp,λi o _ h=>(by rw[hg]at h;cases h),E.ext c.zc I,(by rw[b];exact R.drew),(by rw[b];exact⟨A.size,A.defers.mono c.zc,λt=>wK c.zc (A.val t)⟩),λj hj=>F j mq,c.zc,λ_ _=>rfl,
   λi r hr _ k hk=>F k (G.newlo i r hr k hk).1⟩ (by simp[MO])
 exact this
def DE(a b:List Nat):Bool:=a.all λx=>!b.contains x
theorem J2{a b:List Nat}(h:DE a b=true):∀k∈a,k∉b:=λk hk hb=>by
 have:=qG.1 h k hk;simp at this;exact this hb
def FW(ops:Array Oper)(i:Nat)(r:CC):Nat->List CC->Bool
 | _,[]=>true
 | j,q::qs=>((DE (Aj q.wr) r.foot&&DE (Aj r.wr) q.foot&&DE (Aj q.new) r.foot)||DU ops j i)&&FW ops i r (j+1) qs
def Eh(E:BZ)(P:Program)(ops:Array Oper)(Q:SA->Hp->Nat->Prop):List Oper->List CC->SA->Hp->Nat->Prop
 | [],_,sa,h,n=>Q sa h n
 | o :: rest, tr, sa, h, n =>
  match Cz ops sa o with
  | none=>False
  | some b =>
   if b=true then
   match o.op with
   | .call { callee := .value f, args, .. } =>
    match callee (EV sa f) (args.toList.map (EV sa))with
    | some (g,aS)=>∃foot wr v,M7 E P g aS foot wr v h/\(∀k∈Aj wr,k∈foot)/\(∀k∈foot,k<n)/\FW ops tr.length { dst:=o.dst,val:=v,foot:=foot,wr:=wr } 0 tr=true/\
     Eh E P ops Q rest (tr++[{ dst:=o.dst,val:=v,foot:=foot,wr:=wr }]) (C1 sa o.dst v) (CU h wr) n
    | none=>False
   | op =>
    match C0 P (EV sa) h n op with
    | some out=>
     (∀k∈Aj out.upd.toList++Cs (EV sa) op,k<n)/\FW ops tr.length { dst:=o.dst,val:=out.val,foot:=Aj out.upd.toList++Cs (EV sa) op,wr:=out.upd.toList,new:=(out.new.map λx=>(n,some x)).toList } 0 tr=true/\
     Eh E P ops Q rest (tr++[{ dst:=o.dst,val:=out.val,foot:=Aj out.upd.toList++Cs (EV sa) op,wr:=out.upd.toList,new:=(out.new.map λx=>(n,some x)).toList }]) (C1 sa o.dst out.val) (out.app h n) (if out.new.isSome then n+1 else n)
    | none=>∃v,LN P (EV sa) o v/\FW ops tr.length { dst:=o.dst,val:=v } 0 tr=true/\Eh E P ops Q rest (tr++[{ dst:=o.dst,val:=v }]) (C1 sa o.dst v) h n
   else Eh E P ops Q rest (tr++[{ dst:=o.dst,val:=.tup [] }]) (C1 sa o.dst (.tup [])) h n
theorem KM{α:Type}{D:Nat->Bool}{b:List (List (Nat×α))}:∀{a:List (List (Nat×α))} {i:Nat} {f:Nat->α},Dj (a++b) D i f=Dj b D (i+a.length) (Dj a D i f)
 | [],i,f=>rfl
 | w::a,i,f=>by
  simp only[qB,Dj,qo];rw[KM,show i+1+a.length=i+(a.length+1)by omega]
theorem Mv{α:Type}{l:List (List (Nat×α))}{w:List (Nat×α)}{i:Nat}{f:Nat->α}(hi:i<=l.length):Dj (l++[w]) (λq=>decide (q<i)) 0 f=Dj l (λq=>decide (q<i)) 0 f:=by
 rw[KM];simp only[Dj,qZ];rw[mw (by simp;omega)]
theorem Rv{α:Type}{l:List (List (Nat×α))}{w:List (Nat×α)}{f:Nat->α}:Dj (l++[w]) (λq=>decide (q<l.length+1)) 0 f=CU (Dj l (λq=>decide (q<l.length)) 0 f) w:=by
 rw[KM];simp only[Dj,qZ];rw[my mr];congr 1;funext k;refine Fj λq v _ hv a=>?_;have b:=(qv.1 hv).1;rw[wy]at b;simp[b,show q<l.length+1 by omega]at a
structure bx(E:BZ)(P:Program)(N:Nat)(ops:Array Oper)(f0:Nat->SV)(h0:Hp)(n0 n:Nat)(tr:List CC)(f:Nat->SV)(h:Hp):Prop where
 le:n0<=n
 fr:f=Dj (tr.map CC.tw) (λq=>decide (q<tr.length)) 0 f0
 hp:h=Dj (tr.map CC.hw) (λq=>decide (q<tr.length)) 0 h0
 ok:∀(i:Nat)(o:Oper)(r:CC),ops[i]? = some o->tr[i]? = some r->r.dst=o.dst/\(∀j∈Aj r.wr,j∈r.foot)/\
  ((DI ops (Dj (tr.map CC.tw) (λq=>decide (q<i)) 0 f0) o=some false/\r.val=.tup []/\r.foot=[]/\r.wr=[]/\r.new=[])\/
   (DI ops (Dj (tr.map CC.tw) (λq=>decide (q<i)) 0 f0) o=some true/\
    ∀m,n<=m->LO E P N o (Dj (tr.map CC.tw) (λq=>decide (q<i)) 0 f0) (Dj (tr.map CC.hw) (λq=>decide (q<i)) 0 h0) m r))
 ind:∀(i j:Nat)(ri rj:CC),j<i->tr[i]? = some ri->tr[j]? = some rj->DU ops j i=false->
  (∀k∈Aj rj.wr,k∉ri.foot)/\(∀k∈Aj ri.wr,k∉rj.foot)/\(∀k∈Aj rj.new,k∉ri.foot)
 newlo:∀(i:Nat)(r:CC),tr[i]? = some r->∀k∈Aj r.new,n0<=k/\k<n
 newne:∀(i j:Nat)(ri rj:CC),i≠j->tr[i]? = some ri->tr[j]? = some rj->∀k∈Aj ri.new,k∉Aj rj.new
 footlo:∀(i:Nat)(r:CC),tr[i]? = some r->∀k∈r.foot,k<n
 newfoot:∀(i j:Nat)(ri rj:CC),j<=i->tr[i]? = some ri->tr[j]? = some rj->∀k∈Aj ri.new,k∉rj.foot
theorem Nk{i:Nat}{r:CC}:∀{tr:List CC} {a:Nat},FW ops i r a tr=true->∀(j:Nat)(q:CC),tr[j]? = some q->DU ops (a+j) i=false->
 (∀k∈Aj q.wr,k∉r.foot)/\(∀k∈Aj r.wr,k∉q.foot)/\(∀k∈Aj q.new,k∉r.foot)
 | [],_,_,j,q,hq,_=>by simp at hq
 | x :: tr, a, h, j, q, hq, hd => by
  simp only[FW,qg]at h;cases j with
  | zero=>
   simp only[we,qm]at hq;subst hq;rw[wz]at hd;have h1:=h.1;rw[hd,Bool.or_false,qg,qg]at h1;exact⟨J2 h1.1.1,J2 h1.1.2,J2 h1.2⟩
  | succ j=>exact Nk h.2 j q (by simpa using hq) (by rw[show a+1+j=a+(j+1)by omega];exact hd)
theorem bx.snoc{tr:List CC}{f:Nat->SV}{h:Hp}{n n':Nat}(A:bx E P N ops f0 h0 n0 n tr f h){o:Oper}(L:ops[tr.length]? = some o){r:CC}(K:n<=n')(C:r.dst=o.dst)(I:∀k∈Aj r.wr,k∈r.foot)
 (t:∀k∈r.foot,k<n) (c:∀k∈Aj r.new,n<=k/\k<n') (F:FW ops tr.length r 0 tr=true)
 (H:(DI ops f o=some false/\r.val=.tup []/\r.foot=[]/\r.wr=[]/\r.new=[])\/(DI ops f o=some true/\∀m,n'<=m->LO E P N o f h m r)):
 bx E P N ops f0 h0 n0 n' (tr++[r]) (CU f r.tw) (CU h r.hw):=by
 have hm:∀{α:Type} (g:CC->List (Nat×α)),(tr++[r]).map g=tr.map g++[g r]:=λg=>by simp
 have B:∀{α:Type} (g:CC->List (Nat×α)),(tr.map g).length=tr.length:=λg=>by simp
 have get:∀{i:Nat} {q:CC},(tr++[r])[i]? = some q->(i<tr.length/\tr[i]? = some q)\/(i=tr.length/\q=r):=fun {i q} h=>by
  rw[List.getElem?_append]at h;split at h;exact .inl ⟨by assumption,h⟩;rename_i hi;have:=(qv.1 h).1;simp at this;have e:i=tr.length:=by omega
  subst e;simp at h;exact .inr ⟨rfl,h.symm⟩
 refine⟨qC A.le K,?_,?_,λi M s z a=>?_,λi j s u v a b hd=>?_,λi s a k hk=>?_,λi j s u D a b k hk=>?_,λi s a k hk=>?_,λi j s u v a b k hk=>?_⟩;rw[hm,ql,wl];have:=Rv (l:=tr.map CC.tw) (w:=r.tw) (f:=f0);rw[B]at this;rw[this,<-A.fr];rw[hm,ql,wl];have:=Rv (l:=tr.map CC.hw) (w:=r.hw) (f:=h0);rw[B]at this;rw[this,<-A.hp];rcases get a with⟨hi,a⟩|⟨rfl,rfl⟩
 obtain⟨g1,J,g3⟩:=A.ok i M s z a;rw[hm,hm,Mv (by rw[B];omega),Mv (by rw[B];omega)];refine⟨g1,J,g3.imp id λ⟨x,y⟩=>⟨x,λm hm=>y m mq⟩⟩;rw[L]at z;cases z;rw[hm,hm,Mv (by rw[B];omega),Mv (by rw[B];omega),<-A.fr,<-A.hp];exact⟨C,I,H⟩;rcases get a with⟨hi,a⟩|⟨rfl,rfl⟩
 rcases get b with⟨G,b⟩|⟨rfl,rfl⟩
 exact A.ind i j s u v a b hd;omega;rcases get b with⟨G,b⟩|⟨rfl,rfl⟩
 exact Nk F j u b (by rw[qZ];exact hd);omega;rcases get a with⟨hi,a⟩|⟨rfl,rfl⟩
 have:=A.newlo i s a k hk;omega;have:=c k hk;have:=A.le;omega;rcases get a with⟨hi,p⟩|⟨rfl,rfl⟩
 rcases get b with⟨G,d⟩|⟨rfl,rfl⟩
 exact A.newne i j s u D p d k hk;intro h2;have:=A.newlo i s p k hk;have:=c k h2;omega;rcases get b with⟨G,d⟩|⟨rfl,rfl⟩
 intro h2;have:=A.newlo j u d k h2;have:=c k hk;omega;exact absurd rfl D;rcases get a with⟨hi,p⟩|⟨rfl,rfl⟩
 have:=A.footlo i s p k hk;omega;have:=t k hk;omega;rcases get a with⟨hi,p⟩|⟨rfl,rfl⟩
 rcases get b with⟨G,d⟩|⟨rfl,rfl⟩
 exact A.newfoot i j s u v p d k hk;omega;rcases get b with⟨G,d⟩|⟨rfl,rfl⟩
 intro h2;have:=A.footlo j u d k h2;have:=c k hk;omega;intro h2;have:=t k h2;have:=c k hk;omega
end
section
variable{E:BZ}{P:Program}{N:Nat}{ops:Array Oper}{f0:Nat->SV}{h0:Hp}{n0 n:Nat}
theorem Kw(sa:SA)(dst:Option Tmp)(v:SV)(r:CC)(hd:r.dst=dst)(hv:r.val=v):look (C1 sa dst v)=CU (look sa) r.tw:=by
 funext t;unfold CC.tw;rw[hd,hv];cases dst with
 | none=>rfl
 | some d=>
  show(if d=t then v else look sa t)=if t=d then v else look sa t
  by_cases e:d=t;rw[my e,my e.symm];rw[mw e,mw (Ne.symm e)]
theorem WI(h:Hp)(k:Nat)(out:Cg)(r:CC)(hw:r.wr=out.upd.toList)(a:r.new=(out.new.map λx=>(k,some x)).toList):out.app h k=CU h r.hw:=by
 unfold CC.hw Cg.app;rw[hw,a];cases out.upd with
 | none=>cases out.new<;>rfl
 | some p=>obtain⟨j,x⟩:=p;cases out.new<;>rfl
theorem SS.ev{f:Nat->SV}{c:Cx}{a:Act}(F:SS E N f c a)(x:Operand):V c (Ex f x) (a.eval x):=by
 cases x with
 | tmp t=>exact F.val t
 | const v=>exact DX c v
 | global g=>simp[Ex,V]
 | func g=>simp[Ex,Act.eval,V,VL]
theorem Tc{ev:Operand->SV}{h:Hp}{k q:Nat}{op:Op}{out:Cg}(a:C0 P ev h k op=some out)(d:out.new=none):C0 P ev h q op=some out:=by
 cases op with
 | alloc e=>simp only[C0]at a;split at a<;>cases a;cases d
 | box e x=>simp only[C0]at a;split at a<;>cases a;cases d
 | buildSlice t l ps=>
  simp only[C0]at a;split at a<;>try cases a
  split at a<;>try cases a
  simp only[Option.bind_eq_some_iff]at a;obtain⟨cs,_,e⟩:=a;cases e;cases d
 | makeMap t r=>simp only[C0]at a;split at a<;>cases a;cases d
 | makeSlice t l c=>
  simp only[C0]at a;split at a<;>try cases a
  split at a<;>try cases a
  cases d
 | call cl =>
  obtain⟨callee,args,ts⟩:=cl;cases callee with
  | value f=>exact a
  | invoke r m=>exact a
  | builtin b=>
   simp only[C0]at a ⊢;unfold Ak at a ⊢;split at a<;>try exact a
   split at a
   rotate_left
   . rename_i g;split at a
     . rename_i j;rw[mw g,my j];unfold Hg at a ⊢;split at a<;>try cases a
       rename_i e b o _;split at a<;>try cases a
       rename_i i;rw[mw i];unfold WH at a ⊢;split at a;rename_i h0;rw[my h0];exact a
       . exfalso;split at a;split at a<;>cases a;cases d;split at a<;>cases a;cases d
         . split at a<;>try cases a
           split at a<;>cases a;cases d
         cases a
     exfalso;unfold Fc at a;split at a<;>try cases a
     split at a<;>cases a;cases d
   rename_i g;rw[my g];unfold Fq at a ⊢;split at a<;>try cases a
   rename_i e o;simp only at a;split at a<;>try cases a
   rename_i m ys hm n;simp only[];split at a<;>try cases a
   rename_i i;rw[mw i];split at a;rename_i h0;rw[my h0];exact a
   . exfalso;split at a;split at a<;>cases a;cases d;split at a<;>cases a;cases d
     . split at a<;>try cases a
       split at a<;>cases a;cases d
     cases a
 | _=>exact a
theorem QO{o:Oper}{f:Nat->SV}{h:Hp}{out:Cg}(w:C0 P (Ex f) h n o.op=some out){m:Nat}(hm:(if out.new.isSome then n+1 else n)<=m):
 LO E P N o f h m { dst:=o.dst,val:=out.val,foot:=Aj out.upd.toList++Cs (Ex f) o.op,wr:=out.upd.toList,new:=(out.new.map λx=>(n,some x)).toList }:=by
 intro B h' c a Kr Qr t hh I R F k A C;refine⟨λ_ _=>trivial,?_⟩;have d:out.app h' n=CU h' (CC.hw { dst:=o.dst,val:=out.val,foot:=Aj out.upd.toList++Cs (Ex f) o.op,wr:=out.upd.toList,new:=(out.new.map λx=>(n,some x)).toList }):=WI h' n out _ rfl rfl;have l:C0 P (Ex B) h' n o.op=some out:=by
  rw[<-w];refine(PF (λx p=>(t x p).symm) λj g=>?_).symm;exact(hh j (qd.2 (.inr g))).symm
 by_cases v:out.new.isSome=true;obtain⟨x,p⟩:=vW.1 v;have z:c.ρ n=none:=k n (by show n∈Aj ((out.new.map λx=>(n,some x)).toList);rw[p];simp[Aj]);obtain⟨u,s,hr,hv,r,X,hρ⟩:=Lv (ev:=a.eval) l R z λx _=>A.ev x;have:=C s u hv (d▸r) (λj g=>by
  rw[hρ j (.inr (by rw[my v]at hm;omega))];exact F j g) X (λj g=>hρ j (.inr λe=>g (by subst e;show j∈Aj ((out.new.map λx=>(j,some x)).toList);rw[p];simp[Aj])))
 rw[Oper.semAt_eq _ _ _ (I2 w)];rcases hr with hr|⟨rfl,hr⟩<;>(rw[hr];exact this)
 have b:out.new=none:=by cases h:out.new<;>simp[h]at v ⊢
 have free:∃q,c.ρ q=none:=⟨m,F m (IO _)⟩
 obtain⟨q,D⟩:=free;have y:C0 P (Ex B) h' q o.op=some out:=Tc l b;obtain⟨u,s,hr,hv,r,X,hρ⟩:=Lv (ev:=a.eval) y R D λx _=>A.ev x;have i:out.app h' q=out.app h' n:=by unfold Cg.app;rw[b]
 have:=C s u hv (d▸i▸r) (λj g=>by
  rw[hρ j (.inl (by simp[b]))];exact F j g) X (λj g=>hρ j (.inl (by simp[b])))
 rw[Oper.semAt_eq _ _ _ (I2 w)];rcases hr with hr|⟨rfl,hr⟩<;>(rw[hr];exact this)
theorem SB{o:Oper}{f:Nat->SV}{h:Hp}{x:Operand}{args:Array Operand}{Z:Array TypeId}{g:FuncId}{aS:List SV}{foot:List Nat}{wr:List (Nat×Option A9)}{v:SV}
 (s:o.op=.call { callee:=.value x,args:=args,argTypes:=Z }) (n:callee (Ex f x) (args.toList.map (Ex f))=some (g,aS)) (W:M7 E P g aS foot wr v h) {m:Nat}:
 LO E P N o f h m { dst:=o.dst,val:=v,foot:=foot,wr:=wr }:=by
 intro O h' c a Kr Qr p hh I R F hnew A U;refine⟨λ_ _=>trivial,?_⟩;have B:Ex O x=Ex f x:=p x (by rw[s];simp[Op.operands,Call.operands]);have C:args.toList.map (Ex O)=args.toList.map (Ex f):=qF λy Y=>p y (by rw[s];simp[Op.operands,Call.operands];exact .inr (by simpa using Y));have b:=W h' m hh;have D:=A.ev x;rw[B]at D;unfold callee at n;split at n<;>try cases n
 rename_i g' y z T;rw[T,V]at D;obtain⟨xs,t,G,h1,h2⟩:=D;have i:AU (V c) (y++args.toList.map (Ex f)++z) (xs++(args.map a.eval).toList++t):=by
  rw[<-C];exact wo (wo (BE.1 h1) (GN args λw _=>A.ev w)) (BE.1 h2)
 obtain⟨d,b⟩:=b;have n:=b c _ I R F i;unfold K4 at d;cases k:P.funcs[g]? with
 | none=>simp[k]at d
 | some fn =>
  simp only[k,qg,bne_iff_ne,ne_eq]at d;have q:(execOp a.eval o).run P c.w=.ok (.enter g (xs.toArray++args.map a.eval++t.toArray)) c.w:=by
   have hb:fn.body≠none:=by intro e;simp[e]at d
   simp[execOp,s,resolve,Deferred.ofValue,G,invoke,callFunc,k,d.2,hb]
  have l:xs.toArray++args.map a.eval++t.toArray=(xs++(args.map a.eval).toList++t).toArray:=by
   apply wG;simp
  rw[Oper.semAt_eq _ _ _ (by rw[s];simp),q,Oper.uponIn_enter,l];refine⟨λh=>by simp[BZ.fc,Fence.wide]at h,(callsIn_wide.2 (n.mono λe w' ⟨u,v',h2',n',S,X,⟨K,H,J⟩,hw,hv,Q,M,L⟩=>?_):CallsIn Fence.wide _ P g _ c.w _)⟩;subst X;subst hw;subst K;subst H;subst J;refine U S u hv (by simpa[CC.hw]using Q) M L.ext λj _=>?_;rcases vq j n' with r|r;exact L.same j r;rw[F j r,M j r]
theorem Tg{o:Oper}{f:Nat->SV}{h:Hp}{v:SV}(H:LN P (Ex f) o v){m:Nat}:LO E P N o f h m { dst:=o.dst,val:=v }:=by
 intro f' h' c a Kr Qr b hh I R F hnew A d;refine⟨λ_ _=>trivial,?_⟩;rw[Oper.semAt_eq _ _ _ H.1];obtain⟨u,hr,hv⟩:=H.2 c a.eval (λ_=>rfl) λx e=>by rw[<-b x e];exact A.ev x
 rw[hr];exact d c u hv (by simpa[CC.hw,CU]using R) F (wT c) λ_ _=>rfl
theorem F9{Q:SA->Hp->Nat->Prop}:∀(rest:List Oper)(tr:List CC)(sa:SA)(h:Hp)(n:Nat),bx E P N ops f0 h0 n0 n tr (look sa) h->ops.toList.drop tr.length=rest->tr.length<=ops.size->
 Eh E P ops Q rest tr sa h n->∃rs sa' h' n',bx E P N ops f0 h0 n0 n' rs (look sa') h'/\rs.length=ops.size/\Q sa' h' n'
 | [],tr,sa,h,n,A,hd,hle,H=>⟨tr,sa,h,n,A,by have:=List.drop_eq_nil_iff.1 hd;simp at this;omega,H⟩
 | o :: rest, tr, sa, h, n, A, hd, hle, H => by
  have hlt:tr.length<ops.size:=by
   rcases vq tr.length ops.size with h|h;exact h;rw[List.drop_of_length_le (by simpa using h)]at hd;cases hd
  have ho:ops[tr.length]? = some o:=by
   have:(ops.toList.drop tr.length)[0]? = some o:=by rw[hd];rfl
   rw[vw]at this;simpa using this
  have hd':∀r:CC,ops.toList.drop (tr++[r]).length=rest:=λr=>by
   rw[ql,wl,<-List.drop_drop,hd];rfl
  have hle':∀r:CC,(tr++[r]).length<=ops.size:=λr=>by simp;omega
  have plain:∀out,C0 P (EV sa) h n o.op=some out->
   ((∀k∈Aj out.upd.toList++Cs (EV sa) o.op,k<n)/\FW ops tr.length { dst:=o.dst,val:=out.val,foot:=Aj out.upd.toList++Cs (EV sa) o.op,wr:=out.upd.toList,new:=(out.new.map λx=>(n,some x)).toList } 0 tr=true/\
     Eh E P ops Q rest (tr++[{ dst:=o.dst,val:=out.val,foot:=Aj out.upd.toList++Cs (EV sa) o.op,wr:=out.upd.toList,new:=(out.new.map λx=>(n,some x)).toList }]) (C1 sa o.dst out.val) (out.app h n) (if out.new.isSome then n+1 else n))->
   Cz ops sa o=some true->∃rs sa' h' n',bx E P N ops f0 h0 n0 n' rs (look sa') h'/\rs.length=ops.size/\Q sa' h' n':=λout hs ⟨h1,h2,h3⟩ hg=>by
   refine F9 rest _ _ _ _ ?_ (hd' _) (hle' _) h3;have:=A.snoc (n':=if out.new.isSome then n+1 else n) ho (r:={ dst:=o.dst,val:=out.val,foot:=Aj out.upd.toList++Cs (EV sa) o.op,wr:=out.upd.toList,new:=(out.new.map λx=>(n,some x)).toList })
    (by split<;>omega) rfl (λk hk=>qd.2 (.inl hk)) h1 (λk hk=>by
      cases hn:out.new with
      | none=>rw[hn]at hk;simp[Aj]at hk
      | some x=>rw[hn]at hk;simp[Aj]at hk;subst hk;simp) h2
    (.inr ⟨by rw[<-GZ];exact hg,λm hm=>by rw[Pk]at hs ⊢;exact QO hs hm⟩)
   rw[Kw sa o.dst out.val { dst:=o.dst,val:=out.val,foot:=Aj out.upd.toList++Cs (EV sa) o.op,wr:=out.upd.toList,new:=(out.new.map λx=>(n,some x)).toList } rfl rfl,
    WI h n out { dst:=o.dst,val:=out.val,foot:=Aj out.upd.toList++Cs (EV sa) o.op,wr:=out.upd.toList,new:=(out.new.map λx=>(n,some x)).toList } rfl rfl]
   exact this
  simp only[Eh]at H;split at H
  case h_1=>exact H.elim
  rename_i b hg;cases b
  case false=>
   simp only[qt,if_false]at H;refine F9 rest _ _ _ _ ?_ (hd' _) (hle' _) H;have:=A.snoc (n':=n) ho (r:={ dst:=o.dst,val:=.tup [] }) (IO _) rfl (by simp[Aj]) mr (by simp[Aj]) (by
    have:∀(l:List CC)(j:Nat),FW ops tr.length { dst:=o.dst,val:=.tup [] } j l=true:=by
     intro l
     induction l with
     | nil=>intro j;rfl
     | cons q l ih=>
      intro j;simp only[FW,ih,Bool.and_true];have d1:∀a:List Nat,DE a []=true:=λa=>by simp[DE]
      rw[d1,d1];simp[DE,Aj]
    exact this tr 0) (.inl ⟨by rw[<-GZ];exact hg,rfl,rfl,rfl,rfl⟩)
   rw[Kw sa o.dst (.tup []) { dst:=o.dst,val:=.tup [] } rfl rfl];exact this
  case true=>
   rw[my rfl]at H;split at H;rename_i f args ts hop;split at H;rename_i g aS hc;obtain⟨foot,wr,v,hU,hwf,hfoot,hind,hrest⟩:=H;refine F9 rest _ _ _ _ ?_ (hd' _) (hle' _) hrest;have:=A.snoc (n':=n) ho (r:={ dst:=o.dst,val:=v,foot:=foot,wr:=wr }) (IO _) rfl hwf hfoot (by simp[Aj]) hind
    (.inr ⟨by rw[<-GZ];exact hg,λm _=>by rw[Pk]at hc;exact SB hop hc hU⟩)
   rw[Kw sa o.dst v { dst:=o.dst,val:=v,foot:=foot,wr:=wr } rfl rfl];simpa[CC.hw]using this;exact H.elim;split at H;rename_i out hs;exact plain out hs H hg;obtain⟨v,hV,hind,hrest⟩:=H;refine F9 rest _ _ _ _ ?_ (hd' _) (hle' _) hrest;have:=A.snoc (n':=n) ho (r:={ dst:=o.dst,val:=v }) (IO _) rfl (by simp[Aj]) mr (by simp[Aj]) hind
    (.inr ⟨by rw[<-GZ];exact hg,λm _=>by rw[Pk]at hV;exact Tg hV⟩)
   rw[Kw sa o.dst v { dst:=o.dst,val:=v } rfl rfl];simpa[CC.hw,CU]using this
theorem Qf{id:Nat}{Q:CT}{sa:SA}{h:Hp}{n:Nat}(hm:P.follows .mixedOrders=true)(m:ED ops=true)(H:Eh E P ops (Q .normal) ops.toList [] sa h n):GU E P N (.region id ops true) Q sa h n:=by
 intro hd c a I R F A;simp only[Code.dok,qG]at hd;have k:∀(i:Nat)(o:Oper),ops[i]? = some o->∀d,o.dst=some d->d<N:=λi o l d e=>by
  have:=hd o (by simpa using Array.mem_of_getElem? l);rw[e]at this;simpa using this
 have s:bx E P N ops (look sa) h n n [] (look sa) h:=
  ⟨IO _,rfl,rfl,by simp,by simp,by simp,by simp,by simp,by simp⟩
 obtain⟨rs,p,h',n',f,b,v⟩:=F9 (N:=N) ops.toList [] sa h n s rfl (qj _) H;have G:To E P N ops (look sa) h n n' rs:=
  ⟨b,m,k,λi o r l hr=>by
   obtain⟨g1,u,g3⟩:=f.ok i o r l hr;exact⟨g1,u,g3.imp (λz=>z) λ⟨x,y⟩=>⟨x,y n' (IO _)⟩⟩,f.ind,f.newlo,f.newne,f.newfoot⟩
 refine Sl G hm f.le I R F ⟨A.size,A.defers,A.val⟩ λt a' q g j E'=>?_;rw[<-b,<-f.hp]at q;rw[<-b,<-f.fr]at g;exact⟨p,h',n',t,v,rfl,q,j,⟨g.size,g.defers,g.val⟩,E'⟩
end
def GB(E:BZ)(P:Program)(N:Nat):Code->CT->SA->Hp->Nat->Prop
 | .skip,Q,sa,h,n=>Q .normal sa h n
 | .seq a b,Q,sa,h,n=>GB E P N a (Dh (GB E P N b Q) Q) sa h n
 | .cond c a b,Q,sa,h,n=>match EV sa c with|.bool t=>if t=true then GB E P N a Q sa h n else GB E P N b Q sa h n|_=>False
 | .block id b,Q,sa,h,n=>GB E P N b (FH id Q) sa h n
 | .exit id,Q,sa,h,n=>Q (.exit id) sa h n
 | .ret,Q,sa,h,n=>Q .ret sa h n
 | .region _ ops false,Q,sa,h,n=>Ht E P ops (Q .normal) ops.toList sa h n
 | .region _ ops true,Q,sa,h,n=>ED ops=true/\Eh E P ops (Q .normal) ops.toList [] sa h n
 | .loop b,Q,sa,h,n=>GU E P N (.loop b) Q sa h n
 | .rangeFunc g ps a b,Q,sa,h,n=>GU E P N (.rangeFunc g ps a b) Q sa h n
 | _,_,_,_,_=>False
theorem Fm{K a:SA->Hp->Nat->Prop}{Q:CT}(hk:∀sa h n,K sa h n->a sa h n):∀e sa h n,Dh K Q e sa h n->Dh a Q e sa h n:=by
 intro e sa h n H;cases e<;>first|exact hk _ _ _ H|exact H
theorem FA{E:BZ}{P:Program}{N:Nat}(hm:P.follows .mixedOrders=true):∀(c:Code)(Q:CT)(sa:SA)(h:Hp)(n:Nat),GB E P N c Q sa h n->GU E P N c Q sa h n
 | .skip,Q,sa,h,n,H=>M6 H
 | .seq a b,Q,sa,h,n,H=>I9 (Gd (FA hm a _ sa h n H) (Fm λsa h n=>FA hm b Q sa h n))
 | .cond c a b,Q,sa,h,n,H=>by
  simp only[GB]at H;split at H;rename_i t ht;refine BD ht ?_;split at H;rename_i e;rw[my e];exact FA hm a Q sa h n H;rename_i e;rw[mw e];exact FA hm b Q sa h n H;exact H.elim
 | .block id b,Q,sa,h,n,H=>LM (FA hm b _ sa h n H)
 | .exit id,Q,sa,h,n,H=>Qg H
 | .ret,Q,sa,h,n,H=>Tq H
 | .region _ ops false,Q,sa,h,n,H=>M5 H
 | .region _ ops true,Q,sa,h,n,H=>Qf hm H.1 H.2
 | .loop b,Q,sa,h,n,H=>H
 | .rangeFunc _ _ _ _,_,_,_,_,H=>H
 | .scope _,_,_,_,_,H=>H.elim
 | .label _,_,_,_,_,H=>H.elim
 | .goto _,_,_,_,_,H=>H.elim
 | .refuse _,_,_,_,_,H=>H.elim
def Is(v:SV)(h:Hp)(n:Nat):SV->Hp->Nat->Prop:=λv' h' n'=>v'=v/\h'=h/\n'=n
def Fu(P:Program)(f:FuncId)(args:List SV)(v:SV):Prop:=∀h n,BP P f args h n (Is v h n)
theorem Fu.use{E:BZ}{P:Program}{f:FuncId}{args:List SV}{v:SV}(H:Fu P f args v){h:Hp}{n:Nat}{K:SV->Hp->Nat->Prop}(hk:K v h n):Ab E P f args h n K:=
 Ab.lift<|(H h n).mono λ_ _ _ ⟨a,b,c⟩=>by subst a;subst b;subst c;exact hk
theorem Fu.u{E:BZ}{P:Program}{f:FuncId}{args:List SV}{v:SV}(H:Fu P f args v)(h:Hp):M7 E P f args [] [] v h:=
 λh' n _=>Ab.lift<|(H h' n).mono λ_ _ _ ⟨a,b,c⟩=>⟨a,b,c⟩
theorem U3{E:BZ}{P:Program}(hm:P.follows .mixedOrders=true){f:FuncId}{fn:Func}{code:Code}{args:List SV}{h:Hp}{n:Nat}{K:SV->Hp->Nat->Prop}(b:P.funcs[f]? = some fn)(hb:fn.body=some code)
 (d:(fn.name != "runtime.NumGoroutine")=true) (hd:Code.dok fn.ntmps code=true) (c:args.length<=fn.ntmps)
 (H:(∀a∈args,C_ n a=true)->(∀o x,h o=some x->o<n/\BH n x=true)->GB (E.call false 0) P fn.ntmps code (OT P fn n K) (D7 0 args) h n):Ab E P f args h n K:=
 Oa b hb d hd c λh1 h2=>FA hm _ _ _ _ _ (H h1 h2)
theorem Ce.plain{n:Nat}{h h':Hp}{n':Nat}{v:SV}{K:SV->Hp->Nat->Prop}(a:C_ n v=true)(b:∀o x,h o=some x->o<n/\BH n x=true)(hh:∀o x,h o=some x->h' o=some x)(hk:K v h n):Ce n h' n' v K:=
 .inr ⟨0,v,h,rfl,a,λo x e=>⟨hh o x e,b o x e⟩,hk⟩
abbrev swp:=GB BZ.plain
abbrev TY(k sz b:Nat)(ag:Option Bool)(sl:Option TypeId)(ar:Option (Nat×TypeId))(mp:Option (TypeId×TypeId))(st:Bool)(i:Option IntKind)(bo pt:Bool)(ze:SV):Prop:=
 Bj prog k=sz/\Cv prog k=b/\GH prog k=ag/\A5 prog k=sl/\KQ prog k=ar/\I6 prog k=mp/\Dq prog k=st/\OX prog k=i/\I5 prog k=bo/\QQ prog k=pt/\BU prog k=ze
abbrev TF(k i o t:Nat):Prop:=IL prog k i=some (o,t)
abbrev I_:SV:=.int .i64 0
abbrev L_:SV:=.y 0 [] true
abbrev M_:SV:=.str .empty
abbrev A_(k e:Nat):Prop:=TY k 1 24 (some false) (some e) none none false none false false L_
abbrev B_(k:Nat)(b:Bool):Prop:=TY k 1 8 (some false) none none none false none false b .nilp
abbrev D_(k:Nat):Prop:=TY k 1 8 (some false) none none none false none false false .nilf
abbrev E_(k:Nat)(p:Nat×Nat):Prop:=TY k 1 8 (some false) none none (some p) false none false false .nilm
abbrev F_(k b:Nat)(i:IntKind):Prop:=TY k 1 b (some false) none none none false (some i) false false (.int i 0)
abbrev H_(k a b:Nat)(l:List SV)(p:List (Nat×Nat)):Prop:=TY k a b (some true) none none none false none false false (.agg l)/\Bk prog k=some p
@[go_sem] theorem ty0:F_ 2 8 .i64/\F_ 3 8 .i64/\TY 4 1 1 (some false) none none none false none true false (.bool false)/\F_ 5 1 .u8/\TY 9 1 16 (some false) none none none true none false false (.str .empty)/\F_ 21 4 .i32/\A_ 22 80/\A_ 23 164/\A_ 24 74/\A_ 25 76/\H_ 27 4 64 [I_,I_,L_,L_] [(0,1),(1,1),(2,1),(3,1)]/\TF 27 0 0 3/\TF 27 1 1 3/\TF 27 2 2 24/\TF 27 3 3 25/\H_ 29 5 88 [L_,I_,I_,L_,L_] [(0,1),(1,4)]/\TF 29 0 0 23/\TF 29 1 1 27:=by(repeat' first|apply And.intro|unfold TF)<;>kernel_rfl
@[go_sem] theorem ty12:A_ 30 68/\A_ 31 110/\A_ 32 113/\A_ 33 71/\A_ 34 88/\H_ 36 4 96 [L_,L_,L_,L_] [(0,1),(1,1),(2,1),(3,1)]/\TF 36 0 0 31/\TF 36 1 1 32/\TF 36 2 2 33/\TF 36 3 3 34/\H_ 38 11 232 [L_,L_,I_,I_,L_,L_,L_,L_,L_,L_,L_] [(0,1),(1,5),(6,1),(7,4)]/\TF 38 0 0 22/\TF 38 1 1 29/\TF 38 2 6 30/\TF 38 3 7 36/\A_ 39 53/\A_ 40 9/\H_ 42 7 72 [L_,M_,.bool false,.bool false,.bool false,.bool false,L_] [(0,1),(1,1),(2,1),(3,1),(4,1),(5,1),(6,1)]/\TF 42 0 0 39/\TF 42 1 1 9/\TF 42 2 2 4/\TF 42 3 3 4/\TF 42 4 4 4/\TF 42 5 5 4/\TF 42 6 6 40/\F_ 45 8 .i64/\D_ 50:=by(repeat' first|apply And.intro|unfold TF)<;>kernel_rfl
@[go_sem] theorem ty24:H_ 53 3 24 [I_,I_,I_] [(0,1),(1,1),(2,1)]/\TF 53 0 0 3/\TF 53 1 1 3/\TF 53 2 2 3/\F_ 65 2 .u16/\D_ 66/\H_ 68 3 32 [I_,M_,I_] [(0,1),(1,1),(2,1)]/\TF 68 0 0 3/\TF 68 1 1 9/\TF 68 2 2 3/\H_ 71 6 64 [I_,I_,M_,I_,M_,.bool false] [(0,1),(1,1),(2,1),(3,1),(4,1),(5,1)]/\TF 71 0 0 3/\TF 71 1 1 3/\TF 71 2 2 9/\TF 71 3 3 3/\TF 71 4 4 9/\TF 71 5 5 4/\D_ 72/\H_ 74 2 16 [I_,I_] [(0,1),(1,1)]/\TF 74 0 0 3/\TF 74 1 1 3/\H_ 76 4 32 [I_,I_,I_,.bool false] [(0,1),(1,1),(2,1),(3,1)]/\TF 76 0 0 3/\TF 76 1 1 3/\TF 76 2 2 3/\TF 76 3 3 4/\A_ 78 171/\H_ 80 11 176 [I_,I_,I_,M_,L_,I_,I_,L_,L_,L_,L_] [(0,1),(1,1),(2,1),(3,1),(4,5),(9,1),(10,1)]/\TF 80 0 0 3/\TF 80 1 1 3/\TF 80 2 2 3/\TF 80 3 3 9/\TF 80 4 4 29/\TF 80 5 9 22/\TF 80 6 10 78/\D_ 81/\H_ 88 2 32 [M_,M_] [(0,1),(1,1)]/\TF 88 0 0 9/\TF 88 1 1 9:=by(repeat' first|apply And.intro|unfold TF)<;>kernel_rfl
@[go_sem] theorem ty36:A_ 91 3/\D_ 98/\H_ 100 3 24 [.nilf,.nilf,.nilf] [(0,1),(1,1),(2,1)]/\TF 100 0 0 98/\TF 100 1 1 72/\TF 100 2 2 81/\E_ 103 (9,9)/\H_ 110 6 72 [I_,I_,M_,I_,I_,L_] [(0,1),(1,1),(2,1),(3,1),(4,1),(5,1)]/\TF 110 0 0 3/\TF 110 1 1 3/\TF 110 2 2 9/\TF 110 3 3 3/\TF 110 4 4 3/\TF 110 5 5 23/\A_ 111 115/\H_ 113 2 32 [I_,L_] [(0,1),(1,1)]/\TF 113 0 0 3/\TF 113 1 1 111/\H_ 115 4 40 [I_,I_,M_,I_] [(0,1),(1,1),(2,1),(3,1)]/\TF 115 0 0 3/\TF 115 1 1 3/\TF 115 2 2 9/\TF 115 3 3 3/\B_ 118 true/\A_ 119 5/\H_ 121 2 32 [.nilp,L_] [(0,1),(1,1)]/\TF 121 0 0 118/\TF 121 1 1 119/\D_ 129:=by(repeat' first|apply And.intro|unfold TF)<;>kernel_rfl
@[go_sem] theorem ty48:E_ 137 (3,3)/\E_ 138 (142,3)/\H_ 142 2 16 [I_,I_] [(0,1),(1,1)]/\TF 142 0 0 3/\TF 142 1 1 3/\B_ 146 true/\H_ 152 3 16 [.bool false,.bool false,I_] [(0,1),(1,1),(2,1)]/\TF 152 0 0 4/\TF 152 1 1 4/\TF 152 2 2 3/\E_ 153 (3,4)/\H_ 155 6 48 [.nilm,.nilm,.nilm,.nilm,.nilm,I_] [(0,1),(1,1),(2,1),(3,1),(4,1),(5,1)]/\TF 155 0 0 137/\TF 155 1 1 153/\TF 155 2 2 153/\TF 155 3 3 153/\TF 155 4 4 153/\TF 155 5 5 3/\A_ 156 91/\D_ 159/\H_ 164 2 16 [I_,I_] [(0,1),(1,1)]/\TF 164 0 0 3/\TF 164 1 1 3/\D_ 167/\A_ 169 173:=by(repeat' first|apply And.intro|unfold TF)<;>kernel_rfl
@[go_sem] theorem ty60:H_ 171 6 112 [L_,I_,I_,L_,L_,L_] [(0,5),(5,1)]/\TF 171 0 0 29/\TF 171 1 5 169/\H_ 173 7 120 [I_,L_,I_,I_,L_,L_,L_] [(0,1),(1,5),(6,1)]/\TF 173 0 0 3/\TF 173 1 1 29/\TF 173 2 6 22/\B_ 177 true/\H_ 182 4 40 [L_,.bool false,.bool false,I_] [(0,1),(1,3)]/\TF 182 0 0 22/\TF 182 1 1 152/\D_ 190/\A_ 191 4/\D_ 195/\B_ 199 true/\D_ 201/\D_ 206/\E_ 208 (142,4)/\A_ 209 142:=by(repeat' first|apply And.intro|unfold TF)<;>kernel_rfl
@[go_sem] theorem ty72:D_ 212/\D_ 215/\A_ 216 45/\D_ 224/\D_ 231/\D_ 232/\F_ 236 8 .u64/\D_ 238/\D_ 239/\D_ 243/\D_ 247/\B_ 256 false:=by(repeat' first|apply And.intro|unfold TF)<;>kernel_rfl
@[go_sem] theorem ty84:D_ 259/\D_ 271/\D_ 276/\D_ 277/\D_ 291/\D_ 294/\TY 306 24 24 (some true) none (some (24,5)) none false none false false (.agg [.int .u8 0,.int .u8 0,.int .u8 0,.int .u8 0,.int .u8 0,.int .u8 0,.int .u8 0,.int .u8 0,.int .u8 0,.int .u8 0,.int .u8 0,.int .u8 0,.int .u8 0,.int .u8 0,.int .u8 0,.int .u8 0,.int .u8 0,.int .u8 0,.int .u8 0,.int .u8 0,.int .u8 0,.int .u8 0,.int .u8 0,.int .u8 0])/\F_ 307 8 .u64/\D_ 313/\D_ 319/\H_ 323 6 56 [I_,I_,I_,I_,I_,M_] [(0,1),(1,1),(2,1),(3,1),(4,1),(5,1)]/\TF 323 0 0 3/\TF 323 1 1 3/\TF 323 2 2 3/\TF 323 3 3 3/\TF 323 4 4 3/\TF 323 5 5 9/\F_ 328 4 .u32:=by(repeat' first|apply And.intro|unfold TF)<;>kernel_rfl
@[go_sem] theorem ty96:F_ 344 8 .i64/\A_ 352 357/\H_ 357 3 32 [M_,I_,.bool false] [(0,1),(1,1),(2,1)]/\TF 357 0 0 9/\TF 357 1 1 3/\TF 357 2 2 4/\D_ 358/\A_ 359 323/\D_ 362/\F_ 369 8 .u64/\D_ 375/\B_ 376 true/\H_ 378 7 96 [M_,I_,.nilp,L_,L_,I_,I_] [(0,1),(1,1),(2,2),(4,1),(5,1),(6,1)]/\TF 378 0 0 9/\TF 378 1 1 3/\TF 378 2 2 121/\TF 378 3 4 352/\TF 378 4 5 3/\TF 378 5 6 45:=by(repeat' first|apply And.intro|unfold TF)<;>kernel_rfl
attribute [go_sem] Hn Xp O2 Fa Mc Cz C0 C9 EV look C1 D7 callee ofValue Dz SN Cb GP Ji Il KP OP gn GJ CY FY flat In OM Qx NQ Xn Xf HL OD Gm Gu Sa HZ ME Cg.app Fc
 SV.cells SV.B
section
variable(P:Program)(h:Hp)(n:Nat)(t t2:TypeId)
@[go_sem] theorem jl(x:SV):Ak P h n .len [t] [x]=match x with
 | .str s=>if Dq P t then C9 (.int .i64 s.size)else none
 | .y _ es _=>if(A5 P t).isSome then C9 (.int .i64 es.length)else none
 | .sl _ _ _ len _=>if(A5 P t).isSome then C9 (.int .i64 len)else none
 | .map o=>match h o with|some (.map es)=>if(I6 P t).isSome then C9 (.int .i64 es.length)else none|_=>none
 | .nils=>if(A5 P t).isSome then C9 (.int .i64 0)else none
 | _=>none:=by cases x<;>rfl
@[go_sem] theorem jk(x:SV):Ak P h n .cap [t] [x]=match x with
 | .y _ es true=>if(A5 P t).isSome then C9 (.int .i64 es.length)else none
 | .sl _ _ _ len true=>if(A5 P t).isSome then C9 (.int .i64 len)else none
 | _=>none:=by cases x<;>rfl
@[go_sem] theorem jL(d x:SV):Ak P h n .copy [t,t2] [d,x]=Qx P h t d x:=rfl
@[go_sem] theorem fY(d:SV):Ak P h n .clear [t] [d]=NQ P h t d:=rfl
@[go_sem] theorem jn(ts:List TypeId)(l:List SV):Ak P h n .min ts l=(Xn l).bind C9:=by simp[Ak]
@[go_sem] theorem jm(ts:List TypeId)(l:List SV):Ak P h n .max ts l=(Xf l).bind C9:=by simp[Ak]
@[go_sem] theorem fA(o:Nat)(k:SV):Ak P h n .delete [t,t2] [.map o,k]=match I6 P t,h o with
 | some (kt,_),some (.map es)=>
  if !BQ P kt k then none else
  match CY k es 0 with
  | some (some (i,_))=>some { val:=.tup [],upd:=some (o,some (.map (es.eraseIdx i))) }
  | some none=>some { val:=.tup [],upd:=some (o,some (.map es)) }
  | none=>none
 | _,_=>none:=rfl
end
theorem follows:Proofs.Tryz.prog.follows .mixedOrders=true:=by kernel_rfl
section
variable{E:BZ}{P:Program}{N:Nat}
end
attribute [simp] Or
theorem Fz.any{h h2:Hp}:∀(k:Nat) {v r:SV},Fz (λ_=>none) (λ_=>none) k v r->Fz h h2 k v r
 | 0,_,_,H=>H
 | k+1,v,r,H=>by
  have a:∀{us bs:List SV},AU (Fz (λ_=>none) (λ_=>none) k) us bs->AU (Fz h h2 k) us bs:=λH=>H.mono λ_ _=>Fz.any k;rcases H with H|H;exact .inl H;refine .inr ?_;split at H;trivial;obtain⟨_,_,_,_,_,_,h1,_⟩:=H;cases h1;obtain⟨_,_,h1,_⟩:=H;cases h1;exact a H;exact a H;exact⟨H.1,a H.2.1,a H.2.2⟩;exact a H;exact⟨H.1,H.2.1,a H.2.2.1,H.2.2.2⟩;exact H;exact H.elim
section
variable{E:BZ}{P:Program}{N:Nat}
theorem FR.fz{sa sb:SA}{h h2:Hp}{c:Cx}{a:Act}(k:Nat)(R:CB h c)(d:∀o x,h2 o=some x->h o=some x)(A:FR E N sa c a)(hw:∀p∈sb,Fz h h2 k (look sa p.1) p.2):FR E N sb (c.less h2) a:=by
 refine⟨A.size,A.defers.mono (DN R d),λt=>?_⟩;have key:∀l:SA,(∀p∈l,Fz h h2 k (look sa p.1) p.2)->look l t=.junk\/Fz h h2 k (look sa t) (look l t):=by
  intro l
  induction l with
  | nil=>intro _;exact .inl rfl
  | cons p l ih=>
   intro b;obtain⟨j,x⟩:=p;simp only[look];by_cases e:j=t;subst e;simp only[if_true];exact .inr (b (j,x) mr);simp only[e,if_false];exact ih λq f=>b q (by simp[f])
 rcases key sb hw with e|e;rw[e];simp[V];exact Fz.sound R d k e (A.val t)
theorem PW{code:Code}{Q:CT}{sa sb:SA}{h h2:Hp}{n m:Nat}(k:Nat)(b:∀o x,h2 o=some x->h o=some x)(hm:n<=m)(hw:∀p∈sb,Fz h h2 k (look sa p.1) p.2)(H:GU E P N code Q sb h2 m):GU E P N code Q sa h n:=by
 intro hd c a I R F A;have l:Fr m (c.less h2):=λj f=>F j (qC hm f);refine wpIn_mono (H hd (c.less h2) a (E.ext (DN R b) I) (R.less b) l (A.fz k R b hw)) ?_;rintro e a' w' ⟨g,h',n',s,q,hw,r,d,i,X⟩;refine⟨g,h',n',s,q,hw,r,d,i,⟨(DN R b).trans X.ext,qC hm X.le,λj f=>?_⟩⟩;exact X.same j (wC f hm)
theorem Ab.fz{f:FuncId}{us bs:List SV}{h h2:Hp}{n:Nat}{K:SV->Hp->Nat->Prop}(k:Nat)(d:∀o x,h2 o=some x->h o=some x)(hw:AU (Fz h h2 k) us bs)(H:Ab E P f bs h2 n K):Ab E P f us h n K:=by
 refine⟨H.1,λc vs I R F A=>?_⟩;have i:AU (V (c.less h2)) bs vs:=uj (R:=V c) (S:=Fz h h2 k) (T:=V (c.less h2)) (λa b g h1 h2=>Fz.sound R d k h2 h1) A hw;refine(H.2 (c.less h2) vs (E.ext (DN R d) I) (R.less d) F i).mono ?_;rintro e w' ⟨u,v,h',n',m,p,q,hw,hv,l,j,X⟩;exact⟨u,v,h',n',m,p,q,hw,hv,l,j,⟨(DN R d).trans X.ext,X.le,X.same⟩⟩
theorem Fu.wk{f:FuncId}{us bs:List SV}{v:SV}(k:Nat)(H:Fu P f bs v)(hw:AU (Fz (λ_=>none) (λ_=>none) k) us bs):Fu P f us v:=λh n=>
 Ab.fz k (λ_ _ e=>e) (hw.mono λ_ _=>Fz.any k) (H h n)
mutual
def Db:SV->Bool
 | .bool _|.int _ _|.str _|.nilp|.nilf|.nilm|.nils|.junk=>true
 | .agg cs=>Nv cs
 | .tup cs=>Nv cs
 | _=>false
def Nv:List SV->Bool
 | []=>true
 | s::ss=>Db s&&Nv ss
end
mutual
theorem V.plain{c b:Cx}:∀{s:SV} {v:Value},Db s=true->V c s v->V b s v
 | .bool _,_,_,h=>h
 | .int _ _,_,_,h=>h
 | .str _,_,_,h=>h
 | .nilp,_,_,h=>h
 | .nilf,_,_,h=>h
 | .nilm,_,_,h=>h
 | .nils,_,_,h=>h
 | .junk,_,_,_=>trivial
 | .agg cs,v,hp,h=>by rw[V]at *;rw[Db]at hp;obtain⟨vs,e,a,d⟩:=h;exact⟨vs,e,VL.plain hp a,d⟩
 | .tup cs,v,hp,h=>by rw[V]at *;rw[Db]at hp;obtain⟨vs,e,a⟩:=h;exact⟨vs,e,VL.plain hp a⟩
 | .fn _ _ _,_,hp,_=>by simp[Db]at hp
 | .ptr _ _,_,hp,_=>by simp[Db]at hp
 | .q _,_,hp,_=>by simp[Db]at hp
 | .sl _ _ _ _ _,_,hp,_=>by simp[Db]at hp
 | .slc _ _ _ _ _,_,hp,_=>by simp[Db]at hp
 | .y _ _ _,_,hp,_=>by simp[Db]at hp
 | .map _,_,hp,_=>by simp[Db]at hp
 | .yl _,_,hp,_=>by simp[Db]at hp
theorem VL.plain{c a:Cx}:∀{s:List SV} {v:List Value},Nv s=true->VL c s v->VL a s v
 | [],_,_,h=>by rw[VL]at *;exact h
 | s::ss,v,hp,h=>by rw[VL]at *;rw[Nv,qg]at hp;obtain⟨u,r,e,h1,h2⟩:=h;exact⟨u,r,e,V.plain hp.1 h1,VL.plain hp.2 h2⟩
end
theorem Fu.lend{f:FuncId}{us bs:List SV}{v:SV}{h:Hp}{n:Nat}{K:SV->Hp->Nat->Prop}(k:Nat)(H:Fu P f bs v)(hv:Db v=true)(hw:AU (Fz h (λ_=>none) k) us bs)(hk:K v h n):Ab E P f us h n K:=by
 refine⟨(H h n).1,λc vs _ R F A=>?_⟩;have r:∀o x,(λ_=>none:Hp) o=some x->h o=some x:=λ_ _ e=>by cases e
 have s:AU (V (c.less λ_=>none)) bs vs:=uj (R:=V c) (S:=Fz h (λ_=>none) k) (T:=V (c.less λ_=>none)) (λa b g h1 h2=>Fz.sound R r k h2 h1) A hw;refine((H (λ_=>none) n).2 (c.less λ_=>none) vs trivial (R.less r) F s).mono ?_;rintro e w' ⟨u,z,h',n',p,y,⟨rfl,rfl,rfl⟩,rfl,q,R',t,d⟩;have i:∀b,¬(c.less λ_=>none).own b:=λb ⟨o,x,e,_⟩=>by cases e
 have hρ:∀j,p.ρ j=c.ρ j:=λj=>by
  rcases vq j n' with l|l;exact d.same j l;rw[t j l,F j l]
 have X:DV c { c with w:=p.w }:=⟨λ_ _ e=>e,d.ext.size,λb hb m=>⟨m,(d.ext.keep b hb (i b)).2⟩,d.ext.room,d.ext.os,d.ext.out,d.ext.td⟩
 refine⟨u,z,h,n',{ c with w:=p.w },y,hk,rfl,q.plain hv,⟨λo x m=>?_,R.inj2,R.own2⟩,F,⟨X,IO _,λ_ _=>rfl⟩⟩;refine(R.obj o x m).mono X λb hb=>?_;exact(d.ext.keep b ((R.obj o x m).hold_lt hb) (i b)).2
theorem Fu.lendU{f:FuncId}{us bs:List SV}{v:SV}{h:Hp}(k:Nat)(foot:List Nat)(H:Fu P f bs v)(hv:Db v=true)(hw:∀h',(∀j∈foot,h' j=h j)->AU (Fz h' (λ_=>none) k) us bs):M7 E P f us foot [] v h:=λh' _n a=>
 Fu.lend k H hv (hw h' a) ⟨rfl,rfl,rfl⟩
theorem Vp(hm:P.follows .mixedOrders=true){x:Code}{Q:CT}{sa:SA}{h:Hp}{n:Nat}{α:Type}(k:Nat)(fr:α->SA)(hp:α->Hp)(I:α->Nat->Prop)(μ:α->Nat)(a0:α)(hI:I a0 n)
 (b:∀p∈fr a0,Fz h (hp a0) k (look sa p.1) p.2) (c:∀o y,hp a0 o=some y->h o=some y)
 (d:∀a n,I a n->GB E P N x (Dh (λe h' n'=>∃a',μ a'<μ a/\I a' n'/\(∀p∈fr a',Fz h' (hp a') k (look e p.1) p.2)/\(∀o y,hp a' o=some y->h' o=some y)) Q) (fr a) (hp a) n):
 GU E P N (.loop x) Q sa h n:=by
 refine M3 (μ a0) (λm sa h n=>∃a,m=μ a/\I a n/\(∀p∈fr a,Fz h (hp a) k (look sa p.1) p.2)/\(∀o y,hp a o=some y->h o=some y)) ⟨a0,rfl,hI,b,c⟩ ?_;rintro m sa h n ⟨a,rfl,hI,b,c⟩;refine PW k c (IO _) b (Gd (FA hm _ _ _ _ _ (d a n hI)) ?_);refine Fm λe h' n' ⟨a',h1,h2,f,g⟩=>⟨μ a',h1,a',rfl,h2,f,g⟩
end
open Proofs
abbrev FN(f:Func)(n:Nat)(r:List ResultVar):Prop:=f.results.toList=r/\f.ntmps=n
abbrev G_(f:Func)(n k:Nat):Prop:=FN f n [.tmp k]
@[go_sem] theorem fr0:G_ Tryz.f10 116 4/\G_ Tryz.f12 38 4/\G_ Tryz.f16 6 2/\G_ Tryz.f24 60 4/\FN Tryz.f25 86 [.cell 2 38]/\G_ Tryz.f26 62 2/\G_ Tryz.f28 9 3/\FN Tryz.f29 62 [.cell 3 29]/\FN Tryz.f30 20 [.cell 2 29]/\G_ Tryz.f31 108 6/\FN f32 11 [.cell 3 80,.tmp 4]/\G_ f33 83 4:=by(repeat' apply And.intro)<;>rfl
@[go_sem] theorem fr12:G_ f34 45 2/\FN f38 22 [.tmp 2,.tmp 3]/\G_ f41 24 2/\FN f43 18 [.cell 2 38]/\FN f46 2 [.cell 0 100]/\G_ f48 16 2/\FN f49 19 [.cell 4 38]/\G_ f64 14 2/\G_ f65 17 4/\G_ f66 26 4/\G_ f67 8 4/\G_ f68 46 4:=by(repeat' apply And.intro)<;>rfl
@[go_sem] theorem fr24:G_ f69 26 4/\G_ f70 8 4/\G_ f71 32 6/\G_ f72 26 4/\G_ f73 26 4/\FN f74 10 [.cell 2 38]/\G_ f75 39 2/\FN f76 91 [.cell 4 29]/\FN f77 35 [.cell 4 80,.tmp 5]/\G_ f78 15 2/\G_ f79 17 2/\G_ f80 14 2:=by(repeat' apply And.intro)<;>rfl
@[go_sem] theorem fr36:G_ f81 64 2/\G_ f82 121 6/\G_ f83 7 4/\G_ f84 11 6/\G_ f93 8 2/\G_ f94 8 2/\G_ f95 8 2/\G_ f96 5 2/\G_ f97 133 6/\FN f101 74 [.tmp 4,.tmp 5,.tmp 6]/\G_ f102 93 2/\G_ f103 19 2:=by(repeat' apply And.intro)<;>rfl
@[go_sem] theorem fr48:G_ f104 42 4/\G_ f105 8 2/\G_ f106 15 3/\FN f107 54 [.tmp 4,.tmp 5]/\FN f108 16 [.cell 2 38]/\G_ f113 6 4/\FN f115 5 [.cell 2 80,.tmp 3]/\G_ f116 109 6/\FN f123 20 []/\G_ f124 32 6/\G_ f125 52 4/\G_ f126 26 4:=by(repeat' apply And.intro)<;>rfl
@[go_sem] theorem fr60:G_ f127 26 4/\G_ f128 26 4/\G_ f129 32 6/\G_ f130 45 4/\G_ f131 8 4/\FN f132 108 []/\FN f133 37 [.cell 3 29]/\G_ f134 12 4/\G_ f135 4 2/\G_ f136 17 4/\G_ f137 18 2/\G_ f138 20 4:=by(repeat' apply And.intro)<;>rfl
@[go_sem] theorem fr72:FN f139 79 [.cell 2 45]/\G_ f140 14 2/\G_ f141 14 2/\G_ f142 14 2/\G_ f143 18 4/\G_ f144 25 3/\G_ f145 37 4/\G_ f146 9 3/\G_ f147 15 2/\G_ f148 15 6/\G_ f149 64 4/\G_ f150 41 6:=by(repeat' apply And.intro)<;>rfl
@[go_sem] theorem fr84:G_ f151 12 5/\G_ f152 64 8/\G_ f153 13 5/\G_ f154 117 6/\G_ f155 22 4/\FN f156 16 [.cell 2 80]/\G_ f157 22 4/\FN f158 10 [.cell 2 171]/\G_ f160 143 4/\FN f161 33 [.tmp 2,.tmp 3,.tmp 4]/\G_ f162 42 4/\FN f163 10 [.cell 2 171]:=by(repeat' apply And.intro)<;>rfl
@[go_sem] theorem fr96:G_ f164 7 2/\FN f165 35 []/\FN f166 59 []/\G_ f167 9 2/\G_ f168 4 2/\G_ f169 19 4/\G_ f170 17 4/\G_ f171 6 2/\FN f172 58 [.cell 2 36]/\G_ f180 32 6/\G_ f181 17 4/\G_ f182 5 2:=by(repeat' apply And.intro)<;>rfl
@[go_sem] theorem fr108:FN f183 14 []/\FN f184 14 []/\G_ f185 6 2/\G_ f186 99 4/\G_ f187 25 6/\G_ f188 6 4/\G_ f189 15 3/\G_ f190 9 3/\G_ f191 57 2/\G_ f192 41 3/\G_ f193 9 4/\G_ f194 9 3:=by(repeat' apply And.intro)<;>rfl
@[go_sem] theorem fr120:G_ f195 9 3/\G_ f196 13 2/\G_ f197 56 3/\G_ f198 63 2/\G_ f199 20 4/\G_ f200 26 4/\G_ f201 164 2/\G_ f202 29 4/\G_ f203 77 6/\G_ f204 22 4/\FN f205 12 [.cell 2 173]/\G_ f208 8 4:=by(repeat' apply And.intro)<;>rfl
@[go_sem] theorem fr132:G_ f210 6 2/\G_ f211 81 4/\G_ f212 19 4/\FN f213 12 [.cell 2 173]/\G_ f214 5 2/\FN f215 11 []/\FN f216 14 []/\G_ f217 8 2/\G_ f218 8 2/\G_ f219 8 2/\G_ f220 8 2/\G_ f221 8 2:=by(repeat' apply And.intro)<;>rfl
@[go_sem] theorem fr144:G_ f239 32 6/\G_ f240 24 4/\G_ f241 13 4/\FN f242 148 []/\G_ f243 8 2/\G_ f244 41 2/\FN f245 16 [.tmp 6,.tmp 7]/\G_ f246 5 2/\FN f247 14 [.tmp 4,.tmp 5]/\FN f248 46 []/\G_ f249 26 4/\G_ f250 19 4:=by(repeat' apply And.intro)<;>rfl
@[go_sem] theorem fr156:FN f251 21 [.cell 2 323,.tmp 3]/\G_ f252 9 4/\G_ f253 25 2/\FN f255 39 [.tmp 2,.tmp 3]/\G_ f256 13 4/\FN f257 134 []/\G_ f266 25 2/\FN f270 53 []/\FN f271 60 []/\FN f272 67 []/\FN f273 63 [.tmp 8,.tmp 9]/\FN f274 34 []:=by(repeat' apply And.intro)<;>rfl
@[go_sem] theorem fr168:G_ f275 141 8/\G_ f276 90 10/\FN f277 178 [.tmp 10,.tmp 11]/\G_ f278 19 2/\G_ f279 19 4/\G_ f280 15 4/\G_ f281 8 3/\FN f282 35 [.tmp 2,.tmp 3]/\G_ f283 9 4/\G_ f284 8 3/\G_ f285 47 0/\FN f286 49 [.tmp 6,.tmp 7]:=by(repeat' apply And.intro)<;>rfl
@[go_sem] theorem fr180:G_ f287 9 4/\G_ f288 19 4/\FN f289 49 []/\FN f290 56 []/\FN f291 65 []/\FN f292 57 [.tmp 6,.tmp 7]/\FN f293 32 []/\G_ f294 133 6/\G_ f295 84 8/\FN f296 168 [.tmp 8,.tmp 9]/\FN f302 82 []/\G_ f303 7 2:=by(repeat' apply And.intro)<;>rfl
@[go_sem] theorem fr192:G_ f304 33 2/\G_ f305 18 8/\G_ f306 41 12/\G_ f307 9 4/\G_ f308 9 2/\FN f309 68 []/\G_ f310 19 4/\FN f311 76 []/\G_ f312 15 6/\G_ f313 36 10/\FN f318 32 [.tmp 10,.tmp 11]/\G_ f319 19 4:=by(repeat' apply And.intro)<;>rfl
@[go_sem] theorem fr204:FN f320 93 []/\G_ f321 17 4/\FN f322 25 []/\FN f323 28 [.tmp 8,.tmp 9]/\G_ f325 8 4/\G_ f326 30 4/\FN f327 29 []/\G_ f328 8 2/\FN f329 8 []/\G_ f331 18 4:=by(repeat' apply And.intro)<;>rfl
theorem BW{α:Type}(a:α):∃b,b=a:=⟨a,rfl⟩
noncomputable def QT:(E:BZ)->(P:Program)->(ops:Array Oper)->(Q:SA->Hp->Nat->Prop)->List Oper->SA->Hp->Nat->Prop:=Classical.choose (BW Ht)
theorem QU:QT=Ht:=vg (BW Ht)
noncomputable def MP:(E:BZ)->(P:Program)->(ops:Array Oper)->(Q:SA->Hp->Nat->Prop)->List Oper->List CC->SA->Hp->Nat->Prop:=Classical.choose (BW Eh)
theorem OK:MP=Eh:=vg (BW Eh)
noncomputable def LI:(E:BZ)->(P:Program)->(N:Nat)->Code->CT->SA->Hp->Nat->Prop:=Classical.choose (BW GB)
theorem E5:LI=GB:=vg (BW GB)
noncomputable def Zz:(E:BZ)->(P:Program)->(ops:Array Oper)->(Q:SA->Hp->Nat->Prop)->List Oper->SA->Option Tmp->SV->Hp->Nat->Prop:=
 Classical.choose (BW λE P ops Q rest sa dst v h n=>QT E P ops Q rest (C1 sa dst v) h n)
@[go_sem] theorem jO(E:BZ)(P:Program)(ops:Array Oper)(Q:SA->Hp->Nat->Prop)(rest:List Oper)(sa:SA)(dst:Option Tmp)(v:SV)(h:Hp)(n:Nat):
 Zz E P ops Q rest sa dst v h n=QT E P ops Q rest (C1 sa dst v) h n:=by
 unfold Zz;rw[vg (BW λE P ops Q rest sa dst v h n=>QT E P ops Q rest (C1 sa dst v) h n)]
noncomputable def RH:(E:BZ)->(P:Program)->(N:Nat)->Code->CT->CT:=Classical.choose (BW λE P N b Q=>Dh (GB E P N b Q) Q)
theorem Kt:RH=λE P N b Q=>Dh (GB E P N b Q) Q:=vg (BW λE P N b Q=>Dh (GB E P N b Q) Q)
noncomputable def Nn:Nat->CT->CT:=Classical.choose (BW FH)
theorem JJ:Nn=FH:=vg (BW FH)
section
variable(E:BZ)(P:Program)(N:Nat)(ops:Array Oper)(a b:Code)(id:Nat)(Q:CT)(K:SA->Hp->Nat->Prop)(sa:SA)(h:Hp)(n:Nat)
@[go_sem] theorem Z0:RH E P N b Q .normal sa h n=LI E P N b Q sa h n:=by rw[Kt,E5];simp only[Dh]
@[go_sem] theorem dB:RH E P N b Q (.exit id) sa h n=Q (.exit id) sa h n:=by rw[Kt];simp only[Dh]
@[go_sem] theorem fG:RH E P N b Q .ret sa h n=Q .ret sa h n:=by rw[Kt];simp only[Dh]
@[go_sem] theorem ZE:Nn id Q .normal sa h n=Q .normal sa h n:=by rw[JJ];simp only[FH]
@[go_sem] theorem dA:Nn id Q .ret sa h n=Q .ret sa h n:=by rw[JJ];simp only[FH]
@[go_sem] theorem bN(i:Nat):Nn id Q (.exit i) sa h n=if i=id then Q .normal sa h n else Q (.exit i) sa h n:=by rw[JJ];simp only[FH]
@[go_sem] theorem iz:LI E P N .skip Q sa h n=Q .normal sa h n:=by rw[E5];simp only[GB]
@[go_sem] theorem jY:LI E P N (.seq a b) Q sa h n=LI E P N a (RH E P N b Q) sa h n:=by rw[E5,Kt];simp only[GB]
@[go_sem] theorem iv(c:Operand):LI E P N (.cond c a b) Q sa h n=match EV sa c with|.bool t=>if t=true then LI E P N a Q sa h n else LI E P N b Q sa h n|_=>False:=by rw[E5];simp only[GB]<;>cases EV sa c<;>rfl
@[go_sem] theorem fN:LI E P N (.block id b) Q sa h n=LI E P N b (Nn id Q) sa h n:=by rw[E5,JJ];simp only[GB]
@[go_sem] theorem iw:LI E P N (.exit id) Q sa h n=Q (.exit id) sa h n:=by rw[E5];simp only[GB]
@[go_sem] theorem jX:LI E P N .ret Q sa h n=Q .ret sa h n:=by rw[E5];simp only[GB]
@[go_sem] theorem ep:LI E P N (.region id ops false) Q sa h n=QT E P ops (Q .normal) ops.toList sa h n:=by rw[E5,QU];simp only[GB]
@[go_sem] theorem fO:LI E P N (.region id ops true) Q sa h n=(ED ops=true/\MP E P ops (Q .normal) ops.toList [] sa h n):=by rw[E5,OK];simp only[GB]
@[go_sem] theorem iy:LI E P N (.loop b) Q sa h n=GU E P N (.loop b) Q sa h n:=by rw[E5];simp only[GB]
@[go_sem] theorem fP(g:Operand)(ps:Array Tmp):LI E P N (.rangeFunc g ps a b) Q sa h n=GU E P N (.rangeFunc g ps a b) Q sa h n:=by rw[E5];simp only[GB]
@[go_sem] theorem i6:QT E P ops K [] sa h n=K sa h n:=by rw[QU];simp only[Ht]
@[go_sem] theorem fQ(o:Oper)(rest:List Oper):QT E P ops K (o::rest) sa h n =
 match Cz ops sa o with|some b=>if b=true then Fa E P o sa h n (Zz E P ops K rest sa o.dst)else QT E P ops K rest (C1 sa o.dst (.tup [])) h n|none=>False:=by
 unfold Zz;rw[vg (BW λE P ops Q rest sa dst v h n=>QT E P ops Q rest (C1 sa dst v) h n)];rw[QU];simp only[Ht];cases Cz ops sa o<;>rfl
@[go_sem] theorem fM(tr:List CC):MP E P ops K [] tr sa h n=K sa h n:=by rw[OK];simp only[Eh]
end
def CL(ops:Array Oper)(i:Nat)(r:CC):Nat->List CC->Bool
 | _,[]=>true
 | j,q::qs=>(DU ops j i||(DE (Aj q.wr) r.foot&&DE (Aj r.wr) q.foot&&DE (Aj q.new) r.foot))&&CL ops i r (j+1) qs
theorem Ou(a:Array Oper)(i:Nat)(r:CC):∀(l:List CC)(j:Nat),CL a i r j l=FW a i r j l
 | [],_=>rfl
 | q::qs,j=>by rw[CL,FW,Ou a i r qs,Bool.or_comm]
noncomputable def MC:(E:BZ)->(P:Program)->(ops:Array Oper)->(Q:SA->Hp->Nat->Prop)->List Oper->List CC->SA->CC->Hp->Nat->Prop:=
 Classical.choose (BW λE P ops Q rest tr sa r h n=>CL ops tr.length r 0 tr=true/\MP E P ops Q rest (tr++[r]) (C1 sa r.dst r.val) h n)
section
variable(E:BZ)(P:Program)(ops:Array Oper)(K:SA->Hp->Nat->Prop)(sa:SA)(h:Hp)(n:Nat)
@[go_sem] theorem XT(rest:List Oper)(tr:List CC)(r:CC):MC E P ops K rest tr sa r h n=(CL ops tr.length r 0 tr=true/\MP E P ops K rest (tr++[r]) (C1 sa r.dst r.val) h n):=by
 unfold MC;rw[vg (BW λE P ops Q rest tr sa r h n=>CL ops tr.length r 0 tr=true/\MP E P ops Q rest (tr++[r]) (C1 sa r.dst r.val) h n)]
def Bl(g:FuncId)(us:List SV)(rest:List Oper)(tr:List CC)(dst:Option Tmp):Prop:=
 ∃foot wr v,M7 E P g us foot wr v h/\(∀k∈Aj wr,k∈foot)/\(∀k∈foot,k<n)/\MC E P ops K rest tr sa { dst:=dst,val:=v,foot:=foot,wr:=wr } (CU h wr) n
def Wv(o:Oper)(rest:List Oper)(tr:List CC):Prop:=
 match o.op with
 | .call { callee:=.value f,args,.. }=>
  match callee (EV sa f) (args.toList.map (EV sa))with
  | some (g,us)=>Bl E P ops K sa h n g us rest tr o.dst
  | none=>False
 | op =>
  match C0 P (EV sa) h n op with
  | some out=>
   (∀k∈Aj out.upd.toList++Cs (EV sa) op,k<n)/\MC E P ops K rest tr sa { dst:=o.dst,val:=out.val,foot:=Aj out.upd.toList++Cs (EV sa) op,wr:=out.upd.toList,new:=(out.new.map λx=>(n,some x)).toList } (out.app h n) (if out.new.isSome then n+1 else n)
  | none=>∃v,LN P (EV sa) o v/\MC E P ops K rest tr sa { dst:=o.dst,val:=v } h n
@[go_sem] theorem ek(o:Oper)(rest:List Oper)(tr:List CC):MP E P ops K (o::rest) tr sa h n =
 match Cz ops sa o with|some b=>if b=true then Wv E P ops K sa h n o rest tr else MP E P ops K rest (tr++[{ dst:=o.dst,val:=.tup [] }]) (C1 sa o.dst (.tup [])) h n|none=>False:=by
 unfold Wv Bl;simp only[XT,Ou];rw[OK]
 conv=>lhs;unfold Eh
 cases Cz ops sa o<;>rfl
variable{E}
theorem Bl.pure{g:FuncId}{us:List SV}{a:List Oper}{tr:List CC}{dst:Option Tmp}{v:SV}(H:Fu P g us v)(hk:MC E P ops K a tr sa { dst:=dst,val:=v } h n):Bl E P ops K sa h n g us a tr dst:=
 ⟨[],[],v,H.u h,by simp[Aj],by simp,hk⟩
theorem Bl.lend{g:FuncId}{us bs:List SV}{a:List Oper}{tr:List CC}{dst:Option Tmp}{v:SV}(k:Nat)(foot:List Nat)(H:Fu P g bs v)(hv:Db v=true)(b:∀j∈foot,j<n)(hw:∀h',(∀j∈foot,h' j=h j)->AU (Fz h' (λ_=>none) k) us bs)
 (hk:MC E P ops K a tr sa { dst:=dst,val:=v,foot:=foot } h n):Bl E P ops K sa h n g us a tr dst:=
 ⟨foot,[],v,H.lendU k foot hv hw,by simp[Aj],b,hk⟩
end
attribute [go_sem] Wv Cs Aj Op.operands Call.operands SV.ids va List.flatMap_nil
attribute [go_sem] OT Lg Jl
abbrev PC(f:FuncId)(args:List SV)(v:SV):Prop:=Fu prog f args v
abbrev Hw(h:Hp)(n:Nat):Prop:=∀o x,h o=some x->o<n/\BH n x=true
theorem Bt{h h':Hp}{n n':Nat}{a v:SV}(c:Hw h n)(hh:∀o x,h o=some x->h' o=some x)(e:a=v)(b:C_ n v=true):Ce n h' n' a (Is v h n):=by
 subst e;exact Ce.plain b c hh ⟨rfl,rfl,rfl⟩
theorem IS{h h':Hp}{n n':Nat}{a v:SV}(k:Nat)(c:Hw h n)(hh:∀o x,h o=some x->h' o=some x)(e:Fz h' h k a v)(b:C_ n v=true):Ce n h' n' a (Is v h n):=
 .inr ⟨k,v,h,e,b,λo x e=>⟨hh o x e,c o x e⟩,rfl,rfl,rfl⟩
theorem Ar{h:Hp}{n n':Nat}{a v:SV}(c:Hw h n)(b:C_ n v=true)(e:a=v):Ce n h n' a (Is v h n):=Bt c (λ_ _ e=>e) e b
theorem Aa{h:Hp}{n o:Nat}{y:Option A9}(b:Hw h n)(hn:n<=o){h':Hp}(hh:∀o x,h o=some x->h' o=some x):∀a x,h a=some x->h_ h' o y a=some x:=by
 intro a x e;have:=(b a x e).1;have ne:a≠o:=by omega
 simp[h_,ne,hh _ _ e]
theorem AC{h:Hp}:∀o x,h o=some x->h o=some x:=λ_ _ e=>e
theorem go{E:BZ}{f:FuncId}{fn:Func}{code:Code}{args:List SV}{h:Hp}{n:Nat}{K:SV->Hp->Nat->Prop}(a:prog.funcs[f]? = some fn)(hb:fn.body=some code)
 (c:(fn.name != "runtime.NumGoroutine")=true) (hd:Code.dok fn.ntmps code=true) (b:args.length<=fn.ntmps)
 (H:Hw h n->LI (E.call false 0) prog fn.ntmps code (OT prog fn n K) (D7 0 args) h n):Ab E prog f args h n K:=
 U3 follows a hb c hd b λ_ d=>by rw[<-E5];exact H d
theorem gq{E:BZ}{f:FuncId}{fn:Func}{code:Code}{args:List SV}{h:Hp}{n:Nat}{K:SV->Hp->Nat->Prop}(a:prog.funcs[f]? = some fn)(hb:fn.body=some code)
 (H:Hw h n->LI (E.call false 0) prog fn.ntmps code (OT prog fn n K) (D7 0 args) h n)
 (c:(fn.name != "runtime.NumGoroutine")=true:=by kernel_rfl) (hd:Code.dok fn.ntmps code=true:=by kernel_rfl) (b:args.length<=fn.ntmps:=by simp[go_sem]):Ab E prog f args h n K:=
 go a hb c hd b H
theorem BC{E:BZ}{N:Nat}{x:Code}{Q:CT}{sa:SA}{h:Hp}{n:Nat}{α:Type}(k:Nat)(fr:α->SA)(hp:α->Hp)(I:α->Nat->Prop)(μ:α->Nat)(a0:α)(hI:I a0 n)
 (c:∀p∈fr a0,Fz h (hp a0) k (look sa p.1) p.2) (d:∀o y,hp a0 o=some y->h o=some y)
 (b:∀a n,I a n->LI E prog N x (Dh (λe h' n'=>∃a',μ a'<μ a/\I a' n'/\(∀p∈fr a',Fz h' (hp a') k (look e p.1) p.2)/\(∀o y,hp a' o=some y->h' o=some y)) Q) (fr a) (hp a) n):
 GU E prog N (.loop x) Q sa h n:=
 Vp follows k fr hp I μ a0 hI c d λa n f=>by rw[<-E5];exact b a n f
@[go_sem] theorem ab(K:SA->Hp->Nat->Prop)(Q:CT):Dh K Q .normal=K:=rfl
@[go_sem] theorem eN(K:SA->Hp->Nat->Prop)(Q:CT)(i:Nat):Dh K Q (.exit i)=Q (.exit i):=rfl
@[go_sem] theorem fJ(K:SA->Hp->Nat->Prop)(Q:CT):Dh K Q .ret=Q .ret:=rfl
attribute [go_sem] C_ c_
theorem nd{a:Array Oper}{i j:Nat}{r:CC}{l:List CC}{R:Prop}(h:CL a i r j l=true)(hr:R):CL a i r j l=true/\R:=⟨h,hr⟩
theorem sd{a:Array Oper}{R:Prop}(h:ED a=true)(hr:R):ED a=true/\R:=⟨h,hr⟩
theorem EU{x:Int}(h0:-4611686018427387904<=x)(h1:x<=4611686018427387904):IntKind.i64.wrap x=x:=IntWalk.i64_in x mq
theorem nq{a:Array Oper}{i j:Nat}{r:CC}{l:List CC}{R:Prop}(hr:R)(h:CL a i r j l=true:=by kernel_rfl):CL a i r j l=true/\R:=⟨h,hr⟩
theorem sq{a:Array Oper}{R:Prop}(hr:R)(h:ED a=true:=by kernel_rfl):ED a=true/\R:=⟨h,hr⟩
theorem aq{a R:Prop}(hr:R)(h:a:=by omega):a/\R:=⟨h,hr⟩
theorem wS(i:Nat)(h:i<4611686018427387904):IntKind.i64.wrap ((i:Int)+1)=((i+1:Nat):Int):=by rw[EU]<;>omega
theorem Hw.lt{h:Hp}{n:Nat}(a:Hw h n):∀j y,h j=some y->j<n:=λj y e=>(a j y e).1
theorem PC.use{E:BZ}{f:FuncId}{args:List SV}{v:SV}(H:PC f args v){h:Hp}{n:Nat}{K:SV->Hp->Nat->Prop}(hk:K v h n):Ab E prog f args h n K:=Fu.use H hk
theorem WK{s:ByteArray}{i:Nat}(h:i<s.size):s[i]? = some s[i]:=getElem?_pos s i h
set_option maxRecDepth 10000
def NU(b:Int):Int:=if b=224 then 160 else if b=240 then 144 else 128
def J1(b:Int):Int:=if b=237 then 159 else if b=244 then 143 else 191
def FI(b:Int):Int:=if b<128 then 1 else if b<194\/244<b then 0 else if b<224 then 2 else if b<240 then 3 else 4
theorem kY(b:Int):PC 161 [.int .u8 b] (.tup [.int .u8 (NU b),.int .u8 (J1 b),.int .i64 (FI b)]):=by
 intro h n;refine gq func161 rfl λj=>?_;by_cases h1:b<128<;>by_cases h2:b<194<;>by_cases a:244<b<;>by_cases c:b<224<;>by_cases d:b<240<;>by_cases e:b=224<;>by_cases f:b=237<;>by_cases g:b=240<;>by_cases i:b=244<;>try omega
 all_goals
  simp[go_sem,h1,h2,a,c,d,e,f,g,i,NU,J1,FI];exact Ar j rfl mr
def BN(s:ByteArray)(i:Nat):Int:=match s[i]? with|some b=>b.toNat|none=>0
def Gl(s:ByteArray)(a n:Nat):Nat->Int->Int->Nat->Nat×Bool
 | 0,_,_,k=>(k,true)
 | f+1,lo,hi,k=>if s.size<=a+k\/BN s (a+k)<lo\/hi<BN s (a+k)then(k,false)else Gl s a n f 128 191 (k+1)
def CX(s:ByteArray)(a:Nat):Nat×Bool:=
 let b:=BN s a
 let n:=FI b
 if n=0 then(0,false)else if n=1 then(1,true)else Gl s a n.toNat (n.toNat-1) (NU b) (J1 b) 1
theorem Fd{s:ByteArray}{i:Nat}(h:i<s.size):s[i]? = some s[i]/\BN s i=s[i].toNat:=by
 have:=WK h;simp[BN,this]
theorem Og(b:Int):0<=FI b/\FI b<=4:=by unfold FI;repeat' split<;>omega
theorem kQ(s:ByteArray)(a:Nat)(y:a<s.size)(hs:s.size<=1099511627776):PC 101 [.str s,.int .i64 a] (.tup [.junk,.int .i64 (CX s a).1,.bool (CX s a).2]):=by
 intro h n;refine gq func101 rfl λi=>?_;obtain⟨w,x⟩:=Fd y;simp[go_sem,w,<-x];refine(kY _).use ?_;obtain⟨l,u⟩:=Og (BN s a);simp[go_sem,l];by_cases h0:FI (BN s a)=0;simp[h0];exact IS 3 i AC (by simp[Fz,AU,CX,h0]) rfl;by_cases h1:FI (BN s a)=1;simp[h1];exact IS 3 i AC (by simp[Fz,AU,CX,h1]) rfl;have v:CX s a=Gl s a (FI (BN s a)).toNat ((FI (BN s a)).toNat-1) (NU (BN s a)) (J1 (BN s a)) 1:=by simp[CX,h0,h1]
 obtain⟨z,B⟩:∃z:Nat,FI (BN s a)=z:=⟨(FI (BN s a)).toNat,by omega⟩
 rw[B]at v h0 h1 l u ⊢;simp only[h0,h1,if_false];rw[v];simp only[Int.toNat_natCast];generalize IntKind.i64.wrap _=p0;refine BC 3 (α:=Int×Int×Int×Nat) (λq=>[(0,.str s),(1,.int .i64 a),(4,.int .i64 q.1),(5,.int .i64 q.2.2.2),(8,.int .u8 q.2.1),(9,.int .u8 q.2.2.1),(10,.int .i64 z)]) (λ_=>h)
  (λq m=>n<=m/\1<=q.2.2.2/\q.2.2.2<=z/\Gl s a z (z-1) (NU (BN s a)) (J1 (BN s a)) 1=Gl s a z (z-q.2.2.2) q.2.1 q.2.2.1 q.2.2.2) (λq=>z-q.2.2.2) (p0,NU (BN s a),J1 (BN s a),1) ?_ ?_ AC ?_
 exact⟨IO _,by simp,by simp;omega,rfl⟩;simp[look];rintro⟨p,lo,hi,k⟩ m ⟨hm,t,j,d⟩;by_cases g:k<z;obtain⟨f,A⟩:∃f,z-k=f+1:=⟨z-k-1,by omega⟩
 have hk:z-(k+1)=f:=by omega
 have o:IntKind.i64.wrap ((a:Int)+k)=((a+k:Nat):Int):=by rw[EU]<;>omega
 have C:=wS k mq;dsimp only at d t j;rw[A,Gl]at d;by_cases b:s.size<=a+k;simp[go_sem,g,o,b,-Int.natCast_add];exact IS 3 i AC (by simp[Fz,AU,d,b]) rfl;obtain⟨g1,r⟩:=Fd (wp b);by_cases c:BN s (a+k)<lo;simp[go_sem,g,o,b,g1,<-r,c,-Int.natCast_add];exact IS 3 i AC (by simp[Fz,AU,d,c]) rfl;by_cases e:hi<BN s (a+k);simp[go_sem,g,o,b,g1,<-r,c,e,-Int.natCast_add];exact IS 3 i AC (by simp[Fz,AU,d,e]) rfl;simp[go_sem,g,o,C,b,g1,<-r,c,e,-Int.natCast_add];rw[mw (by simp only[not_or];exact⟨b,c,e⟩)]at d;refine⟨_,128,191,k+1,by omega,⟨hm,by omega,by omega,by rw[hk];exact d⟩,Or,Or,Or,Or⟩;have:k=z:=by dsimp only at j;omega
 subst this;simp[go_sem];rw[Nat.sub_self,Gl]at d;exact IS 3 i AC (by simp[Fz,AU,d]) rfl
theorem LR(s:ByteArray)(a n:Nat):∀(f:Nat)(lo hi:Int)(k:Nat),k<=(Gl s a n f lo hi k).1/\(Gl s a n f lo hi k).1<=k+f
 | 0,_,_,k=>by simp[Gl]
 | f+1,lo,hi,k=>by
  rw[Gl];split;simp;have:=LR s a n f 128 191 (k+1);omega
theorem Ki{s:ByteArray}{a:Nat}(h:(CX s a).2=true):1<=(CX s a).1:=by
 simp only[CX]at h ⊢;split;rename_i e;simp[e]at h;split;exact IO _;exact(LR _ _ _ _ _ _ _).1
theorem Qy(s:ByteArray)(a:Nat):(CX s a).1<=4:=by
 simp only[CX];split;simp;split;simp;have:=(LR s a (FI (BN s a)).toNat ((FI (BN s a)).toNat-1) (NU (BN s a)) (J1 (BN s a)) 1).2;have:=Og (BN s a);omega
def H7(s:ByteArray)(a:Nat):Int:=
 if _:a<s.size then if _:(CX s a).2=true then H7 s (a+(CX s a).1)else a else -1
termination_by s.size-a
decreasing_by
 rename_i h2
 have:=Ki h2;omega
def Ci(s:ByteArray):Bool:=decide (H7 s 0<0)
theorem kC(s:ByteArray)(d:s.size<=1099511627776):PC 41 [.str s] (.int .i64 (H7 s 0)):=by
 intro h n;refine gq func41 rfl λc=>?_;simp[go_sem];refine BC 1 (α:=Nat) (λk=>[(0,.str s),(3,.int .i64 k)]) (λ_=>h) (λk m=>n<=m/\k<=s.size+4/\H7 s 0=H7 s k) (λk=>s.size+4-k) 0 ?_ ?_ AC ?_;exact⟨IO _,by omega,rfl⟩;simp[look];rintro k m ⟨hm,hk,b⟩;by_cases a:k<s.size;simp[go_sem,a];refine(kQ s k a d).use ?_;have hp:=@Ki s k;have hl:=Qy s k;have w:IntKind.i64.wrap ((k:Int)+((CX s k).1:Int))=((k+(CX s k).1:Nat):Int):=by rw[EU]<;>omega
 rw[H7.eq_def s k]at b;by_cases hd:(CX s k).2=true;simp[a,hd]at b;simp[go_sem,hd,w,-Int.natCast_add];have:=hp hd;exact⟨k+(CX s k).1,by omega,⟨hm,by omega,b⟩,Or⟩;simp[a,hd]at b;simp[go_sem,hd];exact Ar c rfl (by rw[b]);simp[go_sem,a];rw[H7.eq_def s k]at b;simp[a]at b;exact Ar c rfl (by rw[b])
theorem WP(s:ByteArray)(b:s.size<=1099511627776):PC 16 [.str s] (.bool (Ci s)):=by
 intro h n;refine gq func16 rfl λa=>?_;simp[go_sem];refine(kC s b).use ?_;simp[go_sem];exact Ar a rfl (by simp[Ci])
def NS(b:Int):Bool:=!(IntKind.u8.wrap (BitVec.ofInt 8 b &&& BitVec.ofInt 8 192).toNat==128)
def D9(s:ByteArray):Nat->Nat
 | 0=>0
 | k+1=>D9 s k+if NS (BN s k)then 1 else 0
theorem NT(s:ByteArray):∀k,D9 s k<=k
 | 0=>IO _
 | k+1=>by have:=NT s k;simp only[D9];split<;>omega
theorem kA(s:ByteArray)(e:s.size<=1099511627776):PC 38 [.str s] (.tup [.int .i64 (if Ci s then D9 s s.size else 0),.int .i64 (if Ci s then 0 else 12)]):=by
 intro h n;refine gq func38 rfl λc=>?_;simp[go_sem];refine(WP s e).use ?_;by_cases hv:Ci s=true;simp[go_sem,hv];refine BC 1 (α:=Nat) (λk=>[(0,.str s),(2,.int .i64 (D9 s k)),(9,.int .i64 s.size),(10,.int .i64 k)]) (λ_=>h) (λk m=>n<=m/\k<=s.size) (λk=>s.size-k) 0 ?_ ?_ AC ?_;exact⟨IO _,by omega⟩;simp[look,D9];rintro k m ⟨hm,hk⟩;by_cases a:k<s.size;obtain⟨g1,d⟩:=Fd a;have hl:=NT s k;have f:=wS k mq;have g:IntKind.i64.wrap ((D9 s k:Int)+1)=((D9 s k+1:Nat):Int):=by rw[EU]<;>omega
 simp[go_sem,a,<-d,f,g,-Int.natCast_add];split;rename_i hh;have b:NS (BN s k)=false:=by simp only[NS,Bool.not_eq_false',beq_iff_eq];exact hh
 exact⟨k+1,by omega,⟨hm,by omega⟩,by simp[D9,b],Or⟩;rename_i hh;have b:NS (BN s k)=true:=by simp only[NS,qS,beq_eq_false_iff_ne];exact hh
 exact⟨k+1,by omega,⟨hm,by omega⟩,by simp[D9,b],Or⟩;have:k=s.size:=by omega
 subst this;simp[go_sem];exact Ar c rfl mr;simp[go_sem,hv];exact Ar c rfl mr
def AZ(z:Nat)(o:Option Nat)(es:List SV):SV:=match o with|none=>.y 0 [] true|some j=>.sl j 0 z es.length false
def Ae(o:Option Nat)(es:List SV)(h:Hp):Hp:=match o with|none=>h|some j=>h_ h j (some (.cells (es.flatMap SV.cells)))
structure CD(n m z:Nat)(o:Option Nat)(es:List SV):Prop where
 none:o=Option.none->es=[]
 lt:∀j,o=some j->n<=j/\j<m
 size:∀e∈es,e.B=true/\e.cells.length=z
theorem CD.nil(n m z:Nat):CD n m z Option.none []:=⟨λ_=>rfl,by simp,by simp⟩
theorem Bq{z:Nat}:∀{es:List SV},(∀e∈es,e.B=true/\e.cells.length=z)->(es.flatMap SV.cells).length=es.length*z
 | [],_=>by simp
 | e::es,h=>by
  have:=Bq (es:=es) (z:=z) λx a=>h x (by simp[a]);simp[this,(h e mr).2,wi,Nat.add_comm]
theorem CD.push{n m m' z:Nat}{o:Option Nat}{es:List SV}{e:SV}{j:Nat}(H:CD n m z o es)(c:e.B=true)(b:e.cells.length=z)(h1:n<=j)(h2:j<m'):CD n m' z (some j) (es++[e]):=
 ⟨by simp,by rintro k e;cases e;exact⟨h1,h2⟩,by intro x a;simp at a;rcases a with a|rfl;exact H.size x a;exact⟨c,b⟩⟩
theorem CD.mono{n m m' z:Nat}{o:Option Nat}{es:List SV}(H:CD n m z o es)(hm:m<=m'):CD n m' z o es:=⟨H.none,λj e=>⟨(H.lt j e).1,wC (H.lt j e).2 hm⟩,H.size⟩
theorem Hw.none{h:Hp}{n j:Nat}(a:Hw h n)(hj:n<=j):h j=none:=by
 cases e:h j with
 | none=>rfl
 | some x=>have:=(a j x e).1;omega
theorem Ae.old{h:Hp}{n m z:Nat}{o:Option Nat}{es:List SV}(a:Hw h n)(H:CD n m z o es):∀j x,h j=some x->Ae o es h j=some x:=by
 cases o with
 | none=>exact λ_ _ e=>e
 | some k=>exact Aa a (H.lt k rfl).1 AC
theorem AE(h:Hp)(j:Nat)(x:Option A9):h_ h j x j=x:=by simp[h_]
theorem AD(h:Hp){j k:Nat}(x:Option A9)(e:k≠j):h_ h j x k=h k:=by simp[h_,e]
theorem AZ.fz{h:Hp}{n m z k:Nat}{o:Option Nat}{es:List SV}(c:Hw h n)(H:CD n m z o es){h':Hp}(hh:∀j y,Ae o es h j=some y->h' j=some y):Fz h' h (k+1) (AZ z o es) (.y z es false):=by
 cases o with
 | none=>rw[H.none rfl];exact .inr ⟨by simp,.inl rfl,trivial,by simp⟩
 | some j =>
  have b:=hh j (.cells (es.flatMap SV.cells)) (by simp[Ae,h_]);refine .inr ⟨c.none (H.lt j rfl).1,by simp,rfl,rfl,_,_,b,by simp[Cb,Bq H.size];rfl,H.size,?_⟩;have:∀l:List SV,AU (Fz h' h k) l l:=by
   intro l;induction l with
   | nil=>trivial
   | cons a l ih=>exact⟨Or,ih⟩
  simp only[<-Bq H.size,qp];exact this _
section
variable{P:Program}
end
abbrev AA:Int->SV:=.int .i64
structure Fp where
 key:Int
 value:Int
 deriving DecidableEq
structure Di where
 rev:Int
 move:Int
 deriving DecidableEq
structure A3 where
 rev:Int
 key:Int
 before:Int
 had:Bool
 deriving DecidableEq
structure AG where
 Q:List Fp
 I:Int
 move:Int
 Y:List Di
 Z:List A3
 deriving DecidableEq
structure By where
 id:Int
 O:ByteArray
 time:Int
 deriving DecidableEq
structure Ao where
 id:Int
 x:Int
 name:ByteArray
 base:Int
 next:Int
 Q:List Fp
 deriving DecidableEq
structure Cq where
 format:Int
 start:Int
 template:ByteArray
 restart:Int
 deriving DecidableEq
structure FT where
 id:Int
 levels:List Cq
 deriving DecidableEq
structure AR where
 id:Int
 parent:Int
 O:ByteArray
 time:Int
 J:ByteArray
 done:Bool
 deriving DecidableEq
structure Ge where
 name:ByteArray
 value:ByteArray
 deriving DecidableEq
structure AQ where
 A:List Ao
 L:List FT
 C:List AR
 vars:List Ge
 deriving DecidableEq
mutual
inductive AB where
 | mk (kind code id:Int) (text:ByteArray) (head:AG) (flow:List AB) (rows:List AL)
inductive AL where
 | mk (head:AG) (cells:List AF)
inductive AF where
 | mk (id:Int) (head:AG) (flow:List AB)
end
structure AI where
 W:List AB
 T0 : AG
 V:List By
 S:AQ
def Fp.h(p:Fp):SV:=.agg [AA p.key,AA p.value]
def Di.h(p:Di):SV:=.agg [AA p.rev,AA p.move]
def A3.h(p:A3):SV:=.agg [AA p.rev,AA p.key,AA p.before,.bool p.had]
abbrev AO(l:List Fp):SV:=.y 2 (l.map Fp.h) false
abbrev AX(l:List Di):SV:=.y 2 (l.map Di.h) false
abbrev AN(l:List A3):SV:=.y 4 (l.map A3.h) false
def AG.j(h:AG):List SV:=[AO h.Q,AA h.I,AA h.move,AX h.Y,AN h.Z]
def AG.h(h:AG):SV:=.agg h.j
def By.h(r:By):SV:=.agg [AA r.id,.str r.O,AA r.time]
abbrev BV(l:List By):SV:=.y 3 (l.map By.h) false
def Ao.h(s:Ao):SV:=.agg [AA s.id,AA s.x,.str s.name,AA s.base,AA s.next,AO s.Q]
def Cq.h(l:Cq):SV:=.agg [AA l.format,AA l.start,.str l.template,AA l.restart]
abbrev DP(l:List Cq):SV:=.y 4 (l.map Cq.h) false
def FT.h(l:FT):SV:=.agg [AA l.id,DP l.levels]
def AR.h(c:AR):SV:=.agg [AA c.id,AA c.parent,.str c.O,AA c.time,.str c.J,.bool c.done]
def Ge.h(v:Ge):SV:=.agg [.str v.name,.str v.value]
abbrev AT(l:List Ao):SV:=.y 6 (l.map Ao.h) false
abbrev Bi(l:List FT):SV:=.y 2 (l.map FT.h) false
abbrev Af(l:List AR):SV:=.y 6 (l.map AR.h) false
abbrev CA(l:List Ge):SV:=.y 2 (l.map Ge.h) false
def AQ.j(s:AQ):List SV:=[AT s.A,Bi s.L,Af s.C,CA s.vars]
def AQ.h(s:AQ):SV:=.agg s.j
mutual
def AB.h:AB->SV
 | .mk k c i t h f r=>.agg ([AA k,AA c,AA i,.str t]++h.j++[.y 11 (AB.encL f) false,.y 6 (AL.encL r) false])
def AB.encL:List AB->List SV
 | []=>[]
 | x::l=>x.h::AB.encL l
def AL.h:AL->SV
 | .mk h c=>.agg (h.j++[.y 7 (AF.encL c) false])
def AL.encL:List AL->List SV
 | []=>[]
 | x::l=>x.h::AL.encL l
def AF.h:AF->SV
 | .mk i h f=>.agg ([AA i]++h.j++[.y 11 (AB.encL f) false])
def AF.encL:List AF->List SV
 | []=>[]
 | x::l=>x.h::AF.encL l
end
theorem AB.encL_eq(l:List AB):AB.encL l=l.map AB.h:=by induction l with|nil=>rfl|cons a l ih=>rw[AB.encL,ih];rfl
theorem AL.encL_eq(l:List AL):AL.encL l=l.map AL.h:=by induction l with|nil=>rfl|cons a l ih=>rw[AL.encL,ih];rfl
theorem AF.encL_eq(l:List AF):AF.encL l=l.map AF.h:=by induction l with|nil=>rfl|cons a l ih=>rw[AF.encL,ih];rfl
abbrev AH(l:List AB):SV:=.y 11 (l.map AB.h) false
abbrev Au(l:List AL):SV:=.y 6 (l.map AL.h) false
abbrev BS(l:List AF):SV:=.y 7 (l.map AF.h) false
def AB.x:AB->Int|.mk k _ _ _ _ _ _=>k
def AB.code:AB->Int|.mk _ c _ _ _ _ _=>c
def AB.id:AB->Int|.mk _ _ i _ _ _ _=>i
def AB.J:AB->ByteArray|.mk _ _ _ t _ _ _=>t
def AB.H:AB->AG|.mk _ _ _ _ h _ _=>h
def AB.W:AB->List AB|.mk _ _ _ _ _ f _=>f
def AB.R:AB->List AL|.mk _ _ _ _ _ _ r=>r
def AL.H:AL->AG|.mk h _=>h
def AL.cells:AL->List AF|.mk _ c=>c
def AF.id:AF->Int|.mk i _ _=>i
def AF.H:AF->AG|.mk _ h _=>h
def AF.W:AF->List AB|.mk _ _ f=>f
theorem AB.zp(x:AB):x.h=.agg [AA x.x,AA x.code,AA x.id,.str x.J,AO x.H.Q,AA x.H.I,AA x.H.move,AX x.H.Y,AN x.H.Z,AH x.W,Au x.R]:=by
 cases x;simp[AB.h,AG.j,AB.encL_eq,AL.encL_eq];exact⟨rfl,rfl,rfl,rfl,rfl,rfl,rfl,rfl,rfl,rfl,rfl⟩
theorem AL.zp(x:AL):x.h=.agg [AO x.H.Q,AA x.H.I,AA x.H.move,AX x.H.Y,AN x.H.Z,BS x.cells]:=by
 cases x;simp[AL.h,AG.j,AF.encL_eq];exact⟨rfl,rfl,rfl,rfl,rfl,rfl⟩
theorem AF.zp(x:AF):x.h=.agg [AA x.id,AO x.H.Q,AA x.H.I,AA x.H.move,AX x.H.Y,AN x.H.Z,AH x.W]:=by
 cases x;simp[AF.h,AG.j,AB.encL_eq];exact⟨rfl,rfl,rfl,rfl,rfl,rfl,rfl⟩
end Go.Proofs.YthinbkgpjmjfeaaGreatDoor.Sh
