/- A part of the proof (part 3 of 17). -/
import Derived.Test.YtgakninlhfkkmaaGreatM2
import Derived.Test.YtgakninlhfkkmaaGreatProg
import Derived.KernelRfl
import Derived.Tactics
import Derived.IntWalk
namespace Go.Proofs.YtgakninlhfkkmaaGreat.Sh
abbrev IO:=@Fz.same
abbrev kS:=@Ak.mono
abbrev ke:=@Fq.refl
def Nn (f:Nat->SV):Operand->SV
 | .tmp t=>f t
 | .const v=>ofValue v
 | .global _=>.junk
 | .func g=>.fn (.func g) [] []
theorem QI (sa:SA):Gp sa=Nn (Ai sa):=by funext x;cases x<;>rfl
def Fu (ops:Array Oper) (f:Nat->SV) (o:Oper):Option Bool:=
 match o.guard with
 | none=>some true
 | some (j,want)=>
  match(ops[j]?).bind (·.dst)with
  | some d=>match f d with|.bool b=>some (b==want)|.tup []=>some false|_=>none
  | none=>none
theorem Id (ops:Array Oper) (sa:SA) (o:Oper):Dg ops sa o=Fu ops (Ai sa) o:=rfl
structure Sa (E:B6) (N:Nat) (f:Nat->SV) (c:Cx) (a:Act):Prop where
 size:a.tmps.size=N
 defers:OO E c a.defers
 val:∀t,V c (f t) (a.tmps.getD t undef)
structure CR where
 dst:Option Tmp
 val:SV
 foot:List Nat:=[]
 wr:List (Nat×Option BT):=[]
 new:List (Nat×Option BT):=[]
def CR.tw (r:CR):List (Nat×SV):=r.dst.toList.map λd=>(d,r.val)
def CR.hw (r:CR):List (Nat×Option BT):=r.wr++r.new
def Ju (E:B6) (P:Program) (N:Nat) (o:Oper) (f:Nat->SV) (h:Hp) (n:Nat) (r:CR):Prop:=
 ∀(f':Nat->SV) (h':Hp) (c:Cx) (a:Act) (Kr:Act->World->Prop) (Qr:Exit->Act->World->Prop),(∀x∈o.op.operands,Nn f' x=Nn f x)->(∀j∈r.foot,h' j=h j)->E.inv c->Bn h' c->Fr n c->
  (∀j∈Aq r.new,c.ρ j=none)->Sa E N f' c a->
  (∀c' u,V c' r.val u->Bn (CN h' r.hw) c'->Fr n c'->DZ c c'->(∀j,j∉Aq r.new->c'.ρ j=c.ρ j)->Kr (a.put o.dst u) c'.w)->o.wpIn E.fc 0 P a c.w Kr Qr
def K8 (E:B6) (P:Program) (g:FuncId) (aS:List SV) (foot:List Nat) (wr:List (Nat×Option BT)) (v:SV) (h:Hp):Prop:=
 ∀(h':Hp) (n:Nat),(∀j∈foot,h' j=h j)->Ak E P g aS h' n λv' h2 n2=>v'=v/\h2=CN h' wr/\n2=n
def Ex (ops:Array Oper) (j i:Nat):Bool:=match ops[i]? with|some o=>o.after.any λe=>Region.binds .any e&&e.on==j|none=>false
def FA (ops:Array Oper):Bool:=(List.range ops.size).all λi=>
 match ops[i]? with
 | some oi=>(oi.after.all λe=>!Region.binds .any e||decide (e.on<i))&&(List.range i).all λj=>Ex ops j i||(match ops[j]? with|some oj=>oj.apart ops oi|none=>true)
 | none=>true
theorem N9 {ops:Array Oper} (h:FA ops=true) {i:Nat} {oi:Oper} (hi:ops[i]? = some oi):∀e∈oi.after,Region.binds .any e=true->e.on<i:=by
 intro e he hb;have hlt:=(qp.1 hi).1;have:=jj.1 h i (List.mem_range.2 hlt);simp only[hi,qq]at this;have:=Array.all_eq_true'.1 this.1 e he;simpa[hb]using this
theorem Gs {ops:Array Oper} (h:FA ops=true) {i j:Nat} {oi oj:Oper} (hi:ops[i]? = some oi) (hj:ops[j]? = some oj) (hji:j<i) (hd:Ex ops j i=false):oj.apart ops oi=true:=by
 have hlt:=(qp.1 hi).1;have:=jj.1 h i (List.mem_range.2 hlt);simp only[hi,qq]at this;have:=jj.1 this.2 j (List.mem_range.2 hji);simpa[hd,hj]using this
structure Qn (E:B6) (P:Program) (N:Nat) (ops:Array Oper) (f0:Nat->SV) (h0:Hp) (n0 n:Nat) (rs:List CR):Prop where
 len:rs.length=ops.size
 stat:FA ops=true
 dok:∀(i:Nat) (o:Oper),ops[i]? = some o->∀d,o.dst=some d->d<N
 ok:∀(i:Nat) (o:Oper) (r:CR),ops[i]? = some o->rs[i]? = some r->r.dst=o.dst/\(∀j∈Aq r.wr,j∈r.foot)/\
  ((Fu ops (EV (rs.map CR.tw) (λq=>decide (q<i)) 0 f0) o=some false/\r.val=.tup []/\r.foot=[]/\r.wr=[]/\r.new=[])\/
   (Fu ops (EV (rs.map CR.tw) (λq=>decide (q<i)) 0 f0) o=some true/\
    Ju E P N o (EV (rs.map CR.tw) (λq=>decide (q<i)) 0 f0) (EV (rs.map CR.hw) (λq=>decide (q<i)) 0 h0) n r))
 ind:∀(i j:Nat) (ri rj:CR),j<i->rs[i]? = some ri->rs[j]? = some rj->Ex ops j i=false->
  (∀k∈Aq rj.wr,k∉ri.foot)/\(∀k∈Aq ri.wr,k∉rj.foot)/\(∀k∈Aq rj.new,k∉ri.foot)
 newlo:∀(i:Nat) (r:CR),rs[i]? = some r->∀k∈Aq r.new,n0<=k/\k<n
 newne:∀(i j:Nat) (ri rj:CR),i≠j->rs[i]? = some ri->rs[j]? = some rj->∀k∈Aq ri.new,k∉Aq rj.new
 newfoot:∀(i j:Nat) (ri rj:CR),j<=i->rs[i]? = some ri->rs[j]? = some rj->∀k∈Aq ri.new,k∉rj.foot
section
variable {E : B6} {P : Program} {N : Nat} {ops : Array Oper} {f0 : Nat → SV} {h0 : Hp} {n0 n : Nat} {rs : List CR}
theorem LX {f:Nat->SV} {c:Cx} {a:Act} {o:Oper} {b:Bool} (F:Sa E N f c a) (hg:Fu ops f o=some b):Region.wanted o (yielded ops a.tmps)=b:=by
 unfold Fu at hg;unfold Region.wanted;split at hg;rename_i e;rw[e];simpa using hg
 . rename_i j want e;rw[e];split at hg<;>try cases hg
   rename_i d hd;split at hg<;>try cases hg
   rename_i b' hb;have hv:=F.val d;rw[hb]at hv;have:=Gm hv;simp only[yielded,hd,qJ];have hget:a.tmps[d]? = some (.bool b'):=by
    rcases ji d a.tmps.size with hl|hl;rw[qZ,jd hl]at this;rw[jd hl];simpa using this;rw[qZ,jg hl]at this;cases this
   rw[hget];simp;rename_i hb;have hv:=F.val d;rw[hb,V]at hv;obtain⟨vs,hv,_⟩:=hv;simp only[yielded,hd,qJ];rcases ji d a.tmps.size with hl|hl;rw[qZ,jd hl]at hv;rw[jd hl];simp only[Option.getD_some]at hv;rw[hv];rfl;rw[jg hl];rfl
theorem OE {r:CR} {t:Nat}:t∈Aq r.tw↔r.dst=some t:=by
 unfold CR.tw Aq;cases h:r.dst<;>simp[eq_comm]
theorem Sa.put {f:Nat->SV} {c:Cx} {a:Act} (h:Sa E N f c a) {r:CR} (hd:∀d,r.dst=some d->d<N) {u:Value} (hv:V c r.val u):Sa E N (CN f r.tw) c (a.put r.dst u):=by
 unfold CR.tw;cases e:r.dst with
 | none=>exact h
 | some d=>
  refine⟨by simpa[Act.put]using h.size,h.defers,λt=>?_⟩;simp only[Option.toList_some,qu,qS,CN,qM,List.foldl_nil,Sg,Act.put];by_cases et:t=d;subst et;have:=hd t e;have hs:=h.size;simp[hs,this,hv];simp only[et,if_false];have:=h.val t;simpa[jH (Ne.symm et)]using this
structure At (E:B6) (P:Program) (N:Nat) (ops:Array Oper) (f0:Nat->SV) (h0:Hp) (n0 n:Nat) (rs:List CR) (c0:Cx) (listed:Array Bool) (c:Cx) (a:Act):Prop where
 size:listed.size=ops.size
 closed:∀(i:Nat) (o:Oper),ops[i]? = some o->listed.getD i false=true->∀e∈o.after,Region.binds .any e=true->listed.getD e.on false=true
 inv:E.inv c
 rel:Bn (EV (rs.map CR.hw) (λq=>listed.getD q false) 0 h0) c
 fr:Sa E N (EV (rs.map CR.tw) (λq=>listed.getD q false) 0 f0) c a
 free:Fr n c
 ext:DZ c0 c
 same:∀j,j<n0->c.ρ j=c0.ρ j
 new:∀(i:Nat) (r:CR),rs[i]? = some r->listed.getD i false=false->∀k∈Aq r.new,c.ρ k=none
theorem Gc {listed:Array Bool} {i:Nat} (h:i<listed.size) (b:Bool):listed.getD i b=listed[i]:=by simp[Array.getD,h]
theorem Rl (G:Qn E P N ops f0 h0 n0 n rs) {c0 c:Cx} {listed:Array Bool} {a:Act} (A:At E P N ops f0 h0 n0 n rs c0 listed c a) {i:Nat} (hi:i∈Region.ready .any ops listed)
 {Qr:Exit->Act->World->Prop} {Kr:Act->World->Prop} (hK:∀c' a',At E P N ops f0 h0 n0 n rs c0 (listed.setIfInBounds i true) c' a'->Kr a' c'.w):wpOpIn E.fc 0 P ops Qr i Kr a c.w:=by
 obtain⟨hun,o,ho,hall⟩:=mem_ready.1 hi;have hlt:=(qp.1 ho).1;have hunF:listed.getD i false=false:=by rw[Gc (by rw[A.size];exact hlt)]at hun ⊢;exact hun
 obtain⟨r,hr⟩:∃r,rs[i]? = some r:=⟨rs[i]'(by rw[G.len];exact hlt),by simp⟩
 obtain⟨hdst,hwf,hok⟩:=G.ok i o r ho hr;have lsel:∀{α:Type} (g:CR->List (Nat×α)) (q:Nat) (w:List (Nat×α)),(rs.map g)[q]? = some w->∃rq,rs[q]? = some rq/\w=g rq:=λg q w hq=>by
  simp only[qO,qX]at hq;obtain⟨rq,h1,rfl⟩:=hq;exact⟨rq,h1,rfl⟩
 have oq:∀(q:Nat) (rq:CR),rs[q]? = some rq->∃oq,ops[q]? = some oq:=λq rq hq=>⟨ops[q]'(by rw[<-G.len];exact(qo.1 hq).1),by simp⟩
 have e1:∀q,listed.getD q false=false->Ex ops q i=false:=λq hq=>by
  unfold Ex;rw[ho];simp only;rw[Array.any_eq_false'];intro e he;rw[qq,beq_iff_eq];rintro⟨hb,rfl⟩;rw[hall e he hb]at hq;cases hq
 have e2:∀q,listed.getD q false=true->Ex ops i q=false:=λq hq=>by
  unfold Ex;cases hoq:ops[q]? with
  | none=>rfl
  | some oq=>
   simp only;rw[Array.any_eq_false'];intro e he;rw[qq,beq_iff_eq];rintro⟨hb,rfl⟩;have:=A.closed q oq hoq hq e he hb;rw[hunF]at this;cases this
 have agreeT:∀t,t∈o.looksAt ops->EV (rs.map CR.tw) (λq=>listed.getD q false) 0 f0 t=EV (rs.map CR.tw) (λq=>decide (q<i)) 0 f0 t:=λt ht=>by
  refine HE λq w _ hw hne=>?_;rw[kF]at hw;obtain⟨rq,hrq,rfl⟩:=lsel _ q w hw;obtain⟨oq',hoq⟩:=oq q rq hrq;have hdq:=(G.ok q oq' rq hoq hrq).1;rw[OE,hdq];intro hdt;rcases Nat.lt_trichotomy q i with hq|hq|hq;have hnl:listed.getD q false=false:=by cases hx:listed.getD q false with|false=>rfl|true=>rw[hx]at hne;simp[hq]at hne
  exact(Oper.apart_spec (Gs G.stat ho hoq hq (e1 q hnl))).1 t hdt ht;subst hq;rw[hunF]at hne;simp at hne;have hl:listed.getD q false=true:=by cases hx:listed.getD q false with|true=>rfl|false=>rw[hx]at hne;simp[Nat.not_lt.2 (kx hq)]at hne
  exact(Oper.apart_spec (Gs G.stat hoq ho hq (e2 q hl))).2.2 t hdt ht
 have agreeH:∀k∈r.foot,EV (rs.map CR.hw) (λq=>listed.getD q false) 0 h0 k=EV (rs.map CR.hw) (λq=>decide (q<i)) 0 h0 k:=λk hk=>by
  refine HE λq w _ hw hne=>?_;rw[kF]at hw;obtain⟨rq,hrq,rfl⟩:=lsel _ q w hw;simp only[CR.hw,Aq,qc,qe];rcases Nat.lt_trichotomy q i with hq|hq|hq;have hnl:listed.getD q false=false:=by cases hx:listed.getD q false with|false=>rfl|true=>rw[hx]at hne;simp[hq]at hne
  have:=G.ind i q r rq hq hr hrq (e1 q hnl);rintro(h1|h1);exact this.1 k h1 hk;exact this.2.2 k h1 hk;subst hq;rw[hunF]at hne;simp at hne;have hl:listed.getD q false=true:=by cases hx:listed.getD q false with|true=>rfl|false=>rw[hx]at hne;simp[Nat.not_lt.2 (kx hq)]at hne
  have:=G.ind q i rq r hq hrq hr (e2 q hl);rintro(h1|h1);exact this.2.1 k h1 hk;exact G.newfoot q i rq r (kx hq) hrq hr k h1 hk
 have hD:(λq=>(listed.setIfInBounds i true).getD q false)=λq=>listed.getD q false||q==i:=by
  funext q;by_cases hq:q=i;subst hq;simp[A.size,hlt];have:(q==i)=false:=by simp;exact hq
  rw[this,Bool.or_false];simp[jH (Ne.symm hq)]
 have insT:∀t,EV (rs.map CR.tw) (λq=>listed.getD q false||q==i) 0 f0 t=CN (EV (rs.map CR.tw) (λq=>listed.getD q false) 0 f0) r.tw t:=by
  refine JC hunF (qg _) (by simp[hr]) λq w hq _ hw hl k hk hk2=>?_;rw[kF]at hw;obtain⟨rq,hrq,rfl⟩:=lsel _ q w hw;obtain⟨oq',hoq⟩:=oq q rq hrq;rw[OE,hdst]at hk;rw[OE,(G.ok q oq' rq hoq hrq).1]at hk2;exact(Oper.apart_spec (Gs G.stat hoq ho hq (e2 q hl))).2.1 k hk hk2
 have insH:∀k,EV (rs.map CR.hw) (λq=>listed.getD q false||q==i) 0 h0 k=CN (EV (rs.map CR.hw) (λq=>listed.getD q false) 0 h0) r.hw k:=by
  refine JC hunF (qg _) (by simp[hr]) λq w hq _ hw hl k hk hk2=>?_;rw[kF]at hw;obtain⟨rq,hrq,rfl⟩:=lsel _ q w hw;obtain⟨oq',hoq⟩:=oq q rq hrq;have hI:=G.ind q i rq r hq hrq hr (e2 q hl);have hwq:=(G.ok q oq' rq hoq hrq).2.1;simp only[CR.hw,Aq,qc,qe]at hk hk2;rcases hk with hk|hk<;>rcases hk2 with hk2|hk2;exact hI.1 k hk (hwq k hk2);exact G.newfoot q i rq r (kx hq) hrq hr k hk2 (hwf k hk);exact hI.2.2 k hk (hwq k hk2);exact G.newne i q r rq (by omega) hr hrq k hk hk2
 have behind:∀c' u,V c' r.val u->Bn (CN (EV (rs.map CR.hw) (λq=>listed.getD q false) 0 h0) r.hw) c'->Fr n c'->DZ c c'->(∀j,j∉Aq r.new->c'.ρ j=c.ρ j)->Kr (a.put o.dst u) c'.w:=by
  intro c' u hv R' F' X' hρ;refine hK c' _ ⟨by simp[A.size],λj oj hoj hl e he hb=>?_,E.ext X' A.inv,?_,?_,F',A.ext.trans X',λj hj=>?_,λj rj hrj hl k hk=>?_⟩;by_cases hji:j=i;subst hji;rw[ho]at hoj;cases hoj;exact getD_set_true (hall e he hb);rw[getD_set_ne false (Ne.symm hji)]at hl;exact getD_set_true (A.closed j oj hoj hl e he hb);rw[hD];have:EV (rs.map CR.hw) (λq=>listed.getD q false||q==i) 0 h0=CN (EV (rs.map CR.hw) (λq=>listed.getD q false) 0 h0) r.hw:=funext insH;rw[this];exact R';rw[hD];have:EV (rs.map CR.tw) (λq=>listed.getD q false||q==i) 0 f0=CN (EV (rs.map CR.tw) (λq=>listed.getD q false) 0 f0) r.tw:=funext insT;rw[this,<-hdst];have FE:Sa E N (EV (rs.map CR.tw) (λq=>listed.getD q false) 0 f0) c' a:=⟨A.fr.size,A.fr.defers.mono X',λt=>kR X' (A.fr.val t)⟩
  exact FE.put (λd hd=>G.dok i o ho d (by rw[<-hdst];exact hd)) hv;rw[hρ j λhj2=>by have:=(G.newlo i r hr j hj2).1;omega];exact A.same j hj;by_cases hji:j=i;subst hji;rw[show(listed.setIfInBounds j true).getD j false=true by simp[A.size,hlt]]at hl;cases hl;rw[getD_set_ne false (Ne.symm hji)]at hl;rw[hρ k λhk2=>G.newne j i rj r hji hrj hr k hk hk2];exact A.new j rj hrj hl k hk
 have guardEq:Fu ops (EV (rs.map CR.tw) (λq=>listed.getD q false) 0 f0) o=Fu ops (EV (rs.map CR.tw) (λq=>decide (q<i)) 0 f0) o:=by
  unfold Fu;cases hg:o.guard with
  | none=>rfl
  | some p =>
   obtain⟨j,want⟩:=p;simp only;cases hd:(ops[j]?).bind (·.dst)with
   | none=>rfl
   | some d=>
    simp only;rw[agreeT d (by simp[Oper.looksAt,hg,hd])]
 unfold wpOpIn;rw[ho];simp only;rcases hok with⟨hg,hv,_,hw0,hn0⟩|⟨hg,hstep⟩
 rw[LX A.fr (guardEq.trans hg)];simp only[qj,if_false];refine⟨λ_ _=>trivial,?_⟩;refine behind c undef (by rw[hv];exact Ku) ?_ A.free (kZ c) λ_ _=>rfl;have:r.hw=[]:=by simp[CR.hw,hw0,hn0]
 rw[this];exact A.rel;rw[LX A.fr (guardEq.trans hg),if_pos rfl];refine(hstep _ _ c a _ _ (λx hx=>?_) agreeH A.inv A.rel A.free (A.new i r hr hunF) A.fr behind);cases x with
 | tmp t=>exact agreeT t (by simp only[Oper.looksAt,qe,List.mem_filterMap];exact .inl ⟨.tmp t,by simpa using hx,rfl⟩)
 | _=>rfl
end
section
variable {E : B6} {P : Program} {N : Nat} {ops : Array Oper} {f0 : Nat → SV} {h0 : Hp} {n0 n : Nat} {rs : List CR}
def UR (listed:Array Bool):Nat:=listed.toList.count false
theorem Jm {listed:Array Bool} {i:Nat} (hi:i<listed.size) (h:listed.getD i false=false):UR (listed.setIfInBounds i true)+1=UR listed:=by
 have hv:listed.toList[i]'(by simpa using hi)=false:=by rw[Gc hi]at h;simpa using h
 have hpos:0<listed.toList.count false:=List.count_pos_iff.2 (by rw[<-hv];exact ql _);unfold UR;rw[Array.toList_setIfInBounds,List.count_set (h:=by simpa using hi),hv];have e1:(if(false==false)=true then 1 else 0)=1:=rfl;have e2:(if(true==false)=true then 1 else 0)=0:=rfl;rw[e1,e2];omega
theorem P2 (hst:FA ops=true) {listed:Array Bool} (hs:listed.size=ops.size) (hr:Region.ready .any ops listed=[]):∀i,i<ops.size->listed.getD i false=true:=by
 intro i
 induction i using Nat.strongRecOn with
 | _ i ih =>
  intro hi;cases h:listed.getD i false with
  | true=>rfl
  | false =>
   exfalso;have hoi:ops[i]? = some ops[i]:=by simp[hi]
   have:i∈Region.ready .any ops listed:=mem_ready.2 ⟨by rw[Gc (by omega)]at h ⊢;exact h,ops[i],hoi,λe he hb=>by
    have hlt:=N9 hst hoi e he hb;exact ih e.on hlt (by omega)⟩
   rw[hr]at this;cases this
theorem N3 {listed:Array Bool} (hs:listed.size=ops.size) (h:UR listed=0):Region.ready .any ops listed=[]:=by
 cases hr:Region.ready .any ops listed with
 | nil=>rfl
 | cons i l=>
  exfalso;obtain⟨hun,o,ho,_⟩:=mem_ready.1 (show i∈Region.ready .any ops listed by rw[hr];simp);have hlt:=(qp.1 ho).1;have hF:listed.getD i false=false:=by rw[Gc (by omega)]at hun ⊢;exact hun
  have:=Jm (by omega) hF;omega
theorem TI (G:Qn E P N ops f0 h0 n0 n rs) {c0:Cx} {Qr:Exit->Act->World->Prop}
 (hQ:∀c' a',Bn (EV (rs.map CR.hw) (λq=>decide (q<ops.size)) 0 h0) c'->Sa E N (EV (rs.map CR.tw) (λq=>decide (q<ops.size)) 0 f0) c' a'->Fr n c'->DZ c0 c'->(∀j,j<n0->c'.ρ j=c0.ρ j)->Qr .normal a' c'.w):
 ∀(fuel:Nat) (listed:Array Bool) (c:Cx) (a:Act),At E P N ops f0 h0 n0 n rs c0 listed c a->UR listed=fuel->wpAnyIn E.fc 0 P .any ops Qr fuel listed a c.w:=by
 have done:∀(listed:Array Bool) (c:Cx) (a:Act),At E P N ops f0 h0 n0 n rs c0 listed c a->Region.ready .any ops listed=[]->Qr .normal a c.w:=by
  intro listed c a A hr;have hall:=P2 G.stat A.size hr;have e:∀{α:Type} (l:List (List (Nat×α))) (f:Nat->α),l.length=ops.size->EV l (λq=>listed.getD q false) 0 f=EV l (λq=>decide (q<ops.size)) 0 f:=λl f hl=>by
   funext k;refine HE λq w _ hw hne=>?_;have hq:=(qo.1 hw).1;rw[kF]at hq;rw[hall q (by omega)]at hne;simp[show q<ops.size by omega]at hne
  have R:=A.rel;have F:=A.fr;rw[e _ _ (by simp[G.len])]at R F;exact hQ c a R F A.free A.ext A.same
 intro fuel
 induction fuel with
 | zero=>
  intro listed c a A hf;have hr:=N3 A.size hf;exact⟨hr,done listed c a A hr⟩
 | succ fuel ih=>
  intro listed c a A hf;refine⟨done listed c a A,λi hi=>?_⟩;obtain⟨hun,o,ho,_⟩:=mem_ready.1 hi;have hlt:=(qp.1 ho).1;have hF:listed.getD i false=false:=by rw[Gc (by rw[A.size];exact hlt)]at hun ⊢;exact hun
  have hu:=Jm (by rw[A.size];exact hlt) hF;exact Rl G A hi λc' a' A'=>ih _ c' a' A' (by omega)
theorem QH (G:Qn E P N ops f0 h0 n0 n rs) (hm:P.follows .mixedOrders=true) {id:Nat} {c:Cx} {a:Act} {Qr:Exit->Act->World->Prop} (hn:n0<=n) (I:E.inv c) (R:Bn h0 c) (F:Fr n0 c) (A:Sa E N f0 c a)
 (hQ:∀c' a',Bn (EV (rs.map CR.hw) (λq=>decide (q<ops.size)) 0 h0) c'->Sa E N (EV (rs.map CR.tw) (λq=>decide (q<ops.size)) 0 f0) c' a'->Fr n c'->Fq n0 c n c'->Qr .normal a' c'.w):
 (Code.region id ops true).wpIn E.fc 0 P Qr a c.w:=by
 refine wpIn_region_any hm ?_;have hg:∀i,(Array.replicate ops.size false).getD i false=false:=λi=>by
  rw[qZ];by_cases hi:i<ops.size<;>simp[hi]
 have hsel:∀{α:Type} (l:List (List (Nat×α))) (f:Nat->α),EV l (λq=>(Array.replicate ops.size false).getD q false) 0 f=f:=λl f=>by
  funext k;exact RT λq w _ hD=>by rw[hg]at hD;cases hD
 have:=TI G (c0:=c) (Qr:=Qr) (λc' a' R' F' Fr' E' S'=>hQ c' a' R' F' Fr' ⟨E',hn,S'⟩) ops.size (Array.replicate ops.size false) c.drew a
  ⟨by simp,λi o _ hl=>(by rw[hg]at hl;cases hl),E.ext c.drew_ext I,(by rw[hsel];exact R.drew),(by rw[hsel];exact⟨A.size,A.defers.mono c.drew_ext,λt=>kR c.drew_ext (A.val t)⟩),λj hj=>F j (by omega),c.drew_ext,λ_ _=>rfl,
   λi r hr _ k hk=>F k (G.newlo i r hr k hk).1⟩ (by simp[UR])
 exact this
def DG (a b:List Nat):Bool:=a.all λx=>!b.contains x
theorem I0 {a b:List Nat} (h:DG a b=true):∀k∈a,k∉b:=λk hk hb=>by
 have:=jj.1 h k hk;simp at this;exact this hb
def Hh (ops:Array Oper) (i:Nat) (r:CR):Nat->List CR->Bool
 | _,[]=>true
 | j,q::qs=>((DG (Aq q.wr) r.foot&&DG (Aq r.wr) q.foot&&DG (Aq q.new) r.foot)||Ex ops j i)&&Hh ops i r (j+1) qs
def E7 (E:B6) (P:Program) (ops:Array Oper) (Q:SA->Hp->Nat->Prop):List Oper->List CR->SA->Hp->Nat->Prop
 | [],_,sa,h,n=>Q sa h n
 | o :: rest, tr, sa, h, n =>
  match Dg ops sa o with
  | none=>False
  | some b =>
   if b=true then
   match o.op with
   | .call { callee := .value f, args, .. } =>
    match callee (Gp sa f) (args.toList.map (Gp sa))with
    | some (g,aS)=>∃foot wr v,K8 E P g aS foot wr v h/\(∀k∈Aq wr,k∈foot)/\(∀k∈foot,k<n)/\Hh ops tr.length { dst:=o.dst,val:=v,foot:=foot,wr:=wr } 0 tr=true/\
     E7 E P ops Q rest (tr++[{ dst:=o.dst,val:=v,foot:=foot,wr:=wr }]) (EB sa o.dst v) (CN h wr) n
    | none=>False
   | op =>
    match C2 P (Gp sa) h n op with
    | some out=>
     (∀k∈Aq out.upd.toList++Ek (Gp sa) op,k<n)/\Hh ops tr.length { dst:=o.dst,val:=out.val,foot:=Aq out.upd.toList++Ek (Gp sa) op,wr:=out.upd.toList,new:=(out.new.map λx=>(n,some x)).toList } 0 tr=true/\
     E7 E P ops Q rest (tr++[{ dst:=o.dst,val:=out.val,foot:=Aq out.upd.toList++Ek (Gp sa) op,wr:=out.upd.toList,new:=(out.new.map λx=>(n,some x)).toList }]) (EB sa o.dst out.val) (out.app h n) (if out.new.isSome then n+1 else n)
    | none=>∃v,OU P (Gp sa) o v/\Hh ops tr.length { dst:=o.dst,val:=v } 0 tr=true/\E7 E P ops Q rest (tr++[{ dst:=o.dst,val:=v }]) (EB sa o.dst v) h n
   else E7 E P ops Q rest (tr++[{ dst:=o.dst,val:=.tup [] }]) (EB sa o.dst (.tup [])) h n
theorem JB {α:Type} {D:Nat->Bool} {l2:List (List (Nat×α))}:∀{l1:List (List (Nat×α))} {i:Nat} {f:Nat->α},EV (l1++l2) D i f=EV l2 D (i+l1.length) (EV l1 D i f)
 | [],i,f=>rfl
 | w::l1,i,f=>by
  simp only[qz,EV,qF];rw[JB,show i+1+l1.length=i+(l1.length+1)by omega]
theorem K6 {α:Type} {l:List (List (Nat×α))} {w:List (Nat×α)} {i:Nat} {f:Nat->α} (hi:i<=l.length):EV (l++[w]) (λq=>decide (q<i)) 0 f=EV l (λq=>decide (q<i)) 0 f:=by
 rw[JB];simp only[EV,jc];rw[if_neg (by simp;omega)]
theorem Pd {α:Type} {l:List (List (Nat×α))} {w:List (Nat×α)} {f:Nat->α}:EV (l++[w]) (λq=>decide (q<l.length+1)) 0 f=CN (EV l (λq=>decide (q<l.length)) 0 f) w:=by
 rw[JB];simp only[EV,jc];rw[if_pos (by simp)];congr 1;funext k;refine HE λq v _ hv hne=>?_;have hq:=(qo.1 hv).1;rw[kF]at hq;simp[hq,show q<l.length+1 by omega]at hne
structure Vr (E:B6) (P:Program) (N:Nat) (ops:Array Oper) (f0:Nat->SV) (h0:Hp) (n0 n:Nat) (tr:List CR) (f:Nat->SV) (h:Hp):Prop where
 le:n0<=n
 fr:f=EV (tr.map CR.tw) (λq=>decide (q<tr.length)) 0 f0
 hp:h=EV (tr.map CR.hw) (λq=>decide (q<tr.length)) 0 h0
 ok:∀(i:Nat) (o:Oper) (r:CR),ops[i]? = some o->tr[i]? = some r->r.dst=o.dst/\(∀j∈Aq r.wr,j∈r.foot)/\
  ((Fu ops (EV (tr.map CR.tw) (λq=>decide (q<i)) 0 f0) o=some false/\r.val=.tup []/\r.foot=[]/\r.wr=[]/\r.new=[])\/
   (Fu ops (EV (tr.map CR.tw) (λq=>decide (q<i)) 0 f0) o=some true/\
    ∀m,n<=m->Ju E P N o (EV (tr.map CR.tw) (λq=>decide (q<i)) 0 f0) (EV (tr.map CR.hw) (λq=>decide (q<i)) 0 h0) m r))
 ind:∀(i j:Nat) (ri rj:CR),j<i->tr[i]? = some ri->tr[j]? = some rj->Ex ops j i=false->
  (∀k∈Aq rj.wr,k∉ri.foot)/\(∀k∈Aq ri.wr,k∉rj.foot)/\(∀k∈Aq rj.new,k∉ri.foot)
 newlo:∀(i:Nat) (r:CR),tr[i]? = some r->∀k∈Aq r.new,n0<=k/\k<n
 newne:∀(i j:Nat) (ri rj:CR),i≠j->tr[i]? = some ri->tr[j]? = some rj->∀k∈Aq ri.new,k∉Aq rj.new
 footlo:∀(i:Nat) (r:CR),tr[i]? = some r->∀k∈r.foot,k<n
 newfoot:∀(i j:Nat) (ri rj:CR),j<=i->tr[i]? = some ri->tr[j]? = some rj->∀k∈Aq ri.new,k∉rj.foot
theorem LZ {i:Nat} {r:CR}:∀{tr:List CR} {j0:Nat},Hh ops i r j0 tr=true->∀(j:Nat) (q:CR),tr[j]? = some q->Ex ops (j0+j) i=false->
 (∀k∈Aq q.wr,k∉r.foot)/\(∀k∈Aq r.wr,k∉q.foot)/\(∀k∈Aq q.new,k∉r.foot)
 | [],_,_,j,q,hq,_=>by simp at hq
 | x :: tr, j0, h, j, q, hq, hd => by
  simp only[Hh,qq]at h;cases j with
  | zero=>
   simp only[jG,qh]at hq;subst hq;rw[jJ]at hd;have h1:=h.1;rw[hd,Bool.or_false,qq,qq]at h1;exact⟨I0 h1.1.1,I0 h1.1.2,I0 h1.2⟩
  | succ j=>exact LZ h.2 j q (by simpa using hq) (by rw[show j0+1+j=j0+(j+1)by omega];exact hd)
theorem Vr.snoc {tr:List CR} {f:Nat->SV} {h:Hp} {n n':Nat} (A:Vr E P N ops f0 h0 n0 n tr f h) {o:Oper} (ho:ops[tr.length]? = some o) {r:CR} (hn:n<=n') (hdst:r.dst=o.dst) (hwf:∀k∈Aq r.wr,k∈r.foot)
 (hfoot:∀k∈r.foot,k<n) (hnew:∀k∈Aq r.new,n<=k/\k<n') (hind:Hh ops tr.length r 0 tr=true)
 (hok:(Fu ops f o=some false/\r.val=.tup []/\r.foot=[]/\r.wr=[]/\r.new=[])\/(Fu ops f o=some true/\∀m,n'<=m->Ju E P N o f h m r)):
 Vr E P N ops f0 h0 n0 n' (tr++[r]) (CN f r.tw) (CN h r.hw):=by
 have hm:∀{α:Type} (g:CR->List (Nat×α)),(tr++[r]).map g=tr.map g++[g r]:=λg=>by simp
 have hl:∀{α:Type} (g:CR->List (Nat×α)),(tr.map g).length=tr.length:=λg=>by simp
 have get:∀{i:Nat} {q:CR},(tr++[r])[i]? = some q->(i<tr.length/\tr[i]? = some q)\/(i=tr.length/\q=r):=fun {i q} h=>by
  rw[List.getElem?_append]at h;split at h;exact .inl ⟨by assumption,h⟩;rename_i hi;have:=(qo.1 h).1;simp at this;have e:i=tr.length:=by omega
  subst e;simp at h;exact .inr ⟨rfl,h.symm⟩
 refine⟨qr A.le hn,?_,?_,λi oi ri hoi hri=>?_,λi j ri rj hji hri hrj hd=>?_,λi ri hri k hk=>?_,λi j ri rj hij hri hrj k hk=>?_,λi ri hri k hk=>?_,λi j ri rj hji hri hrj k hk=>?_⟩;rw[hm,qt,List.length_singleton];have:=Pd (l:=tr.map CR.tw) (w:=r.tw) (f:=f0);rw[hl]at this;rw[this,<-A.fr];rw[hm,qt,List.length_singleton];have:=Pd (l:=tr.map CR.hw) (w:=r.hw) (f:=h0);rw[hl]at this;rw[this,<-A.hp];rcases get hri with⟨hi,hri⟩|⟨rfl,rfl⟩
 obtain⟨g1,g2,g3⟩:=A.ok i oi ri hoi hri;rw[hm,hm,K6 (by rw[hl];omega),K6 (by rw[hl];omega)];refine⟨g1,g2,g3.imp id λ⟨x,y⟩=>⟨x,λm hm=>y m (by omega)⟩⟩;rw[ho]at hoi;cases hoi;rw[hm,hm,K6 (by rw[hl];omega),K6 (by rw[hl];omega),<-A.fr,<-A.hp];exact⟨hdst,hwf,hok⟩;rcases get hri with⟨hi,hri⟩|⟨rfl,rfl⟩
 rcases get hrj with⟨hj,hrj⟩|⟨rfl,rfl⟩
 exact A.ind i j ri rj hji hri hrj hd;omega;rcases get hrj with⟨hj,hrj⟩|⟨rfl,rfl⟩
 exact LZ hind j rj hrj (by rw[jc];exact hd);omega;rcases get hri with⟨hi,hri⟩|⟨rfl,rfl⟩
 have:=A.newlo i ri hri k hk;omega;have:=hnew k hk;have:=A.le;omega;rcases get hri with⟨hi,gri⟩|⟨rfl,rfl⟩
 rcases get hrj with⟨hj,grj⟩|⟨rfl,rfl⟩
 exact A.newne i j ri rj hij gri grj k hk;intro h2;have:=A.newlo i ri gri k hk;have:=hnew k h2;omega;rcases get hrj with⟨hj,grj⟩|⟨rfl,rfl⟩
 intro h2;have:=A.newlo j rj grj k h2;have:=hnew k hk;omega;exact absurd rfl hij;rcases get hri with⟨hi,gri⟩|⟨rfl,rfl⟩
 have:=A.footlo i ri gri k hk;omega;have:=hfoot k hk;omega;rcases get hri with⟨hi,gri⟩|⟨rfl,rfl⟩
 rcases get hrj with⟨hj,grj⟩|⟨rfl,rfl⟩
 exact A.newfoot i j ri rj hji gri grj k hk;omega;rcases get hrj with⟨hj,grj⟩|⟨rfl,rfl⟩
 intro h2;have:=A.footlo j rj grj k h2;have:=hnew k hk;omega;intro h2;have:=hfoot k h2;have:=hnew k hk;omega
end
section
variable {E : B6} {P : Program} {N : Nat} {ops : Array Oper} {f0 : Nat → SV} {h0 : Hp} {n0 n : Nat}
theorem Je (sa:SA) (dst:Option Tmp) (v:SV) (r:CR) (hd:r.dst=dst) (hv:r.val=v):Ai (EB sa dst v)=CN (Ai sa) r.tw:=by
 funext t;unfold CR.tw;rw[hd,hv];cases dst with
 | none=>rfl
 | some d=>
  show(if d=t then v else Ai sa t)=if t=d then v else Ai sa t
  by_cases e:d=t;rw[if_pos e,if_pos e.symm];rw[if_neg e,if_neg (Ne.symm e)]
theorem Sr (h:Hp) (k:Nat) (out:Cs) (r:CR) (hw:r.wr=out.upd.toList) (hn:r.new=(out.new.map λx=>(k,some x)).toList):out.app h k=CN h r.hw:=by
 unfold CR.hw Cs.app;rw[hw,hn];cases out.upd with
 | none=>cases out.new<;>rfl
 | some p=>obtain⟨j,x⟩:=p;cases out.new<;>rfl
theorem Sa.ev {f:Nat->SV} {c:Cx} {a:Act} (F:Sa E N f c a) (x:Operand):V c (Nn f x) (a.eval x):=by
 cases x with
 | tmp t=>exact F.val t
 | const v=>exact C9 c v
 | global g=>simp[Nn,V]
 | func g=>simp[Nn,Act.eval,V,VL]
theorem Qd {ev:Operand->SV} {h:Hp} {k q:Nat} {op:Op} {out:Cs} (hs:C2 P ev h k op=some out) (hn:out.new=none):C2 P ev h q op=some out:=by
 cases op with
 | alloc e=>simp only[C2]at hs;split at hs<;>cases hs;cases hn
 | box e x=>simp only[C2]at hs;split at hs<;>cases hs;cases hn
 | buildSlice t l ps=>
  simp only[C2]at hs;split at hs<;>try cases hs
  split at hs<;>try cases hs
  simp only[Option.bind_eq_some_iff]at hs;obtain⟨cs,_,e⟩:=hs;cases e;cases hn
 | makeMap t r=>simp only[C2]at hs;split at hs<;>cases hs;cases hn
 | makeSlice t l c=>
  simp only[C2]at hs;split at hs<;>try cases hs
  split at hs<;>try cases hs
  cases hn
 | call cl =>
  obtain⟨callee,args,ts⟩:=cl;cases callee with
  | value f=>exact hs
  | invoke r m=>exact hs
  | builtin b=>
   simp only[C2]at hs ⊢;unfold AU at hs ⊢;split at hs<;>try exact hs
   split at hs
   rotate_left
   . exfalso;unfold FO at hs;split at hs<;>try cases hs
     split at hs<;>cases hs;cases hn
   rename_i ht2;rw[if_pos ht2];unfold Cm at hs ⊢;split at hs<;>try cases hs
   rename_i e he;simp only at hs;split at hs<;>try cases hs
   rename_i m ys hm hys;simp only[];split at hs<;>try cases hs
   rename_i hc;rw[if_neg hc];split at hs;rename_i h0;rw[if_pos h0];exact hs
   . exfalso;split at hs;split at hs<;>cases hs;cases hn
     . split at hs<;>try cases hs
       split at hs<;>cases hs;cases hn
     cases hs
 | _=>exact hs
theorem OA {o:Oper} {f:Nat->SV} {h:Hp} {out:Cs} (hs:C2 P (Nn f) h n o.op=some out) {m:Nat} (hm:(if out.new.isSome then n+1 else n)<=m):
 Ju E P N o f h m { dst:=o.dst,val:=out.val,foot:=Aq out.upd.toList++Ek (Nn f) o.op,wr:=out.upd.toList,new:=(out.new.map λx=>(n,some x)).toList }:=by
 intro f' h' c a Kr Qr hev hh I R F hnew A hK;refine⟨λ_ _=>trivial,?_⟩;have happ:out.app h' n=CN h' (CR.hw { dst:=o.dst,val:=out.val,foot:=Aq out.upd.toList++Ek (Nn f) o.op,wr:=out.upd.toList,new:=(out.new.map λx=>(n,some x)).toList }):=Sr h' n out _ rfl rfl;have hs':C2 P (Nn f') h' n o.op=some out:=by
  rw[<-hs];refine(SO (λx hx=>(hev x hx).symm) λj hj=>?_).symm;exact(hh j (qe.2 (.inr hj))).symm
 by_cases hn:out.new.isSome=true;obtain⟨x,hx⟩:=jn.1 hn;have hρn:c.ρ n=none:=hnew n (by show n∈Aq ((out.new.map λx=>(n,some x)).toList);rw[hx];simp[Aq]);obtain⟨u,c',hr,hv,R',X,hρ⟩:=KN (ev:=a.eval) hs' R hρn λx _=>A.ev x;have:=hK c' u hv (happ▸R') (λj hj=>by
  rw[hρ j (.inr (by rw[if_pos hn]at hm;omega))];exact F j hj) X (λj hj=>hρ j (.inr λe=>hj (by subst e;show j∈Aq ((out.new.map λx=>(j,some x)).toList);rw[hx];simp[Aq])))
 rw[Oper.semAt_eq _ _ _ (IK hs)];rcases hr with hr|⟨rfl,hr⟩<;>(rw[hr];exact this)
 have hnone:out.new=none:=by cases h:out.new<;>simp[h]at hn ⊢
 have free:∃q,c.ρ q=none:=⟨m,F m (qa _)⟩
 obtain⟨q,hq⟩:=free;have hs2:C2 P (Nn f') h' q o.op=some out:=Qd hs' hnone;obtain⟨u,c',hr,hv,R',X,hρ⟩:=KN (ev:=a.eval) hs2 R hq λx _=>A.ev x;have eapp:out.app h' q=out.app h' n:=by unfold Cs.app;rw[hnone]
 have:=hK c' u hv (happ▸eapp▸R') (λj hj=>by
  rw[hρ j (.inl (by simp[hnone]))];exact F j hj) X (λj hj=>hρ j (.inl (by simp[hnone])))
 rw[Oper.semAt_eq _ _ _ (IK hs)];rcases hr with hr|⟨rfl,hr⟩<;>(rw[hr];exact this)
theorem Pq {o:Oper} {f:Nat->SV} {h:Hp} {x:Operand} {args:Array Operand} {ts:Array TypeId} {g:FuncId} {aS:List SV} {foot:List Nat} {wr:List (Nat×Option BT)} {v:SV}
 (ho:o.op=.call { callee:=.value x,args:=args,argTypes:=ts }) (hc:callee (Nn f x) (args.toList.map (Nn f))=some (g,aS)) (hU:K8 E P g aS foot wr v h) {m:Nat}:
 Ju E P N o f h m { dst:=o.dst,val:=v,foot:=foot,wr:=wr }:=by
 intro f' h' c a Kr Qr hev hh I R F hnew A hK;refine⟨λ_ _=>trivial,?_⟩;have ev1:Nn f' x=Nn f x:=hev x (by rw[ho];simp[Op.operands,Call.operands]);have ev2:args.toList.map (Nn f')=args.toList.map (Nn f):=jT λy hy=>hev y (by rw[ho];simp[Op.operands,Call.operands];exact .inr (by simpa using hy));have hcall:=hU h' m hh;have hf:=A.ev x;rw[ev1]at hf;unfold callee at hc;split at hc<;>try cases hc
 rename_i g' y z e1;rw[e1,V]at hf;obtain⟨xs,ys,hfv,h1,h2⟩:=hf;have hargs:AZ (V c) (y++args.toList.map (Nn f)++z) (xs++(args.map a.eval).toList++ys):=by
  rw[<-ev2];exact jS (jS (BN.1 h1) (Gg args λw _=>A.ev w)) (BN.1 h2)
 obtain⟨hok,hcall⟩:=hcall;have hc:=hcall c _ I R F hargs;unfold Kk at hok;cases hfn:P.funcs[g]? with
 | none=>simp[hfn]at hok
 | some fn =>
  simp only[hfn,qq,bne_iff_ne,ne_eq]at hok;have hrun:(execOp a.eval o).run P c.w=.ok (.enter g (xs.toArray++args.map a.eval++ys.toArray)) c.w:=by
   have hb:fn.body≠none:=by intro e;simp[e]at hok
   simp[execOp,ho,resolve,Deferred.ofValue,hfv,invoke,callFunc,hfn,hok.2,hb]
  have earr:xs.toArray++args.map a.eval++ys.toArray=(xs++(args.map a.eval).toList++ys).toArray:=by
   apply Array.ext';simp
  rw[Oper.semAt_eq _ _ _ (by rw[ho];simp),hrun,Oper.uponIn_enter,earr];refine⟨λh=>by simp[B6.fc,Fence.wide]at h,(callsIn_wide.2 (hc.mono λe w' ⟨u,v',h2',n',c',he,⟨hv1,hh1,hn1⟩,hw,hv,R',F',A'⟩=>?_):CallsIn Fence.wide _ P g _ c.w _)⟩;subst he;subst hw;subst hv1;subst hh1;subst hn1;refine hK c' u hv (by simpa[CR.hw]using R') F' A'.ext λj _=>?_;rcases ji j n' with hj|hj;exact A'.same j hj;rw[F j hj,F' j hj]
theorem Qg {o:Oper} {f:Nat->SV} {h:Hp} {v:SV} (H:OU P (Nn f) o v) {m:Nat}:Ju E P N o f h m { dst:=o.dst,val:=v }:=by
 intro f' h' c a Kr Qr hev hh I R F hnew A hK;refine⟨λ_ _=>trivial,?_⟩;rw[Oper.semAt_eq _ _ _ H.1];obtain⟨u,hr,hv⟩:=H.2 c a.eval (λ_=>rfl) λx hx=>by rw[<-hev x hx];exact A.ev x
 rw[hr];exact hK c u hv (by simpa[CR.hw,CN]using R) F (kZ c) λ_ _=>rfl
theorem Fj {Q:SA->Hp->Nat->Prop}:∀(rest:List Oper) (tr:List CR) (sa:SA) (h:Hp) (n:Nat),Vr E P N ops f0 h0 n0 n tr (Ai sa) h->ops.toList.drop tr.length=rest->tr.length<=ops.size->
 E7 E P ops Q rest tr sa h n->∃rs sa' h' n',Vr E P N ops f0 h0 n0 n' rs (Ai sa') h'/\rs.length=ops.size/\Q sa' h' n'
 | [],tr,sa,h,n,A,hd,hle,H=>⟨tr,sa,h,n,A,by have:=List.drop_eq_nil_iff.1 hd;simp at this;omega,H⟩
 | o :: rest, tr, sa, h, n, A, hd, hle, H => by
  have hlt:tr.length<ops.size:=by
   rcases ji tr.length ops.size with h|h;exact h;rw[kj (by simpa using h)]at hd;cases hd
  have ho:ops[tr.length]? = some o:=by
   have:(ops.toList.drop tr.length)[0]? = some o:=by rw[hd];rfl
   rw[qY]at this;simpa using this
  have hd':∀r:CR,ops.toList.drop (tr++[r]).length=rest:=λr=>by
   rw[qt,List.length_singleton,<-kP,hd];rfl
  have hle':∀r:CR,(tr++[r]).length<=ops.size:=λr=>by simp;omega
  have plain:∀out,C2 P (Gp sa) h n o.op=some out->
   ((∀k∈Aq out.upd.toList++Ek (Gp sa) o.op,k<n)/\Hh ops tr.length { dst:=o.dst,val:=out.val,foot:=Aq out.upd.toList++Ek (Gp sa) o.op,wr:=out.upd.toList,new:=(out.new.map λx=>(n,some x)).toList } 0 tr=true/\
     E7 E P ops Q rest (tr++[{ dst:=o.dst,val:=out.val,foot:=Aq out.upd.toList++Ek (Gp sa) o.op,wr:=out.upd.toList,new:=(out.new.map λx=>(n,some x)).toList }]) (EB sa o.dst out.val) (out.app h n) (if out.new.isSome then n+1 else n))->
   Dg ops sa o=some true->∃rs sa' h' n',Vr E P N ops f0 h0 n0 n' rs (Ai sa') h'/\rs.length=ops.size/\Q sa' h' n':=λout hs ⟨h1,h2,h3⟩ hg=>by
   refine Fj rest _ _ _ _ ?_ (hd' _) (hle' _) h3;have:=A.snoc (n':=if out.new.isSome then n+1 else n) ho (r:={ dst:=o.dst,val:=out.val,foot:=Aq out.upd.toList++Ek (Gp sa) o.op,wr:=out.upd.toList,new:=(out.new.map λx=>(n,some x)).toList })
    (by split<;>omega) rfl (λk hk=>qe.2 (.inl hk)) h1 (λk hk=>by
      cases hn:out.new with
      | none=>rw[hn]at hk;simp[Aq]at hk
      | some x=>rw[hn]at hk;simp[Aq]at hk;subst hk;simp) h2
    (.inr ⟨by rw[<-Id];exact hg,λm hm=>by rw[QI]at hs ⊢;exact OA hs hm⟩)
   rw[Je sa o.dst out.val { dst:=o.dst,val:=out.val,foot:=Aq out.upd.toList++Ek (Gp sa) o.op,wr:=out.upd.toList,new:=(out.new.map λx=>(n,some x)).toList } rfl rfl,
    Sr h n out { dst:=o.dst,val:=out.val,foot:=Aq out.upd.toList++Ek (Gp sa) o.op,wr:=out.upd.toList,new:=(out.new.map λx=>(n,some x)).toList } rfl rfl]
   exact this
  simp only[E7]at H;split at H
  case h_1=>exact H.elim
  rename_i b hg;cases b
  case false=>
   simp only[qj,if_false]at H;refine Fj rest _ _ _ _ ?_ (hd' _) (hle' _) H;have:=A.snoc (n':=n) ho (r:={ dst:=o.dst,val:=.tup [] }) (qa _) rfl (by simp[Aq]) (by simp) (by simp[Aq]) (by
    have:∀(l:List CR) (j:Nat),Hh ops tr.length { dst:=o.dst,val:=.tup [] } j l=true:=by
     intro l
     induction l with
     | nil=>intro j;rfl
     | cons q l ih=>
      intro j;simp only[Hh,ih,Bool.and_true];have d1:∀a:List Nat,DG a []=true:=λa=>by simp[DG]
      rw[d1,d1];simp[DG,Aq]
    exact this tr 0) (.inl ⟨by rw[<-Id];exact hg,rfl,rfl,rfl,rfl⟩)
   rw[Je sa o.dst (.tup []) { dst:=o.dst,val:=.tup [] } rfl rfl];exact this
  case true=>
   rw[if_pos rfl]at H;split at H;rename_i f args ts hop;split at H;rename_i g aS hc;obtain⟨foot,wr,v,hU,hwf,hfoot,hind,hrest⟩:=H;refine Fj rest _ _ _ _ ?_ (hd' _) (hle' _) hrest;have:=A.snoc (n':=n) ho (r:={ dst:=o.dst,val:=v,foot:=foot,wr:=wr }) (qa _) rfl hwf hfoot (by simp[Aq]) hind
    (.inr ⟨by rw[<-Id];exact hg,λm _=>by rw[QI]at hc;exact Pq hop hc hU⟩)
   rw[Je sa o.dst v { dst:=o.dst,val:=v,foot:=foot,wr:=wr } rfl rfl];simpa[CR.hw]using this;exact H.elim;split at H;rename_i out hs;exact plain out hs H hg;obtain⟨v,hV,hind,hrest⟩:=H;refine Fj rest _ _ _ _ ?_ (hd' _) (hle' _) hrest;have:=A.snoc (n':=n) ho (r:={ dst:=o.dst,val:=v }) (qa _) rfl (by simp[Aq]) (by simp) (by simp[Aq]) hind
    (.inr ⟨by rw[<-Id];exact hg,λm _=>by rw[QI]at hV;exact Qg hV⟩)
   rw[Je sa o.dst v { dst:=o.dst,val:=v } rfl rfl];simpa[CR.hw,CN]using this
theorem Sm {id:Nat} {Q:Ce} {sa:SA} {h:Hp} {n:Nat} (hm:P.follows .mixedOrders=true) (hst:FA ops=true) (H:E7 E P ops (Q .normal) ops.toList [] sa h n):Fs E P N (.region id ops true) Q sa h n:=by
 intro hd c a I R F A;simp only[Code.dok,jj]at hd;have hdd:∀(i:Nat) (o:Oper),ops[i]? = some o->∀d,o.dst=some d->d<N:=λi o ho d e=>by
  have:=hd o (by simpa using Array.mem_of_getElem? ho);rw[e]at this;simpa using this
 have A0:Vr E P N ops (Ai sa) h n n [] (Ai sa) h:=
  ⟨qa _,rfl,rfl,by simp,by simp,by simp,by simp,by simp,by simp⟩
 obtain⟨rs,sa',h',n',A1,hlen,hq⟩:=Fj (N:=N) ops.toList [] sa h n A0 rfl (qg _) H;have G:Qn E P N ops (Ai sa) h n n' rs:=
  ⟨hlen,hst,hdd,λi o r ho hr=>by
   obtain⟨g1,g2,g3⟩:=A1.ok i o r ho hr;exact⟨g1,g2,g3.imp (λz=>z) λ⟨x,y⟩=>⟨x,y n' (qa _)⟩⟩,A1.ind,A1.newlo,A1.newne,A1.newfoot⟩
 refine QH G hm A1.le I R F ⟨A.size,A.defers,A.val⟩ λc' a' R' F' Fr' E'=>?_;rw[<-hlen,<-A1.hp]at R';rw[<-hlen,<-A1.fr]at F';exact⟨sa',h',n',c',hq,rfl,R',Fr',⟨F'.size,F'.defers,F'.val⟩,E'⟩
end
def Fk (E:B6) (P:Program) (N:Nat):Code->Ce->SA->Hp->Nat->Prop
 | .skip,Q,sa,h,n=>Q .normal sa h n
 | .seq a b,Q,sa,h,n=>Fk E P N a (DX (Fk E P N b Q) Q) sa h n
 | .cond c a b,Q,sa,h,n=>match Gp sa c with|.bool t=>if t=true then Fk E P N a Q sa h n else Fk E P N b Q sa h n|_=>False
 | .block id b,Q,sa,h,n=>Fk E P N b (FP id Q) sa h n
 | .exit id,Q,sa,h,n=>Q (.exit id) sa h n
 | .ret,Q,sa,h,n=>Q .ret sa h n
 | .region _ ops false,Q,sa,h,n=>IL E P ops (Q .normal) ops.toList sa h n
 | .region _ ops true,Q,sa,h,n=>FA ops=true/\E7 E P ops (Q .normal) ops.toList [] sa h n
 | .loop b,Q,sa,h,n=>Fs E P N (.loop b) Q sa h n
 | .rangeFunc g ps a b,Q,sa,h,n=>Fs E P N (.rangeFunc g ps a b) Q sa h n
 | _,_,_,_,_=>False
theorem FX {K K':SA->Hp->Nat->Prop} {Q:Ce} (hk:∀sa h n,K sa h n->K' sa h n):∀e sa h n,DX K Q e sa h n->DX K' Q e sa h n:=by
 intro e sa h n H;cases e<;>first|exact hk _ _ _ H|exact H
theorem Eo {E:B6} {P:Program} {N:Nat} (hm:P.follows .mixedOrders=true):∀(c:Code) (Q:Ce) (sa:SA) (h:Hp) (n:Nat),Fk E P N c Q sa h n->Fs E P N c Q sa h n
 | .skip,Q,sa,h,n,H=>Gv H
 | .seq a b,Q,sa,h,n,H=>JJ (GJ (Eo hm a _ sa h n H) (FX λsa h n=>Eo hm b Q sa h n))
 | .cond c a b,Q,sa,h,n,H=>by
  simp only[Fk]at H;split at H;rename_i t ht;refine Ah ht ?_;split at H;rename_i e;rw[if_pos e];exact Eo hm a Q sa h n H;rename_i e;rw[if_neg e];exact Eo hm b Q sa h n H;exact H.elim
 | .block id b,Q,sa,h,n,H=>Mb (Eo hm b _ sa h n H)
 | .exit id,Q,sa,h,n,H=>Sn H
 | .ret,Q,sa,h,n,H=>UU H
 | .region _ ops false,Q,sa,h,n,H=>Pz H
 | .region _ ops true,Q,sa,h,n,H=>Sm hm H.1 H.2
 | .loop b,Q,sa,h,n,H=>H
 | .rangeFunc _ _ _ _,_,_,_,_,H=>H
 | .scope _,_,_,_,_,H=>H.elim
 | .label _,_,_,_,_,H=>H.elim
 | .goto _,_,_,_,_,H=>H.elim
 | .refuse _,_,_,_,_,H=>H.elim
def Is (v:SV) (h:Hp) (n:Nat):SV->Hp->Nat->Prop:=λv' h' n'=>v'=v/\h'=h/\n'=n
def Fy (P:Program) (f:FuncId) (args:List SV) (v:SV):Prop:=∀h n,BA P f args h n (Is v h n)
theorem Fy.use {E:B6} {P:Program} {f:FuncId} {args:List SV} {v:SV} (H:Fy P f args v) {h:Hp} {n:Nat} {K:SV->Hp->Nat->Prop} (hk:K v h n):Ak E P f args h n K:=
 Ak.lift<|(H h n).mono λ_ _ _ ⟨e1,e2,e3⟩=>by subst e1;subst e2;subst e3;exact hk
theorem Fy.u {E:B6} {P:Program} {f:FuncId} {args:List SV} {v:SV} (H:Fy P f args v) (h:Hp):K8 E P f args [] [] v h:=
 λh' n _=>Ak.lift<|(H h' n).mono λ_ _ _ ⟨e1,e2,e3⟩=>⟨e1,e2,e3⟩
theorem Ra {E:B6} {P:Program} (hm:P.follows .mixedOrders=true) {f:FuncId} {fn:Func} {code:Code} {args:List SV} {h:Hp} {n:Nat} {K:SV->Hp->Nat->Prop} (hf:P.funcs[f]? = some fn) (hb:fn.body=some code)
 (hn:(fn.name != "runtime.NumGoroutine")=true) (hd:Code.dok fn.ntmps code=true) (hl:args.length<=fn.ntmps)
 (H:(∀a∈args,closed n a=true)->(∀o x,h o=some x->o<n/\BQ n x=true)->Fk (E.call false 0) P fn.ntmps code (MT P fn n K) (Ec 0 args) h n):Ak E P f args h n K:=
 Ma hf hb hn hd hl λh1 h2=>Eo hm _ _ _ _ _ (H h1 h2)
theorem B8.plain {n:Nat} {h h':Hp} {n':Nat} {v:SV} {K:SV->Hp->Nat->Prop} (hc:closed n v=true) (hs:∀o x,h o=some x->o<n/\BQ n x=true) (hh:∀o x,h o=some x->h' o=some x) (hk:K v h n):B8 n h' n' v K:=
 .inr ⟨0,v,h,rfl,hc,λo x e=>⟨hh o x e,hs o x e⟩,hk⟩
abbrev swp:=Fk B6.plain
abbrev TY (k sz b:Nat) (ag:Option Bool) (sl:Option TypeId) (ar:Option (Nat×TypeId)) (mp:Option (TypeId×TypeId)) (st:Bool) (i:Option IntKind) (bo pt:Bool) (ze:SV):Prop:=
 Bh Tryz.prog k=sz/\BY Tryz.prog k=b/\Fm Tryz.prog k=ag/\A9 Tryz.prog k=sl/\JF Tryz.prog k=ar/\Ko Tryz.prog k=mp/\FC Tryz.prog k=st/\Jl Tryz.prog k=i/\MA Tryz.prog k=bo/\UF Tryz.prog k=pt/\BH Tryz.prog k=ze
abbrev TF (k i o t:Nat):Prop:=IR Tryz.prog k i=some (o,t)
@[go_sem] theorem ty3:TY 3 1 8 (some false) none none none false (some .i64) false false (.int .i64 0):=by(repeat' apply And.intro)<;>kernel_rfl
@[go_sem] theorem ty4:TY 4 1 1 (some false) none none none false none true false (.bool false):=by(repeat' apply And.intro)<;>kernel_rfl
@[go_sem] theorem ty5:TY 5 1 1 (some false) none none none false (some .u8) false false (.int .u8 0):=by(repeat' apply And.intro)<;>kernel_rfl
@[go_sem] theorem ty9:TY 9 1 16 (some false) none none none true none false false (.str .empty):=by(repeat' apply And.intro)<;>kernel_rfl
@[go_sem] theorem ty22:TY 22 1 24 (some false) (some 70) none none false none false false (.imm 0 [] true):=by(repeat' apply And.intro)<;>kernel_rfl
@[go_sem] theorem ty23:TY 23 1 24 (some false) (some 193) none none false none false false (.imm 0 [] true):=by(repeat' apply And.intro)<;>kernel_rfl
@[go_sem] theorem ty24:TY 24 1 24 (some false) (some 166) none none false none false false (.imm 0 [] true):=by(repeat' apply And.intro)<;>kernel_rfl
@[go_sem] theorem ty25:TY 25 1 24 (some false) (some 164) none none false none false false (.imm 0 [] true):=by(repeat' apply And.intro)<;>kernel_rfl
@[go_sem] theorem ty27:TY 27 4 64 (some true) none none none false none false false (.agg [.int .i64 0,.int .i64 0,.imm 0 [] true,.imm 0 [] true])/\Bb Tryz.prog 27=some [(0,1),(1,1),(2,1),(3,1)]/\TF 27 0 0 3/\TF 27 1 1 3/\TF 27 2 2 24/\TF 27 3 3 25:=by(repeat' first|apply And.intro|unfold TF)<;>kernel_rfl
@[go_sem] theorem ty29:TY 29 5 88 (some true) none none none false none false false (.agg [.imm 0 [] true,.int .i64 0,.int .i64 0,.imm 0 [] true,.imm 0 [] true])/\Bb Tryz.prog 29=some [(0,1),(1,4)]/\TF 29 0 0 23/\TF 29 1 1 27:=by(repeat' first|apply And.intro|unfold TF)<;>kernel_rfl
@[go_sem] theorem ty30:TY 30 1 24 (some false) (some 42) none none false none false false (.imm 0 [] true):=by(repeat' apply And.intro)<;>kernel_rfl
@[go_sem] theorem ty31:TY 31 1 24 (some false) (some 198) none none false none false false (.imm 0 [] true):=by(repeat' apply And.intro)<;>kernel_rfl
@[go_sem] theorem ty32:TY 32 1 24 (some false) (some 103) none none false none false false (.imm 0 [] true):=by(repeat' apply And.intro)<;>kernel_rfl
@[go_sem] theorem ty33:TY 33 1 24 (some false) (some 115) none none false none false false (.imm 0 [] true):=by(repeat' apply And.intro)<;>kernel_rfl
@[go_sem] theorem ty34:TY 34 1 24 (some false) (some 118) none none false none false false (.imm 0 [] true):=by(repeat' apply And.intro)<;>kernel_rfl
@[go_sem] theorem ty36:TY 36 4 96 (some true) none none none false none false false (.agg [.imm 0 [] true,.imm 0 [] true,.imm 0 [] true,.imm 0 [] true])/\Bb Tryz.prog 36=some [(0,1),(1,1),(2,1),(3,1)]/\TF 36 0 0 31/\TF 36 1 1 32/\TF 36 2 2 33/\TF 36 3 3 34:=by(repeat' first|apply And.intro|unfold TF)<;>kernel_rfl
@[go_sem] theorem ty38:TY 38 11 232 (some true) none none none false none false false (.agg [.imm 0 [] true,.imm 0 [] true,.int .i64 0,.int .i64 0,.imm 0 [] true,.imm 0 [] true,.imm 0 [] true,.imm 0 [] true,.imm 0 [] true,.imm 0 [] true,.imm 0 [] true])/\Bb Tryz.prog 38=some [(0,1),(1,5),(6,1),(7,4)]/\TF 38 0 0 22/\TF 38 1 1 29/\TF 38 2 6 30/\TF 38 3 7 36:=by(repeat' first|apply And.intro|unfold TF)<;>kernel_rfl
@[go_sem] theorem ty40:TY 40 3 24 (some true) none none none false none false false (.agg [.int .i64 0,.int .i64 0,.int .i64 0])/\Bb Tryz.prog 40=some [(0,1),(1,1),(2,1)]/\TF 40 0 0 3/\TF 40 1 1 3/\TF 40 2 2 3:=by(repeat' first|apply And.intro|unfold TF)<;>kernel_rfl
@[go_sem] theorem ty42:TY 42 3 32 (some true) none none none false none false false (.agg [.int .i64 0,.str .empty,.int .i64 0])/\Bb Tryz.prog 42=some [(0,1),(1,1),(2,1)]/\TF 42 0 0 3/\TF 42 1 1 9/\TF 42 2 2 3:=by(repeat' first|apply And.intro|unfold TF)<;>kernel_rfl
@[go_sem] theorem ty44:TY 44 7 64 (some true) none none none false none false false (.agg [.int .i64 0,.int .i64 0,.int .i64 0,.int .i64 0,.int .i64 0,.str .empty,.int .i64 0])/\Bb Tryz.prog 44=some [(0,1),(1,3),(4,3)]/\TF 44 0 0 3/\TF 44 1 1 40/\TF 44 2 4 42:=by(repeat' first|apply And.intro|unfold TF)<;>kernel_rfl
@[go_sem] theorem ty47:TY 47 1 8 (some false) none none none false (some .i64) false false (.int .i64 0):=by(repeat' apply And.intro)<;>kernel_rfl
@[go_sem] theorem ty61:TY 61 1 24 (some false) (some 3) none none false none false false (.imm 0 [] true):=by(repeat' apply And.intro)<;>kernel_rfl
@[go_sem] theorem ty68:TY 68 1 24 (some false) (some 169) none none false none false false (.imm 0 [] true):=by(repeat' apply And.intro)<;>kernel_rfl
@[go_sem] theorem ty70:TY 70 11 176 (some true) none none none false none false false (.agg [.int .i64 0,.int .i64 0,.int .i64 0,.str .empty,.imm 0 [] true,.int .i64 0,.int .i64 0,.imm 0 [] true,.imm 0 [] true,.imm 0 [] true,.imm 0 [] true])/\Bb Tryz.prog 70=some [(0,1),(1,1),(2,1),(3,1),(4,5),(9,1),(10,1)]/\TF 70 0 0 3/\TF 70 1 1 3/\TF 70 2 2 3/\TF 70 3 3 9/\TF 70 4 4 29/\TF 70 5 9 22/\TF 70 6 10 68:=by(repeat' first|apply And.intro|unfold TF)<;>kernel_rfl
@[go_sem] theorem ty72:TY 72 1 8 (some false) none none none false none false true .nilp:=by(repeat' apply And.intro)<;>kernel_rfl
@[go_sem] theorem ty79:TY 79 7 104 (some true) none none none false none false false (.agg [.imm 0 [] true,.int .i64 0,.int .i64 0,.imm 0 [] true,.imm 0 [] true,.bool false,.int .i64 0])/\Bb Tryz.prog 79=some [(0,5),(5,1),(6,1)]/\TF 79 0 0 29/\TF 79 1 5 4/\TF 79 2 6 3:=by(repeat' first|apply And.intro|unfold TF)<;>kernel_rfl
@[go_sem] theorem ty81:TY 81 1 8 (some false) none none none false none false false .nilf:=by(repeat' apply And.intro)<;>kernel_rfl
@[go_sem] theorem ty85:TY 85 1 8 (some false) none none (some (89,90)) false none false false .nilm:=by(repeat' apply And.intro)<;>kernel_rfl
@[go_sem] theorem ty86:TY 86 1 24 (some false) (some 89) none none false none false false (.imm 0 [] true):=by(repeat' apply And.intro)<;>kernel_rfl
@[go_sem] theorem ty89:TY 89 2 16 (some true) none none none false none false false (.agg [.int .i64 0,.int .i64 0])/\Bb Tryz.prog 89=some [(0,1),(1,1)]/\TF 89 0 0 3/\TF 89 1 1 3:=by(repeat' first|apply And.intro|unfold TF)<;>kernel_rfl
@[go_sem] theorem ty90:TY 90 2 2 (some true) none (some (2,4)) none false none false false (.agg [.bool false,.bool false])/\Bb Tryz.prog 90=some [(0,1),(1,1)]:=by(repeat' apply And.intro)<;>kernel_rfl
@[go_sem] theorem ty94:TY 94 1 8 (some false) none none none false none false false .nilf:=by(repeat' apply And.intro)<;>kernel_rfl
@[go_sem] theorem ty96:TY 96 1 8 (some false) none none none false none false false .nilf:=by(repeat' apply And.intro)<;>kernel_rfl
@[go_sem] theorem ty101:TY 101 1 24 (some false) (some 106) none none false none false false (.imm 0 [] true):=by(repeat' apply And.intro)<;>kernel_rfl
@[go_sem] theorem ty103:TY 103 2 32 (some true) none none none false none false false (.agg [.int .i64 0,.imm 0 [] true])/\Bb Tryz.prog 103=some [(0,1),(1,1)]/\TF 103 0 0 3/\TF 103 1 1 101:=by(repeat' first|apply And.intro|unfold TF)<;>kernel_rfl
@[go_sem] theorem ty106:TY 106 4 40 (some true) none none none false none false false (.agg [.int .i64 0,.int .i64 0,.str .empty,.int .i64 0])/\Bb Tryz.prog 106=some [(0,1),(1,1),(2,1),(3,1)]/\TF 106 0 0 3/\TF 106 1 1 3/\TF 106 2 2 9/\TF 106 3 3 3:=by(repeat' first|apply And.intro|unfold TF)<;>kernel_rfl
@[go_sem] theorem ty107:TY 107 1 8 (some false) none none none false none false false .nilf:=by(repeat' apply And.intro)<;>kernel_rfl
@[go_sem] theorem ty115:TY 115 6 64 (some true) none none none false none false false (.agg [.int .i64 0,.int .i64 0,.str .empty,.int .i64 0,.str .empty,.bool false])/\Bb Tryz.prog 115=some [(0,1),(1,1),(2,1),(3,1),(4,1),(5,1)]/\TF 115 0 0 3/\TF 115 1 1 3/\TF 115 2 2 9/\TF 115 3 3 3/\TF 115 4 4 9/\TF 115 5 5 4:=by(repeat' first|apply And.intro|unfold TF)<;>kernel_rfl
@[go_sem] theorem ty118:TY 118 2 32 (some true) none none none false none false false (.agg [.str .empty,.str .empty])/\Bb Tryz.prog 118=some [(0,1),(1,1)]/\TF 118 0 0 9/\TF 118 1 1 9:=by(repeat' first|apply And.intro|unfold TF)<;>kernel_rfl
@[go_sem] theorem ty130:TY 130 1 8 (some false) none none none false none false false .nilf:=by(repeat' apply And.intro)<;>kernel_rfl
@[go_sem] theorem ty134:TY 134 1 8 (some false) none none none false none false true .nilp:=by(repeat' apply And.intro)<;>kernel_rfl
@[go_sem] theorem ty140:TY 140 3 16 (some true) none none none false none false false (.agg [.bool false,.bool false,.int .i64 0])/\Bb Tryz.prog 140=some [(0,1),(1,1),(2,1)]/\TF 140 0 0 4/\TF 140 1 1 4/\TF 140 2 2 3:=by(repeat' first|apply And.intro|unfold TF)<;>kernel_rfl
@[go_sem] theorem ty141:TY 141 1 8 (some false) none none (some (3,3)) false none false false .nilm:=by(repeat' apply And.intro)<;>kernel_rfl
@[go_sem] theorem ty142:TY 142 1 8 (some false) none none (some (3,4)) false none false false .nilm:=by(repeat' apply And.intro)<;>kernel_rfl
@[go_sem] theorem ty144:TY 144 6 48 (some true) none none none false none false false (.agg [.nilm,.nilm,.nilm,.nilm,.nilm,.int .i64 0])/\Bb Tryz.prog 144=some [(0,1),(1,1),(2,1),(3,1),(4,1),(5,1)]/\TF 144 0 0 141/\TF 144 1 1 142/\TF 144 2 2 142/\TF 144 3 3 142/\TF 144 4 4 142/\TF 144 5 5 3:=by(repeat' first|apply And.intro|unfold TF)<;>kernel_rfl
@[go_sem] theorem ty146:TY 146 1 8 (some false) none none none false none false false .nilf:=by(repeat' apply And.intro)<;>kernel_rfl
@[go_sem] theorem ty147:TY 147 1 24 (some false) (some 3) none none false none false false (.imm 0 [] true):=by(repeat' apply And.intro)<;>kernel_rfl
@[go_sem] theorem ty150:TY 150 1 8 (some false) none none none false none false false .nilf:=by(repeat' apply And.intro)<;>kernel_rfl
@[go_sem] theorem ty154:TY 154 1 8 (some false) none none none false none false false .nilf:=by(repeat' apply And.intro)<;>kernel_rfl
@[go_sem] theorem ty155:TY 155 1 8 (some false) none none (some (89,3)) false none false false .nilm:=by(repeat' apply And.intro)<;>kernel_rfl
@[go_sem] theorem ty159:TY 159 1 24 (some false) (some 239) none none false none false false (.imm 0 [] true):=by(repeat' apply And.intro)<;>kernel_rfl
@[go_sem] theorem ty164:TY 164 4 32 (some true) none none none false none false false (.agg [.int .i64 0,.int .i64 0,.int .i64 0,.bool false])/\Bb Tryz.prog 164=some [(0,1),(1,1),(2,1),(3,1)]/\TF 164 0 0 3/\TF 164 1 1 3/\TF 164 2 2 3/\TF 164 3 3 4:=by(repeat' first|apply And.intro|unfold TF)<;>kernel_rfl
@[go_sem] theorem ty166:TY 166 2 16 (some true) none none none false none false false (.agg [.int .i64 0,.int .i64 0])/\Bb Tryz.prog 166=some [(0,1),(1,1)]/\TF 166 0 0 3/\TF 166 1 1 3:=by(repeat' first|apply And.intro|unfold TF)<;>kernel_rfl
@[go_sem] theorem ty167:TY 167 1 24 (some false) (some 171) none none false none false false (.imm 0 [] true):=by(repeat' apply And.intro)<;>kernel_rfl
@[go_sem] theorem ty169:TY 169 6 112 (some true) none none none false none false false (.agg [.imm 0 [] true,.int .i64 0,.int .i64 0,.imm 0 [] true,.imm 0 [] true,.imm 0 [] true])/\Bb Tryz.prog 169=some [(0,5),(5,1)]/\TF 169 0 0 29/\TF 169 1 5 167:=by(repeat' first|apply And.intro|unfold TF)<;>kernel_rfl
@[go_sem] theorem ty171:TY 171 7 120 (some true) none none none false none false false (.agg [.int .i64 0,.imm 0 [] true,.int .i64 0,.int .i64 0,.imm 0 [] true,.imm 0 [] true,.imm 0 [] true])/\Bb Tryz.prog 171=some [(0,1),(1,5),(6,1)]/\TF 171 0 0 3/\TF 171 1 1 29/\TF 171 2 6 22:=by(repeat' first|apply And.intro|unfold TF)<;>kernel_rfl
@[go_sem] theorem ty176:TY 176 4 40 (some true) none none none false none false false (.agg [.imm 0 [] true,.bool false,.bool false,.int .i64 0])/\Bb Tryz.prog 176=some [(0,1),(1,3)]/\TF 176 0 0 22/\TF 176 1 1 140:=by(repeat' first|apply And.intro|unfold TF)<;>kernel_rfl
@[go_sem] theorem ty179:TY 179 1 8 (some false) none none none false none false false .nilf:=by(repeat' apply And.intro)<;>kernel_rfl
@[go_sem] theorem ty186:TY 186 1 8 (some false) none none none false none false false .nilf:=by(repeat' apply And.intro)<;>kernel_rfl
@[go_sem] theorem ty190:TY 190 1 8 (some false) none none none false none false false .nilf:=by(repeat' apply And.intro)<;>kernel_rfl
@[go_sem] theorem ty193:TY 193 2 16 (some true) none none none false none false false (.agg [.int .i64 0,.int .i64 0])/\Bb Tryz.prog 193=some [(0,1),(1,1)]/\TF 193 0 0 3/\TF 193 1 1 3:=by(repeat' first|apply And.intro|unfold TF)<;>kernel_rfl
@[go_sem] theorem ty198:TY 198 6 72 (some true) none none none false none false false (.agg [.int .i64 0,.int .i64 0,.str .empty,.int .i64 0,.int .i64 0,.imm 0 [] true])/\Bb Tryz.prog 198=some [(0,1),(1,1),(2,1),(3,1),(4,1),(5,1)]/\TF 198 0 0 3/\TF 198 1 1 3/\TF 198 2 2 9/\TF 198 3 3 3/\TF 198 4 4 3/\TF 198 5 5 23:=by(repeat' first|apply And.intro|unfold TF)<;>kernel_rfl
@[go_sem] theorem ty199:TY 199 1 8 (some false) none none none false none false false .nilf:=by(repeat' apply And.intro)<;>kernel_rfl
@[go_sem] theorem ty201:TY 201 1 8 (some false) none none none false none false false .nilf:=by(repeat' apply And.intro)<;>kernel_rfl
@[go_sem] theorem ty204:TY 204 1 8 (some false) none none none false none false false .nilf:=by(repeat' apply And.intro)<;>kernel_rfl
@[go_sem] theorem ty205:TY 205 1 8 (some false) none none none false none false false .nilf:=by(repeat' apply And.intro)<;>kernel_rfl
@[go_sem] theorem ty206:TY 206 1 8 (some false) none none none false none false false .nilf:=by(repeat' apply And.intro)<;>kernel_rfl
@[go_sem] theorem ty210:TY 210 1 8 (some false) none none none false none false false .nilf:=by(repeat' apply And.intro)<;>kernel_rfl
@[go_sem] theorem ty213:TY 213 1 8 (some false) none none none false (some .u64) false false (.int .u64 0):=by(repeat' apply And.intro)<;>kernel_rfl
@[go_sem] theorem ty218:TY 218 2 48 (some true) none none none false none false false (.agg [.imm 0 [] true,.imm 0 [] true])/\Bb Tryz.prog 218=some [(0,1),(1,1)]/\TF 218 0 0 61/\TF 218 1 1 61:=by(repeat' first|apply And.intro|unfold TF)<;>kernel_rfl
@[go_sem] theorem ty219:TY 219 1 24 (some false) (some 47) none none false none false false (.imm 0 [] true):=by(repeat' apply And.intro)<;>kernel_rfl
@[go_sem] theorem ty226:TY 226 1 8 (some false) none none none false none false false .nilf:=by(repeat' apply And.intro)<;>kernel_rfl
@[go_sem] theorem ty228:TY 228 1 8 (some false) none none none false none false false .nilf:=by(repeat' apply And.intro)<;>kernel_rfl
@[go_sem] theorem ty239:TY 239 2 16 (some true) none (some (2,3)) none false none false false (.agg [.int .i64 0,.int .i64 0])/\Bb Tryz.prog 239=some [(0,1),(1,1)]:=by(repeat' apply And.intro)<;>kernel_rfl
@[go_sem] theorem ty243:TY 243 1 8 (some false) none none none false none false false .nilf:=by(repeat' apply And.intro)<;>kernel_rfl
@[go_sem] theorem ty259:TY 259 1 8 (some false) none none none false none false false .nilf:=by(repeat' apply And.intro)<;>kernel_rfl
@[go_sem] theorem ty262:TY 262 1 8 (some false) none none none false none false false .nilf:=by(repeat' apply And.intro)<;>kernel_rfl
@[go_sem] theorem ty278:TY 278 1 8 (some false) none none none false none false false .nilf:=by(repeat' apply And.intro)<;>kernel_rfl
@[go_sem] theorem ty282:TY 282 1 8 (some false) none none none false none false false .nilf:=by(repeat' apply And.intro)<;>kernel_rfl
@[go_sem] theorem ty285:TY 285 1 8 (some false) none none none false none false false .nilf:=by(repeat' apply And.intro)<;>kernel_rfl
@[go_sem] theorem ty289:TY 289 1 24 (some false) (some 291) none none false none false false (.imm 0 [] true):=by(repeat' apply And.intro)<;>kernel_rfl
@[go_sem] theorem ty291:TY 291 2 16 (some true) none none none false none false false (.agg [.int .i64 0,.bool false])/\Bb Tryz.prog 291=some [(0,1),(1,1)]/\TF 291 0 0 3/\TF 291 1 1 4:=by(repeat' first|apply And.intro|unfold TF)<;>kernel_rfl
@[go_sem] theorem ty299:TY 299 1 8 (some false) none none none false (some .i64) false false (.int .i64 0):=by(repeat' apply And.intro)<;>kernel_rfl
@[go_sem] theorem ty306:TY 306 1 4 (some false) none none none false (some .u32) false false (.int .u32 0):=by(repeat' apply And.intro)<;>kernel_rfl
@[go_sem] theorem ty308:TY 308 1 8 (some false) none none none false (some .u64) false false (.int .u64 0):=by(repeat' apply And.intro)<;>kernel_rfl
@[go_sem] theorem ty309:TY 309 1 8 (some false) none none none false none false false .nilf:=by(repeat' apply And.intro)<;>kernel_rfl
@[go_sem] theorem ty311:TY 311 1 24 (some false) (some 61) none none false none false false (.imm 0 [] true):=by(repeat' apply And.intro)<;>kernel_rfl
@[go_sem] theorem ty319:TY 319 1 24 (some false) (some 22) none none false none false false (.imm 0 [] true):=by(repeat' apply And.intro)<;>kernel_rfl
@[go_sem] theorem ty323:TY 323 1 8 (some false) none none none false none false false .nilf:=by(repeat' apply And.intro)<;>kernel_rfl
@[go_sem] theorem ty329:TY 329 1 8 (some false) none none none false none false false .nilf:=by(repeat' apply And.intro)<;>kernel_rfl
@[go_sem] theorem ty333:TY 333 6 56 (some true) none none none false none false false (.agg [.int .i64 0,.int .i64 0,.int .i64 0,.int .i64 0,.int .i64 0,.str .empty])/\Bb Tryz.prog 333=some [(0,1),(1,1),(2,1),(3,1),(4,1),(5,1)]/\TF 333 0 0 3/\TF 333 1 1 3/\TF 333 2 2 3/\TF 333 3 3 3/\TF 333 4 4 3/\TF 333 5 5 9:=by(repeat' first|apply And.intro|unfold TF)<;>kernel_rfl
@[go_sem] theorem ty342:TY 342 1 8 (some false) none none none false (some .u64) false false (.int .u64 0):=by(repeat' apply And.intro)<;>kernel_rfl
@[go_sem] theorem ty361:TY 361 1 24 (some false) (some 366) none none false none false false (.imm 0 [] true):=by(repeat' apply And.intro)<;>kernel_rfl
@[go_sem] theorem ty366:TY 366 3 32 (some true) none none none false none false false (.agg [.str .empty,.int .i64 0,.bool false])/\Bb Tryz.prog 366=some [(0,1),(1,1),(2,1)]/\TF 366 0 0 9/\TF 366 1 1 3/\TF 366 2 2 4:=by(repeat' first|apply And.intro|unfold TF)<;>kernel_rfl
@[go_sem] theorem ty367:TY 367 1 8 (some false) none none none false none false false .nilf:=by(repeat' apply And.intro)<;>kernel_rfl
@[go_sem] theorem ty368:TY 368 1 24 (some false) (some 333) none none false none false false (.imm 0 [] true):=by(repeat' apply And.intro)<;>kernel_rfl
@[go_sem] theorem ty371:TY 371 1 8 (some false) none none none false none false false .nilf:=by(repeat' apply And.intro)<;>kernel_rfl
@[go_sem] theorem ty381:TY 381 1 24 (some false) (some 5) none none false none false false (.imm 0 [] true):=by(repeat' apply And.intro)<;>kernel_rfl
@[go_sem] theorem ty382:TY 382 1 8 (some false) none none none false none false false .nilf:=by(repeat' apply And.intro)<;>kernel_rfl
@[go_sem] theorem ty383:TY 383 1 8 (some false) none none none false none false true .nilp:=by(repeat' apply And.intro)<;>kernel_rfl
@[go_sem] theorem ty384:TY 384 1 8 (some false) none none none false none false true .nilp:=by(repeat' apply And.intro)<;>kernel_rfl
@[go_sem] theorem ty386:TY 386 2 32 (some true) none none none false none false false (.agg [.nilp,.imm 0 [] true])/\Bb Tryz.prog 386=some [(0,1),(1,1)]/\TF 386 0 0 384/\TF 386 1 1 381:=by(repeat' first|apply And.intro|unfold TF)<;>kernel_rfl
@[go_sem] theorem ty388:TY 388 7 96 (some true) none none none false none false false (.agg [.str .empty,.int .i64 0,.nilp,.imm 0 [] true,.imm 0 [] true,.int .i64 0,.int .i64 0])/\Bb Tryz.prog 388=some [(0,1),(1,1),(2,2),(4,1),(5,1),(6,1)]/\TF 388 0 0 9/\TF 388 1 1 3/\TF 388 2 2 386/\TF 388 3 4 361/\TF 388 4 5 3/\TF 388 5 6 47:=by(repeat' first|apply And.intro|unfold TF)<;>kernel_rfl
@[go_sem] theorem ty391:TY 391 1 8 (some false) none none none false none false false .nilf:=by(repeat' apply And.intro)<;>kernel_rfl
@[go_sem] theorem ty403:TY 403 1 8 (some false) none none none false none false false .nilp:=by(repeat' apply And.intro)<;>kernel_rfl
@[go_sem] theorem ty405:TY 405 1 8 (some false) none none none false none false true .nilp:=by(repeat' apply And.intro)<;>kernel_rfl
attribute [go_sem] Gq Ke Nh Dg C2 EH Gp Ai EB Ec callee ofValue G9 P4 Bg GC JS J7 OC UZ YO G5 DH HF flat Dw Hd Oi LI Tl Tj Jd OB Gx G2 Sw JE KX Cs.app FO
 SV.cells SV.storable
section
variable (P : Program) (h : Hp) (n : Nat) (t t2 : TypeId)
@[go_sem] theorem Zj (x:SV):AU P h n .len [t] [x]=match x with
 | .str s=>if FC P t then EH (.int .i64 s.size)else none
 | .imm _ es _=>if(A9 P t).isSome then EH (.int .i64 es.length)else none
 | .sl _ _ _ len _=>if(A9 P t).isSome then EH (.int .i64 len)else none
 | .map o=>match h o with|some (.map es)=>if(Ko P t).isSome then EH (.int .i64 es.length)else none|_=>none
 | _=>none:=by cases x<;>rfl
@[go_sem] theorem Zi (x:SV):AU P h n .cap [t] [x]=match x with
 | .imm _ es true=>if(A9 P t).isSome then EH (.int .i64 es.length)else none
 | .sl _ _ _ len true=>if(A9 P t).isSome then EH (.int .i64 len)else none
 | _=>none:=by cases x<;>rfl
@[go_sem] theorem ZM (d x:SV):AU P h n .copy [t,t2] [d,x]=Oi P h t d x:=rfl
@[go_sem] theorem XQ (d:SV):AU P h n .clear [t] [d]=LI P h t d:=rfl
@[go_sem] theorem Zl (ts:List TypeId) (l:List SV):AU P h n .min ts l=(Tl l).bind EH:=by simp[AU]
@[go_sem] theorem Zk (ts:List TypeId) (l:List SV):AU P h n .max ts l=(Tj l).bind EH:=by simp[AU]
@[go_sem] theorem W8 (o:Nat) (k:SV):AU P h n .delete [t,t2] [.map o,k]=match Ko P t,h o with
 | some (kt,_),some (.map es)=>
  if !CK P kt k then none else
  match DH k es 0 with
  | some (some (i,_))=>some { val:=.tup [],upd:=some (o,some (.map (es.eraseIdx i))) }
  | some none=>some { val:=.tup [],upd:=some (o,some (.map es)) }
  | none=>none
 | _,_=>none:=rfl
end
theorem follows:Proofs.Tryz.prog.follows .mixedOrders=true:=by kernel_rfl
section
variable {E : B6} {P : Program} {N : Nat}
end
attribute [simp] IO
theorem Fz.any {h h2:Hp}:∀(k:Nat) {v r:SV},Fz (λ_=>none) (λ_=>none) k v r->Fz h h2 k v r
 | 0,_,_,H=>H
 | k+1,v,r,H=>by
  have ih:∀{us bs:List SV},AZ (Fz (λ_=>none) (λ_=>none) k) us bs->AZ (Fz h h2 k) us bs:=λH=>H.mono λ_ _=>Fz.any k;rcases H with H|H;exact .inl H;refine .inr ?_;split at H;trivial;obtain⟨_,_,_,_,_,_,h1,_⟩:=H;cases h1;obtain⟨_,_,h1,_⟩:=H;cases h1;exact ih H;exact ih H;exact⟨H.1,ih H.2.1,ih H.2.2⟩;exact ih H;exact⟨H.1,H.2.1,ih H.2.2.1,H.2.2.2⟩;exact H;exact H.elim
section
variable {E : B6} {P : Program} {N : Nat}
theorem FR.fz {sa sb:SA} {h h2:Hp} {c:Cx} {a:Act} (k:Nat) (R:Bn h c) (hs:∀o x,h2 o=some x->h o=some x) (A:FR E N sa c a) (hw:∀p∈sb,Fz h h2 k (Ai sa p.1) p.2):FR E N sb (c.less h2) a:=by
 refine⟨A.size,A.defers.mono (DU R hs),λt=>?_⟩;have key:∀l:SA,(∀p∈l,Fz h h2 k (Ai sa p.1) p.2)->Ai l t=.junk\/Fz h h2 k (Ai sa t) (Ai l t):=by
  intro l
  induction l with
  | nil=>intro _;exact .inl rfl
  | cons p l ih=>
   intro hl;obtain⟨j,x⟩:=p;simp only[Ai];by_cases e:j=t;subst e;simp only[if_true];exact .inr (hl (j,x) (by simp));simp only[e,if_false];exact ih λq hq=>hl q (by simp[hq])
 rcases key sb hw with e|e;rw[e];simp[V];exact Fz.sound R hs k e (A.val t)
theorem Nc {code:Code} {Q:Ce} {sa sb:SA} {h h2:Hp} {n m:Nat} (k:Nat) (hs:∀o x,h2 o=some x->h o=some x) (hm:n<=m) (hw:∀p∈sb,Fz h h2 k (Ai sa p.1) p.2) (H:Fs E P N code Q sb h2 m):Fs E P N code Q sa h n:=by
 intro hd c a I R F A;have F':Fr m (c.less h2):=λj hj=>F j (qr hm hj);refine wpIn_mono (H hd (c.less h2) a (E.ext (DU R hs) I) (R.less hs) F' (A.fz k R hs hw)) ?_;rintro e a' w' ⟨sa',h',n',c',q,hw,R',Fr',A',X⟩;refine⟨sa',h',n',c',q,hw,R',Fr',A',⟨(DU R hs).trans X.ext,qr hm X.le,λj hj=>?_⟩⟩;exact X.same j (kq hj hm)
theorem Ak.fz {f:FuncId} {us bs:List SV} {h h2:Hp} {n:Nat} {K:SV->Hp->Nat->Prop} (k:Nat) (hs:∀o x,h2 o=some x->h o=some x) (hw:AZ (Fz h h2 k) us bs) (H:Ak E P f bs h2 n K):Ak E P f us h n K:=by
 refine⟨H.1,λc vs I R F A=>?_⟩;have A':AZ (V (c.less h2)) bs vs:=AZ.trans3 (R:=V c) (S:=Fz h h2 k) (T:=V (c.less h2)) (λa b g h1 h2=>Fz.sound R hs k h2 h1) A hw;refine(H.2 (c.less h2) vs (E.ext (DU R hs) I) (R.less hs) F A').mono ?_;rintro e w' ⟨u,v,h',n',c',he,q,hw,hv,R',F',X⟩;exact⟨u,v,h',n',c',he,q,hw,hv,R',F',⟨(DU R hs).trans X.ext,X.le,X.same⟩⟩
theorem Fy.wk {f:FuncId} {us bs:List SV} {v:SV} (k:Nat) (H:Fy P f bs v) (hw:AZ (Fz (λ_=>none) (λ_=>none) k) us bs):Fy P f us v:=λh n=>
 Ak.fz k (λ_ _ e=>e) (hw.mono λ_ _=>Fz.any k) (H h n)
mutual
def Ee:SV->Bool
 | .bool _|.int _ _|.str _|.nilp|.nilf|.nilm|.junk=>true
 | .agg cs=>Lu cs
 | .tup cs=>Lu cs
 | _=>false
def Lu:List SV->Bool
 | []=>true
 | s::ss=>Ee s&&Lu ss
end
mutual
theorem V.plain {c c':Cx}:∀{s:SV} {v:Value},Ee s=true->V c s v->V c' s v
 | .bool _,_,_,h=>h
 | .int _ _,_,_,h=>h
 | .str _,_,_,h=>h
 | .nilp,_,_,h=>h
 | .nilf,_,_,h=>h
 | .nilm,_,_,h=>h
 | .junk,_,_,_=>trivial
 | .agg cs,v,hp,h=>by rw[V]at *;rw[Ee]at hp;obtain⟨vs,e,hl,ho⟩:=h;exact⟨vs,e,VL.plain hp hl,ho⟩
 | .tup cs,v,hp,h=>by rw[V]at *;rw[Ee]at hp;obtain⟨vs,e,hl⟩:=h;exact⟨vs,e,VL.plain hp hl⟩
 | .fn _ _ _,_,hp,_=>by simp[Ee]at hp
 | .ptr _ _,_,hp,_=>by simp[Ee]at hp
 | .iptr _,_,hp,_=>by simp[Ee]at hp
 | .sl _ _ _ _ _,_,hp,_=>by simp[Ee]at hp
 | .slc _ _ _ _ _,_,hp,_=>by simp[Ee]at hp
 | .imm _ _ _,_,hp,_=>by simp[Ee]at hp
 | .map _,_,hp,_=>by simp[Ee]at hp
theorem VL.plain {c c':Cx}:∀{s:List SV} {v:List Value},Lu s=true->VL c s v->VL c' s v
 | [],_,_,h=>by rw[VL]at *;exact h
 | s::ss,v,hp,h=>by rw[VL]at *;rw[Lu,qq]at hp;obtain⟨u,r,e,h1,h2⟩:=h;exact⟨u,r,e,V.plain hp.1 h1,VL.plain hp.2 h2⟩
end
theorem Fy.lend {f:FuncId} {us bs:List SV} {v:SV} {h:Hp} {n:Nat} {K:SV->Hp->Nat->Prop} (k:Nat) (H:Fy P f bs v) (hv:Ee v=true) (hw:AZ (Fz h (λ_=>none) k) us bs) (hk:K v h n):Ak E P f us h n K:=by
 refine⟨(H h n).1,λc vs _ R F A=>?_⟩;have hs:∀o x,(λ_=>none:Hp) o=some x->h o=some x:=λ_ _ e=>by cases e
 have A':AZ (V (c.less λ_=>none)) bs vs:=AZ.trans3 (R:=V c) (S:=Fz h (λ_=>none) k) (T:=V (c.less λ_=>none)) (λa b g h1 h2=>Fz.sound R hs k h2 h1) A hw;refine((H (λ_=>none) n).2 (c.less λ_=>none) vs trivial (R.less hs) F A').mono ?_;rintro e w' ⟨u,v',h',n',c',he,⟨rfl,rfl,rfl⟩,rfl,hv',R',F',X0⟩;have hno:∀b,¬(c.less λ_=>none).own b:=λb ⟨o,x,e,_⟩=>by cases e
 have hρ:∀j,c'.ρ j=c.ρ j:=λj=>by
  rcases ji j n' with hj|hj;exact X0.same j hj;rw[F' j hj,F j hj]
 have X:DZ c { c with w:=c'.w }:=⟨λ_ _ e=>e,X0.ext.size,λb hb ho=>⟨ho,(X0.ext.keep b hb (hno b)).2⟩,X0.ext.room,X0.ext.os,X0.ext.out,X0.ext.td⟩
 refine⟨u,v',h,n',{ c with w:=c'.w },he,hk,rfl,hv'.plain hv,⟨λo x ho=>?_,R.inj2,R.own2⟩,F,⟨X,qa _,λ_ _=>rfl⟩⟩;refine(R.obj o x ho).mono X λb hb=>?_;exact(X0.ext.keep b ((R.obj o x ho).hold_lt hb) (hno b)).2
theorem Fy.lendU {f:FuncId} {us bs:List SV} {v:SV} {h:Hp} (k:Nat) (foot:List Nat) (H:Fy P f bs v) (hv:Ee v=true) (hw:∀h',(∀j∈foot,h' j=h j)->AZ (Fz h' (λ_=>none) k) us bs):K8 E P f us foot [] v h:=λh' _n hf=>
 Fy.lend k H hv (hw h' hf) ⟨rfl,rfl,rfl⟩
theorem SW (hm:P.follows .mixedOrders=true) {x:Code} {Q:Ce} {sa:SA} {h:Hp} {n:Nat} {α:Type} (k:Nat) (fr:α->SA) (hp:α->Hp) (I:α->Nat->Prop) (μ:α->Nat) (a0:α) (hI:I a0 n)
 (hfr:∀p∈fr a0,Fz h (hp a0) k (Ai sa p.1) p.2) (hhp:∀o y,hp a0 o=some y->h o=some y)
 (round:∀a n,I a n->Fk E P N x (DX (λsa' h' n'=>∃a',μ a'<μ a/\I a' n'/\(∀p∈fr a',Fz h' (hp a') k (Ai sa' p.1) p.2)/\(∀o y,hp a' o=some y->h' o=some y)) Q) (fr a) (hp a) n):
 Fs E P N (.loop x) Q sa h n:=by
 refine OQ (μ a0) (λm sa h n=>∃a,m=μ a/\I a n/\(∀p∈fr a,Fz h (hp a) k (Ai sa p.1) p.2)/\(∀o y,hp a o=some y->h o=some y)) ⟨a0,rfl,hI,hfr,hhp⟩ ?_;rintro m sa h n ⟨a,rfl,hI,hfr,hhp⟩;refine Nc k hhp (qa _) hfr (GJ (Eo hm _ _ _ _ _ (round a n hI)) ?_);refine FX λsa' h' n' ⟨a',h1,h2,h3,h4⟩=>⟨μ a',h1,a',rfl,h2,h3,h4⟩
end
open Proofs
abbrev FN (f:Func) (n:Nat) (r:List ResultVar):Prop:=f.results.toList=r/\f.ntmps=n
@[go_sem] theorem fr8:FN Tryz.f8 52 [.tmp 6]:=⟨rfl,rfl⟩
@[go_sem] theorem fr11:FN Tryz.f11 60 [.tmp 0]:=⟨rfl,rfl⟩
@[go_sem] theorem fr12:FN Tryz.f12 45 [.tmp 2]:=⟨rfl,rfl⟩
@[go_sem] theorem fr13:FN Tryz.f13 60 [.cell 6 3,.cell 7 3,.tmp 8]:=⟨rfl,rfl⟩
@[go_sem] theorem fr15:FN Tryz.f15 105 [.cell 8 38,.tmp 9]:=⟨rfl,rfl⟩
@[go_sem] theorem fr17:FN Tryz.f17 60 [.tmp 4]:=⟨rfl,rfl⟩
@[go_sem] theorem fr20:FN Tryz.f20 38 [.cell 4 42,.tmp 5]:=⟨rfl,rfl⟩
@[go_sem] theorem fr21:FN Tryz.f21 18 [.cell 2 38]:=⟨rfl,rfl⟩
@[go_sem] theorem fr24:FN Tryz.f24 62 [.tmp 2]:=⟨rfl,rfl⟩
@[go_sem] theorem fr27:FN Tryz.f27 141 [.cell 6 38,.tmp 7]:=⟨rfl,rfl⟩
@[go_sem] theorem fr28:FN Tryz.f28 42 [.cell 6 38,.tmp 7]:=⟨rfl,rfl⟩
@[go_sem] theorem fr32:FN Tryz.f32 9 [.cell 0 38]:=⟨rfl,rfl⟩
@[go_sem] theorem fr33:FN Tryz.f33 133 [.tmp 6]:=⟨rfl,rfl⟩
@[go_sem] theorem fr34:FN Tryz.f34 18 [.cell 4 22,.cell 5 4]:=⟨rfl,rfl⟩
@[go_sem] theorem fr35:FN Tryz.f35 27 [.tmp 2,.tmp 3]:=⟨rfl,rfl⟩
@[go_sem] theorem fr36:FN Tryz.f36 12 []:=⟨rfl,rfl⟩
@[go_sem] theorem fr37:FN Tryz.f37 22 []:=⟨rfl,rfl⟩
@[go_sem] theorem fr38:FN Tryz.f38 9 [.tmp 4]:=⟨rfl,rfl⟩
@[go_sem] theorem fr39:FN Tryz.f39 27 [.cell 8 38]:=⟨rfl,rfl⟩
@[go_sem] theorem fr42:FN Tryz.f42 35 [.tmp 2]:=⟨rfl,rfl⟩
@[go_sem] theorem fr43:FN Tryz.f43 36 []:=⟨rfl,rfl⟩
@[go_sem] theorem fr44:FN Tryz.f44 41 [.tmp 2]:=⟨rfl,rfl⟩
@[go_sem] theorem fr45:FN Tryz.f45 39 [.tmp 4,.tmp 5]:=⟨rfl,rfl⟩
@[go_sem] theorem fr46:FN Tryz.f46 17 [.cell 4 29,.tmp 5]:=⟨rfl,rfl⟩
@[go_sem] theorem fr47:FN Tryz.f47 90 [.cell 6 29]:=⟨rfl,rfl⟩
@[go_sem] theorem fr48:FN Tryz.f48 7 [.tmp 3]:=⟨rfl,rfl⟩
@[go_sem] theorem fr49:FN Tryz.f49 28 [.cell 8 38]:=⟨rfl,rfl⟩
@[go_sem] theorem fr51:FN Tryz.f51 54 [.tmp 4]:=⟨rfl,rfl⟩
@[go_sem] theorem fr52:FN Tryz.f52 18 [.tmp 4]:=⟨rfl,rfl⟩
@[go_sem] theorem fr55:FN Tryz.f55 17 [.tmp 4]:=⟨rfl,rfl⟩
@[go_sem] theorem fr56:FN Tryz.f56 26 [.tmp 4]:=⟨rfl,rfl⟩
@[go_sem] theorem fr57:FN Tryz.f57 8 [.tmp 4]:=⟨rfl,rfl⟩
@[go_sem] theorem fr58:FN Tryz.f58 46 [.tmp 4]:=⟨rfl,rfl⟩
@[go_sem] theorem fr59:FN Tryz.f59 26 [.tmp 4]:=⟨rfl,rfl⟩
@[go_sem] theorem fr60:FN Tryz.f60 8 [.tmp 4]:=⟨rfl,rfl⟩
@[go_sem] theorem fr61:FN Tryz.f61 32 [.tmp 6]:=⟨rfl,rfl⟩
@[go_sem] theorem fr62:FN Tryz.f62 26 [.tmp 4]:=⟨rfl,rfl⟩
@[go_sem] theorem fr63:FN Tryz.f63 26 [.tmp 4]:=⟨rfl,rfl⟩
@[go_sem] theorem fr64:FN Tryz.f64 25 [.tmp 4]:=⟨rfl,rfl⟩
@[go_sem] theorem fr67:FN Tryz.f67 2 [.cell 0 40]:=⟨rfl,rfl⟩
@[go_sem] theorem fr68:FN Tryz.f68 86 [.tmp 6]:=⟨rfl,rfl⟩
@[go_sem] theorem fr69:FN Tryz.f69 2 [.cell 0 40]:=⟨rfl,rfl⟩
@[go_sem] theorem fr71:FN Tryz.f71 37 [.tmp 2]:=⟨rfl,rfl⟩
@[go_sem] theorem fr72:FN Tryz.f72 11 [.tmp 4,.tmp 5]:=⟨rfl,rfl⟩
@[go_sem] theorem fr73:FN Tryz.f73 93 [.tmp 2]:=⟨rfl,rfl⟩
@[go_sem] theorem fr74:FN Tryz.f74 19 [.tmp 2]:=⟨rfl,rfl⟩
@[go_sem] theorem fr75:FN Tryz.f75 42 [.tmp 4]:=⟨rfl,rfl⟩
@[go_sem] theorem fr76:FN Tryz.f76 8 [.tmp 2]:=⟨rfl,rfl⟩
@[go_sem] theorem fr77:FN Tryz.f77 15 [.tmp 3]:=⟨rfl,rfl⟩
@[go_sem] theorem fr78:FN Tryz.f78 54 [.tmp 4,.tmp 5]:=⟨rfl,rfl⟩
@[go_sem] theorem fr79:FN Tryz.f79 16 [.cell 2 38]:=⟨rfl,rfl⟩
@[go_sem] theorem fr82:FN Tryz.f82 15 [.tmp 2]:=⟨rfl,rfl⟩
@[go_sem] theorem fr83:FN Tryz.f83 17 [.tmp 2]:=⟨rfl,rfl⟩
@[go_sem] theorem fr84:FN Tryz.f84 14 [.tmp 2]:=⟨rfl,rfl⟩
@[go_sem] theorem fr85:FN Tryz.f85 64 [.tmp 2]:=⟨rfl,rfl⟩
@[go_sem] theorem fr86:FN Tryz.f86 121 [.tmp 6]:=⟨rfl,rfl⟩
@[go_sem] theorem fr87:FN Tryz.f87 7 [.tmp 4]:=⟨rfl,rfl⟩
@[go_sem] theorem fr88:FN Tryz.f88 11 [.tmp 6]:=⟨rfl,rfl⟩
@[go_sem] theorem fr92:FN Tryz.f92 12 [.tmp 4]:=⟨rfl,rfl⟩
@[go_sem] theorem fr93:FN Tryz.f93 17 []:=⟨rfl,rfl⟩
@[go_sem] theorem fr94:FN Tryz.f94 44 [.tmp 4]:=⟨rfl,rfl⟩
@[go_sem] theorem fr95:FN Tryz.f95 42 [.tmp 4]:=⟨rfl,rfl⟩
@[go_sem] theorem fr96:FN Tryz.f96 9 [.tmp 3]:=⟨rfl,rfl⟩
@[go_sem] theorem fr97:FN Tryz.f97 14 []:=⟨rfl,rfl⟩
@[go_sem] theorem fr98:FN Tryz.f98 17 [.tmp 4]:=⟨rfl,rfl⟩
@[go_sem] theorem fr99:FN Tryz.f99 18 [.tmp 2]:=⟨rfl,rfl⟩
@[go_sem] theorem fr100:FN Tryz.f100 20 [.tmp 4]:=⟨rfl,rfl⟩
@[go_sem] theorem fr101:FN Tryz.f101 61 [.tmp 2]:=⟨rfl,rfl⟩
@[go_sem] theorem fr102:FN Tryz.f102 16 [.cell 5 29,.tmp 6]:=⟨rfl,rfl⟩
@[go_sem] theorem fr103:FN Tryz.f103 140 [.cell 8 29,.tmp 9]:=⟨rfl,rfl⟩
@[go_sem] theorem fr104:FN Tryz.f104 64 [.tmp 4]:=⟨rfl,rfl⟩
@[go_sem] theorem fr105:FN Tryz.f105 31 [.cell 10 29,.tmp 11]:=⟨rfl,rfl⟩
@[go_sem] theorem fr106:FN Tryz.f106 164 [.cell 8 29,.tmp 9,.tmp 10]:=⟨rfl,rfl⟩
@[go_sem] theorem fr109:FN Tryz.f109 7 [.tmp 2]:=⟨rfl,rfl⟩
@[go_sem] theorem fr110:FN Tryz.f110 5 [.tmp 2]:=⟨rfl,rfl⟩
@[go_sem] theorem fr111:FN Tryz.f111 12 [.tmp 2,.tmp 3]:=⟨rfl,rfl⟩
@[go_sem] theorem fr112:FN Tryz.f112 10 [.cell 3 29,.tmp 4]:=⟨rfl,rfl⟩
@[go_sem] theorem fr113:FN Tryz.f113 9 [.tmp 4]:=⟨rfl,rfl⟩
@[go_sem] theorem fr114:FN Tryz.f114 49 [.tmp 2]:=⟨rfl,rfl⟩
@[go_sem] theorem fr115:FN Tryz.f115 168 [.tmp 10]:=⟨rfl,rfl⟩
@[go_sem] theorem fr116:FN Tryz.f116 6 [.tmp 2]:=⟨rfl,rfl⟩
@[go_sem] theorem fr117:FN Tryz.f117 95 [.tmp 6]:=⟨rfl,rfl⟩
@[go_sem] theorem fr118:FN Tryz.f118 20 [.cell 2 29]:=⟨rfl,rfl⟩
@[go_sem] theorem fr119:FN Tryz.f119 9 []:=⟨rfl,rfl⟩
@[go_sem] theorem fr120:FN Tryz.f120 10 [.tmp 4]:=⟨rfl,rfl⟩
@[go_sem] theorem fr121:FN Tryz.f121 91 [.tmp 10]:=⟨rfl,rfl⟩
@[go_sem] theorem fr122:FN Tryz.f122 63 [.tmp 2]:=⟨rfl,rfl⟩
@[go_sem] theorem fr123:FN Tryz.f123 32 [.tmp 6]:=⟨rfl,rfl⟩
@[go_sem] theorem fr124:FN Tryz.f124 52 [.tmp 4]:=⟨rfl,rfl⟩
@[go_sem] theorem fr125:FN Tryz.f125 26 [.tmp 4]:=⟨rfl,rfl⟩
@[go_sem] theorem fr126:FN Tryz.f126 26 [.tmp 4]:=⟨rfl,rfl⟩
@[go_sem] theorem fr127:FN Tryz.f127 26 [.tmp 4]:=⟨rfl,rfl⟩
@[go_sem] theorem fr128:FN Tryz.f128 32 [.tmp 6]:=⟨rfl,rfl⟩
@[go_sem] theorem fr129:FN Tryz.f129 45 [.tmp 4]:=⟨rfl,rfl⟩
@[go_sem] theorem fr130:FN Tryz.f130 8 [.tmp 4]:=⟨rfl,rfl⟩
@[go_sem] theorem fr131:FN Tryz.f131 49 [.tmp 6,.tmp 7]:=⟨rfl,rfl⟩
@[go_sem] theorem fr132:FN Tryz.f132 9 [.tmp 4]:=⟨rfl,rfl⟩
@[go_sem] theorem fr133:FN Tryz.f133 42 [.tmp 4]:=⟨rfl,rfl⟩
@[go_sem] theorem fr134:FN Tryz.f134 22 [.tmp 4]:=⟨rfl,rfl⟩
@[go_sem] theorem fr135:FN Tryz.f135 10 [.cell 2 169]:=⟨rfl,rfl⟩
@[go_sem] theorem fr136:FN Tryz.f136 7 [.tmp 2]:=⟨rfl,rfl⟩
@[go_sem] theorem fr137:FN Tryz.f137 35 []:=⟨rfl,rfl⟩
@[go_sem] theorem fr138:FN Tryz.f138 59 []:=⟨rfl,rfl⟩
@[go_sem] theorem fr139:FN Tryz.f139 9 [.tmp 2]:=⟨rfl,rfl⟩
@[go_sem] theorem fr140:FN Tryz.f140 4 [.tmp 2]:=⟨rfl,rfl⟩
@[go_sem] theorem fr141:FN Tryz.f141 19 [.tmp 4]:=⟨rfl,rfl⟩
@[go_sem] theorem fr142:FN Tryz.f142 17 [.tmp 4]:=⟨rfl,rfl⟩
@[go_sem] theorem fr143:FN Tryz.f143 6 [.tmp 2]:=⟨rfl,rfl⟩
@[go_sem] theorem fr144:FN Tryz.f144 58 [.cell 2 36]:=⟨rfl,rfl⟩
@[go_sem] theorem fr146:FN Tryz.f146 79 [.cell 2 47]:=⟨rfl,rfl⟩
@[go_sem] theorem fr147:FN Tryz.f147 14 [.tmp 2]:=⟨rfl,rfl⟩
@[go_sem] theorem fr148:FN Tryz.f148 14 [.tmp 2]:=⟨rfl,rfl⟩
@[go_sem] theorem fr149:FN Tryz.f149 14 [.tmp 2]:=⟨rfl,rfl⟩
@[go_sem] theorem fr150:FN Tryz.f150 18 [.tmp 4]:=⟨rfl,rfl⟩
@[go_sem] theorem fr151:FN Tryz.f151 25 [.tmp 3]:=⟨rfl,rfl⟩
@[go_sem] theorem fr152:FN Tryz.f152 37 [.tmp 4]:=⟨rfl,rfl⟩
@[go_sem] theorem fr153:FN Tryz.f153 9 [.tmp 3]:=⟨rfl,rfl⟩
@[go_sem] theorem fr154:FN Tryz.f154 15 [.tmp 2]:=⟨rfl,rfl⟩
@[go_sem] theorem fr155:FN Tryz.f155 15 [.tmp 6]:=⟨rfl,rfl⟩
@[go_sem] theorem fr156:FN Tryz.f156 64 [.tmp 4]:=⟨rfl,rfl⟩
@[go_sem] theorem fr157:FN Tryz.f157 41 [.tmp 6]:=⟨rfl,rfl⟩
@[go_sem] theorem fr158:FN Tryz.f158 12 [.tmp 5]:=⟨rfl,rfl⟩
@[go_sem] theorem fr159:FN Tryz.f159 64 [.tmp 8]:=⟨rfl,rfl⟩
@[go_sem] theorem fr160:FN Tryz.f160 13 [.tmp 5]:=⟨rfl,rfl⟩
@[go_sem] theorem fr161:FN Tryz.f161 117 [.tmp 6]:=⟨rfl,rfl⟩
@[go_sem] theorem fr166:FN Tryz.f166 9 [.tmp 4]:=⟨rfl,rfl⟩
@[go_sem] theorem fr167:FN Tryz.f167 19 [.tmp 4]:=⟨rfl,rfl⟩
@[go_sem] theorem fr168:FN Tryz.f168 148 []:=⟨rfl,rfl⟩
@[go_sem] theorem fr169:FN Tryz.f169 8 [.tmp 2]:=⟨rfl,rfl⟩
@[go_sem] theorem fr170:FN Tryz.f170 6 [.tmp 2]:=⟨rfl,rfl⟩
@[go_sem] theorem fr171:FN Tryz.f171 20 [.cell 9 29,.tmp 10]:=⟨rfl,rfl⟩
@[go_sem] theorem fr172:FN Tryz.f172 24 [.tmp 6]:=⟨rfl,rfl⟩
@[go_sem] theorem fr173:FN Tryz.f173 8 [.tmp 6]:=⟨rfl,rfl⟩
@[go_sem] theorem fr174:FN Tryz.f174 22 [.tmp 4]:=⟨rfl,rfl⟩
@[go_sem] theorem fr175:FN Tryz.f175 16 [.cell 2 70]:=⟨rfl,rfl⟩
@[go_sem] theorem fr176:FN Tryz.f176 10 [.cell 2 169]:=⟨rfl,rfl⟩
@[go_sem] theorem fr177:FN Tryz.f177 22 [.tmp 2,.tmp 3]:=⟨rfl,rfl⟩
@[go_sem] theorem fr178:FN Tryz.f178 19 [.tmp 4]:=⟨rfl,rfl⟩
@[go_sem] theorem fr179:FN Tryz.f179 37 [.tmp 2]:=⟨rfl,rfl⟩
@[go_sem] theorem fr180:FN Tryz.f180 34 [.tmp 6,.tmp 7]:=⟨rfl,rfl⟩
@[go_sem] theorem fr181:FN Tryz.f181 73 [.cell 8 169,.tmp 9]:=⟨rfl,rfl⟩
@[go_sem] theorem fr182:FN Tryz.f182 24 [.tmp 2]:=⟨rfl,rfl⟩
@[go_sem] theorem fr185:FN Tryz.f185 8 [.tmp 2]:=⟨rfl,rfl⟩
@[go_sem] theorem fr186:FN Tryz.f186 8 [.tmp 2]:=⟨rfl,rfl⟩
@[go_sem] theorem fr187:FN Tryz.f187 8 [.tmp 2]:=⟨rfl,rfl⟩
@[go_sem] theorem fr188:FN Tryz.f188 63 []:=⟨rfl,rfl⟩
@[go_sem] theorem fr189:FN Tryz.f189 36 [.tmp 2]:=⟨rfl,rfl⟩
@[go_sem] theorem fr190:FN Tryz.f190 74 [.tmp 8]:=⟨rfl,rfl⟩
@[go_sem] theorem fr191:FN Tryz.f191 32 [.tmp 6]:=⟨rfl,rfl⟩
@[go_sem] theorem fr192:FN Tryz.f192 17 [.tmp 4]:=⟨rfl,rfl⟩
@[go_sem] theorem fr193:FN Tryz.f193 19 [.tmp 4]:=⟨rfl,rfl⟩
@[go_sem] theorem fr194:FN Tryz.f194 22 [.tmp 4]:=⟨rfl,rfl⟩
@[go_sem] theorem fr195:FN Tryz.f195 12 [.cell 2 171]:=⟨rfl,rfl⟩
@[go_sem] theorem fr196:FN Tryz.f196 5 [.tmp 2]:=⟨rfl,rfl⟩
@[go_sem] theorem fr197:FN Tryz.f197 11 []:=⟨rfl,rfl⟩
@[go_sem] theorem fr198:FN Tryz.f198 14 []:=⟨rfl,rfl⟩
@[go_sem] theorem fr199:FN Tryz.f199 8 [.tmp 2]:=⟨rfl,rfl⟩
@[go_sem] theorem fr200:FN Tryz.f200 8 [.tmp 2]:=⟨rfl,rfl⟩
@[go_sem] theorem fr201:FN Tryz.f201 8 [.tmp 2]:=⟨rfl,rfl⟩
@[go_sem] theorem fr202:FN Tryz.f202 8 [.tmp 2]:=⟨rfl,rfl⟩
@[go_sem] theorem fr203:FN Tryz.f203 8 [.tmp 2]:=⟨rfl,rfl⟩
@[go_sem] theorem fr207:FN Tryz.f207 99 [.tmp 4]:=⟨rfl,rfl⟩
@[go_sem] theorem fr208:FN Tryz.f208 25 [.tmp 6]:=⟨rfl,rfl⟩
@[go_sem] theorem fr209:FN Tryz.f209 6 [.tmp 4]:=⟨rfl,rfl⟩
@[go_sem] theorem fr210:FN Tryz.f210 15 [.tmp 3]:=⟨rfl,rfl⟩
@[go_sem] theorem fr211:FN Tryz.f211 9 [.tmp 3]:=⟨rfl,rfl⟩
@[go_sem] theorem fr212:FN Tryz.f212 57 [.tmp 2]:=⟨rfl,rfl⟩
@[go_sem] theorem fr213:FN Tryz.f213 41 [.tmp 3]:=⟨rfl,rfl⟩
@[go_sem] theorem fr214:FN Tryz.f214 9 [.tmp 4]:=⟨rfl,rfl⟩
@[go_sem] theorem fr215:FN Tryz.f215 9 [.tmp 3]:=⟨rfl,rfl⟩
@[go_sem] theorem fr216:FN Tryz.f216 9 [.tmp 3]:=⟨rfl,rfl⟩
@[go_sem] theorem fr217:FN Tryz.f217 13 [.tmp 2]:=⟨rfl,rfl⟩
@[go_sem] theorem fr218:FN Tryz.f218 56 [.tmp 3]:=⟨rfl,rfl⟩
@[go_sem] theorem fr219:FN Tryz.f219 63 [.tmp 2]:=⟨rfl,rfl⟩
@[go_sem] theorem fr220:FN Tryz.f220 20 [.tmp 4]:=⟨rfl,rfl⟩
@[go_sem] theorem fr221:FN Tryz.f221 26 [.tmp 4]:=⟨rfl,rfl⟩
@[go_sem] theorem fr222:FN Tryz.f222 164 [.tmp 2]:=⟨rfl,rfl⟩
@[go_sem] theorem fr223:FN Tryz.f223 29 [.tmp 4]:=⟨rfl,rfl⟩
@[go_sem] theorem fr224:FN Tryz.f224 77 [.tmp 6]:=⟨rfl,rfl⟩
@[go_sem] theorem fr236:FN Tryz.f236 19 [.tmp 4]:=⟨rfl,rfl⟩
@[go_sem] theorem fr237:FN Tryz.f237 53 []:=⟨rfl,rfl⟩
@[go_sem] theorem fr238:FN Tryz.f238 60 []:=⟨rfl,rfl⟩
@[go_sem] theorem fr239:FN Tryz.f239 67 []:=⟨rfl,rfl⟩
@[go_sem] theorem fr240:FN Tryz.f240 63 [.tmp 8,.tmp 9]:=⟨rfl,rfl⟩
@[go_sem] theorem fr241:FN Tryz.f241 34 []:=⟨rfl,rfl⟩
@[go_sem] theorem fr242:FN Tryz.f242 141 [.tmp 8]:=⟨rfl,rfl⟩
@[go_sem] theorem fr243:FN Tryz.f243 90 [.tmp 10]:=⟨rfl,rfl⟩
@[go_sem] theorem fr244:FN Tryz.f244 178 [.tmp 10,.tmp 11]:=⟨rfl,rfl⟩
@[go_sem] theorem fr245:FN Tryz.f245 19 [.tmp 2]:=⟨rfl,rfl⟩
@[go_sem] theorem fr246:FN Tryz.f246 25 [.tmp 2]:=⟨rfl,rfl⟩
@[go_sem] theorem fr247:FN Tryz.f247 10 []:=⟨rfl,rfl⟩
@[go_sem] theorem fr248:FN Tryz.f248 74 [.tmp 8]:=⟨rfl,rfl⟩
@[go_sem] theorem fr249:FN Tryz.f249 12 [.cell 2 171]:=⟨rfl,rfl⟩
@[go_sem] theorem fr250:FN Tryz.f250 31 [.tmp 6]:=⟨rfl,rfl⟩
@[go_sem] theorem fr251:FN Tryz.f251 74 [.cell 4 22,.cell 5 22]:=⟨rfl,rfl⟩
@[go_sem] theorem fr252:FN Tryz.f252 74 [.tmp 4,.tmp 5,.tmp 6]:=⟨rfl,rfl⟩
@[go_sem] theorem fr254:FN Tryz.f254 53 []:=⟨rfl,rfl⟩
@[go_sem] theorem fr256:FN Tryz.f256 27 [.tmp 4]:=⟨rfl,rfl⟩
@[go_sem] theorem fr257:FN Tryz.f257 77 [.tmp 8]:=⟨rfl,rfl⟩
@[go_sem] theorem fr258:FN Tryz.f258 32 [.tmp 6]:=⟨rfl,rfl⟩
@[go_sem] theorem fr259:FN Tryz.f259 24 [.tmp 4]:=⟨rfl,rfl⟩
@[go_sem] theorem fr260:FN Tryz.f260 13 [.tmp 4]:=⟨rfl,rfl⟩
@[go_sem] theorem fr261:FN Tryz.f261 134 []:=⟨rfl,rfl⟩
@[go_sem] theorem fr266:FN Tryz.f266 41 [.tmp 2]:=⟨rfl,rfl⟩
@[go_sem] theorem fr267:FN Tryz.f267 16 [.tmp 6,.tmp 7]:=⟨rfl,rfl⟩
@[go_sem] theorem fr268:FN Tryz.f268 5 [.tmp 2]:=⟨rfl,rfl⟩
@[go_sem] theorem fr269:FN Tryz.f269 14 [.tmp 4,.tmp 5]:=⟨rfl,rfl⟩
@[go_sem] theorem fr270:FN Tryz.f270 46 []:=⟨rfl,rfl⟩
@[go_sem] theorem fr271:FN Tryz.f271 26 [.tmp 4]:=⟨rfl,rfl⟩
@[go_sem] theorem fr272:FN Tryz.f272 19 [.tmp 4]:=⟨rfl,rfl⟩
@[go_sem] theorem fr273:FN Tryz.f273 21 [.cell 2 333,.tmp 3]:=⟨rfl,rfl⟩
@[go_sem] theorem fr274:FN Tryz.f274 25 [.tmp 2]:=⟨rfl,rfl⟩
@[go_sem] theorem fr280:FN Tryz.f280 82 []:=⟨rfl,rfl⟩
@[go_sem] theorem fr281:FN Tryz.f281 7 [.tmp 2]:=⟨rfl,rfl⟩
@[go_sem] theorem fr282:FN Tryz.f282 33 [.tmp 2]:=⟨rfl,rfl⟩
@[go_sem] theorem fr283:FN Tryz.f283 18 [.tmp 8]:=⟨rfl,rfl⟩
@[go_sem] theorem fr284:FN Tryz.f284 41 [.tmp 12]:=⟨rfl,rfl⟩
@[go_sem] theorem fr285:FN Tryz.f285 4 [.tmp 2]:=⟨rfl,rfl⟩
@[go_sem] theorem fr286:FN Tryz.f286 24 [.tmp 4,.tmp 5]:=⟨rfl,rfl⟩
@[go_sem] theorem fr287:FN Tryz.f287 33 [.tmp 2,.tmp 3,.tmp 4]:=⟨rfl,rfl⟩
@[go_sem] theorem fr290:FN Tryz.f290 49 []:=⟨rfl,rfl⟩
@[go_sem] theorem fr291:FN Tryz.f291 56 []:=⟨rfl,rfl⟩
@[go_sem] theorem fr292:FN Tryz.f292 65 []:=⟨rfl,rfl⟩
@[go_sem] theorem fr293:FN Tryz.f293 57 [.tmp 6,.tmp 7]:=⟨rfl,rfl⟩
@[go_sem] theorem fr294:FN Tryz.f294 32 []:=⟨rfl,rfl⟩
@[go_sem] theorem fr295:FN Tryz.f295 133 [.tmp 6]:=⟨rfl,rfl⟩
@[go_sem] theorem fr296:FN Tryz.f296 84 [.tmp 8]:=⟨rfl,rfl⟩
@[go_sem] theorem fr297:FN Tryz.f297 168 [.tmp 8,.tmp 9]:=⟨rfl,rfl⟩
@[go_sem] theorem fr299:FN Tryz.f299 19 [.tmp 4]:=⟨rfl,rfl⟩
@[go_sem] theorem fr300:FN Tryz.f300 15 [.tmp 4]:=⟨rfl,rfl⟩
@[go_sem] theorem fr301:FN Tryz.f301 8 [.tmp 3]:=⟨rfl,rfl⟩
@[go_sem] theorem fr302:FN Tryz.f302 35 [.tmp 2,.tmp 3]:=⟨rfl,rfl⟩
@[go_sem] theorem fr303:FN Tryz.f303 9 [.tmp 4]:=⟨rfl,rfl⟩
@[go_sem] theorem fr304:FN Tryz.f304 8 [.tmp 3]:=⟨rfl,rfl⟩
@[go_sem] theorem fr305:FN Tryz.f305 47 [.tmp 0]:=⟨rfl,rfl⟩
@[go_sem] theorem fr306:FN Tryz.f306 49 [.tmp 6,.tmp 7]:=⟨rfl,rfl⟩
@[go_sem] theorem fr307:FN Tryz.f307 9 [.tmp 4]:=⟨rfl,rfl⟩
@[go_sem] theorem fr311:FN Tryz.f311 32 [.tmp 10,.tmp 11]:=⟨rfl,rfl⟩
@[go_sem] theorem fr312:FN Tryz.f312 28 []:=⟨rfl,rfl⟩
@[go_sem] theorem fr313:FN Tryz.f313 25 [.tmp 2]:=⟨rfl,rfl⟩
@[go_sem] theorem fr315:FN Tryz.f315 76 []:=⟨rfl,rfl⟩
@[go_sem] theorem fr316:FN Tryz.f316 15 [.tmp 6]:=⟨rfl,rfl⟩
@[go_sem] theorem fr317:FN Tryz.f317 36 [.tmp 10]:=⟨rfl,rfl⟩
@[go_sem] theorem fr318:FN Tryz.f318 9 [.tmp 4]:=⟨rfl,rfl⟩
@[go_sem] theorem fr319:FN Tryz.f319 9 [.tmp 2]:=⟨rfl,rfl⟩
@[go_sem] theorem fr320:FN Tryz.f320 68 []:=⟨rfl,rfl⟩
@[go_sem] theorem fr321:FN Tryz.f321 19 [.tmp 4]:=⟨rfl,rfl⟩
@[go_sem] theorem fr326:FN Tryz.f326 28 [.tmp 8,.tmp 9]:=⟨rfl,rfl⟩
@[go_sem] theorem fr327:FN Tryz.f327 19 [.tmp 4]:=⟨rfl,rfl⟩
@[go_sem] theorem fr328:FN Tryz.f328 93 []:=⟨rfl,rfl⟩
@[go_sem] theorem fr329:FN Tryz.f329 17 [.tmp 4]:=⟨rfl,rfl⟩
@[go_sem] theorem fr330:FN Tryz.f330 25 []:=⟨rfl,rfl⟩
@[go_sem] theorem fr332:FN Tryz.f332 8 [.tmp 4]:=⟨rfl,rfl⟩
@[go_sem] theorem fr333:FN Tryz.f333 30 [.tmp 4]:=⟨rfl,rfl⟩
@[go_sem] theorem fr334:FN Tryz.f334 29 []:=⟨rfl,rfl⟩
@[go_sem] theorem fr335:FN Tryz.f335 20 []:=⟨rfl,rfl⟩
@[go_sem] theorem fr336:FN Tryz.f336 8 [.tmp 2]:=⟨rfl,rfl⟩
@[go_sem] theorem fr337:FN Tryz.f337 14 [.tmp 2]:=⟨rfl,rfl⟩
@[go_sem] theorem fr338:FN Tryz.f338 8 []:=⟨rfl,rfl⟩
@[go_sem] theorem fr340:FN Tryz.f340 18 [.tmp 4]:=⟨rfl,rfl⟩
theorem Bf {α:Type} (a:α):∃b,b=a:=⟨a,rfl⟩
noncomputable def OH:(E:B6)->(P:Program)->(ops:Array Oper)->(Q:SA->Hp->Nat->Prop)->List Oper->SA->Hp->Nat->Prop:=Classical.choose (Bf IL)
theorem OI:OH=IL:=jv (Bf IL)
noncomputable def Kj:(E:B6)->(P:Program)->(ops:Array Oper)->(Q:SA->Hp->Nat->Prop)->List Oper->List CR->SA->Hp->Nat->Prop:=Classical.choose (Bf E7)
theorem MH:Kj=E7:=jv (Bf E7)
noncomputable def Jr:(E:B6)->(P:Program)->(N:Nat)->Code->Ce->SA->Hp->Nat->Prop:=Classical.choose (Bf Fk)
theorem Eg:Jr=Fk:=jv (Bf Fk)
noncomputable def Up:(E:B6)->(P:Program)->(ops:Array Oper)->(Q:SA->Hp->Nat->Prop)->List Oper->SA->Option Tmp->SV->Hp->Nat->Prop:=
 Classical.choose (Bf λE P ops Q rest sa dst v h n=>OH E P ops Q rest (EB sa dst v) h n)
@[go_sem] theorem ZR (E:B6) (P:Program) (ops:Array Oper) (Q:SA->Hp->Nat->Prop) (rest:List Oper) (sa:SA) (dst:Option Tmp) (v:SV) (h:Hp) (n:Nat):
 Up E P ops Q rest sa dst v h n=OH E P ops Q rest (EB sa dst v) h n:=by
 unfold Up;rw[jv (Bf λE P ops Q rest sa dst v h n=>OH E P ops Q rest (EB sa dst v) h n)]
noncomputable def O9:(E:B6)->(P:Program)->(N:Nat)->Code->Ce->Ce:=Classical.choose (Bf λE P N b Q=>DX (Fk E P N b Q) Q)
theorem Jb:O9=λE P N b Q=>DX (Fk E P N b Q) Q:=jv (Bf λE P N b Q=>DX (Fk E P N b Q) Q)
noncomputable def Le:Nat->Ce->Ce:=Classical.choose (Bf FP)
theorem Ie:Le=FP:=jv (Bf FP)
section
variable (E : B6) (P : Program) (N : Nat) (ops : Array Oper) (a b : Code) (id : Nat) (Q : Ce) (K : SA → Hp → Nat → Prop) (sa : SA) (h : Hp) (n : Nat)
@[go_sem] theorem Uq:O9 E P N b Q .normal sa h n=Jr E P N b Q sa h n:=by rw[Jb,Eg];simp only[DX]
@[go_sem] theorem WP:O9 E P N b Q (.exit id) sa h n=Q (.exit id) sa h n:=by rw[Jb];simp only[DX]
@[go_sem] theorem XB:O9 E P N b Q .ret sa h n=Q .ret sa h n:=by rw[Jb];simp only[DX]
@[go_sem] theorem UO:Le id Q .normal sa h n=Q .normal sa h n:=by rw[Ie];simp only[FP]
@[go_sem] theorem WN:Le id Q .ret sa h n=Q .ret sa h n:=by rw[Ie];simp only[FP]
@[go_sem] theorem Ve (i:Nat):Le id Q (.exit i) sa h n=if i=id then Q .normal sa h n else Q (.exit i) sa h n:=by rw[Ie];simp only[FP]
@[go_sem] theorem ZB:Jr E P N .skip Q sa h n=Q .normal sa h n:=by rw[Eg];simp only[Fk]
@[go_sem] theorem Za:Jr E P N (.seq a b) Q sa h n=Jr E P N a (O9 E P N b Q) sa h n:=by rw[Eg,Jb];simp only[Fk]
@[go_sem] theorem Y8 (c:Operand):Jr E P N (.cond c a b) Q sa h n=match Gp sa c with|.bool t=>if t=true then Jr E P N a Q sa h n else Jr E P N b Q sa h n|_=>False:=by rw[Eg];simp only[Fk]<;>cases Gp sa c<;>rfl
@[go_sem] theorem XG:Jr E P N (.block id b) Q sa h n=Jr E P N b (Le id Q) sa h n:=by rw[Eg,Ie];simp only[Fk]
@[go_sem] theorem Y9:Jr E P N (.exit id) Q sa h n=Q (.exit id) sa h n:=by rw[Eg];simp only[Fk]
@[go_sem] theorem ZY:Jr E P N .ret Q sa h n=Q .ret sa h n:=by rw[Eg];simp only[Fk]
@[go_sem] theorem W6:Jr E P N (.region id ops false) Q sa h n=OH E P ops (Q .normal) ops.toList sa h n:=by rw[Eg,OI];simp only[Fk]
@[go_sem] theorem XH:Jr E P N (.region id ops true) Q sa h n=(FA ops=true/\Kj E P ops (Q .normal) ops.toList [] sa h n):=by rw[Eg,MH];simp only[Fk]
@[go_sem] theorem ZA:Jr E P N (.loop b) Q sa h n=Fs E P N (.loop b) Q sa h n:=by rw[Eg];simp only[Fk]
@[go_sem] theorem XI (g:Operand) (ps:Array Tmp):Jr E P N (.rangeFunc g ps a b) Q sa h n=Fs E P N (.rangeFunc g ps a b) Q sa h n:=by rw[Eg];simp only[Fk]
@[go_sem] theorem ZC:OH E P ops K [] sa h n=K sa h n:=by rw[OI];simp only[IL]
@[go_sem] theorem XJ (o:Oper) (rest:List Oper):OH E P ops K (o::rest) sa h n =
 match Dg ops sa o with|some b=>if b=true then Ke E P o sa h n (Up E P ops K rest sa o.dst)else OH E P ops K rest (EB sa o.dst (.tup [])) h n|none=>False:=by
 unfold Up;rw[jv (Bf λE P ops Q rest sa dst v h n=>OH E P ops Q rest (EB sa dst v) h n)];rw[OI];simp only[IL];cases Dg ops sa o<;>rfl
@[go_sem] theorem XF (tr:List CR):Kj E P ops K [] tr sa h n=K sa h n:=by rw[MH];simp only[E7]
end
def CM (ops:Array Oper) (i:Nat) (r:CR):Nat->List CR->Bool
 | _,[]=>true
 | j,q::qs=>(Ex ops j i||(DG (Aq q.wr) r.foot&&DG (Aq r.wr) q.foot&&DG (Aq q.new) r.foot))&&CM ops i r (j+1) qs
theorem Ms (ops:Array Oper) (i:Nat) (r:CR):∀(l:List CR) (j:Nat),CM ops i r j l=Hh ops i r j l
 | [],_=>rfl
 | q::qs,j=>by rw[CM,Hh,Ms ops i r qs,Bool.or_comm]
noncomputable def Ja:(E:B6)->(P:Program)->(ops:Array Oper)->(Q:SA->Hp->Nat->Prop)->List Oper->List CR->SA->CR->Hp->Nat->Prop:=
 Classical.choose (Bf λE P ops Q rest tr sa r h n=>CM ops tr.length r 0 tr=true/\Kj E P ops Q rest (tr++[r]) (EB sa r.dst r.val) h n)
section
variable (E : B6) (P : Program) (ops : Array Oper) (K : SA → Hp → Nat → Prop) (sa : SA) (h : Hp) (n : Nat)
@[go_sem] theorem Ta (rest:List Oper) (tr:List CR) (r:CR):Ja E P ops K rest tr sa r h n=(CM ops tr.length r 0 tr=true/\Kj E P ops K rest (tr++[r]) (EB sa r.dst r.val) h n):=by
 unfold Ja;rw[jv (Bf λE P ops Q rest tr sa r h n=>CM ops tr.length r 0 tr=true/\Kj E P ops Q rest (tr++[r]) (EB sa r.dst r.val) h n)]
def Bs (g:FuncId) (us:List SV) (rest:List Oper) (tr:List CR) (dst:Option Tmp):Prop:=
 ∃foot wr v,K8 E P g us foot wr v h/\(∀k∈Aq wr,k∈foot)/\(∀k∈foot,k<n)/\Ja E P ops K rest tr sa { dst:=dst,val:=v,foot:=foot,wr:=wr } (CN h wr) n
def TH (o:Oper) (rest:List Oper) (tr:List CR):Prop:=
 match o.op with
 | .call { callee:=.value f,args,.. }=>
  match callee (Gp sa f) (args.toList.map (Gp sa))with
  | some (g,us)=>Bs E P ops K sa h n g us rest tr o.dst
  | none=>False
 | op =>
  match C2 P (Gp sa) h n op with
  | some out=>
   (∀k∈Aq out.upd.toList++Ek (Gp sa) op,k<n)/\Ja E P ops K rest tr sa { dst:=o.dst,val:=out.val,foot:=Aq out.upd.toList++Ek (Gp sa) op,wr:=out.upd.toList,new:=(out.new.map λx=>(n,some x)).toList } (out.app h n) (if out.new.isSome then n+1 else n)
  | none=>∃v,OU P (Gp sa) o v/\Ja E P ops K rest tr sa { dst:=o.dst,val:=v } h n
@[go_sem] theorem W4 (o:Oper) (rest:List Oper) (tr:List CR):Kj E P ops K (o::rest) tr sa h n =
 match Dg ops sa o with|some b=>if b=true then TH E P ops K sa h n o rest tr else Kj E P ops K rest (tr++[{ dst:=o.dst,val:=.tup [] }]) (EB sa o.dst (.tup [])) h n|none=>False:=by
 unfold TH Bs;simp only[Ta,Ms];rw[MH]
 conv=>lhs;unfold E7
 cases Dg ops sa o<;>rfl
variable {E}
theorem Bs.pure {g:FuncId} {us:List SV} {rest:List Oper} {tr:List CR} {dst:Option Tmp} {v:SV} (H:Fy P g us v) (hk:Ja E P ops K rest tr sa { dst:=dst,val:=v } h n):Bs E P ops K sa h n g us rest tr dst:=
 ⟨[],[],v,H.u h,by simp[Aq],by simp,hk⟩
theorem Bs.lend {g:FuncId} {us bs:List SV} {rest:List Oper} {tr:List CR} {dst:Option Tmp} {v:SV} (k:Nat) (foot:List Nat) (H:Fy P g bs v) (hv:Ee v=true) (hf:∀j∈foot,j<n) (hw:∀h',(∀j∈foot,h' j=h j)->AZ (Fz h' (λ_=>none) k) us bs)
 (hk:Ja E P ops K rest tr sa { dst:=dst,val:=v,foot:=foot } h n):Bs E P ops K sa h n g us rest tr dst:=
 ⟨foot,[],v,H.lendU k foot hv hw,by simp[Aq],hf,hk⟩
end
attribute [go_sem] TH Ek Aq Op.operands Call.operands SV.ids qK jY
attribute [go_sem] MT MS Jh
abbrev PC (f:FuncId) (args:List SV) (v:SV):Prop:=Fy Tryz.prog f args v
abbrev Es (h:Hp) (n:Nat):Prop:=∀o x,h o=some x->o<n/\BQ n x=true
theorem Ay {h h':Hp} {n n':Nat} {v' v:SV} (ho:Es h n) (hh:∀o x,h o=some x->h' o=some x) (e:v'=v) (hc:closed n v=true):B8 n h' n' v' (Is v h n):=by
 subst e;exact B8.plain hc ho hh ⟨rfl,rfl,rfl⟩
theorem Dy {h h':Hp} {n n':Nat} {v' v:SV} (k:Nat) (ho:Es h n) (hh:∀o x,h o=some x->h' o=some x) (e:Fz h' h k v' v) (hc:closed n v=true):B8 n h' n' v' (Is v h n):=
 .inr ⟨k,v,h,e,hc,λo x e=>⟨hh o x e,ho o x e⟩,rfl,rfl,rfl⟩
theorem As {h:Hp} {n n':Nat} {v' v:SV} (ho:Es h n) (hc:closed n v=true) (e:v'=v):B8 n h n' v' (Is v h n):=Ay ho (λ_ _ e=>e) e hc
theorem AQ {h:Hp} {n o:Nat} {y:Option BT} (ho:Es h n) (hn:n<=o) {h':Hp} (hh:∀o x,h o=some x->h' o=some x):∀o' x,h o'=some x->hset h' o y o'=some x:=by
 intro o' x e;have:=(ho o' x e).1;have ne:o'≠o:=by omega
 simp[hset,ne,hh _ _ e]
theorem AB {h:Hp}:∀o x,h o=some x->h o=some x:=λ_ _ e=>e
theorem go {E:B6} {f:FuncId} {fn:Func} {code:Code} {args:List SV} {h:Hp} {n:Nat} {K:SV->Hp->Nat->Prop} (hf:Tryz.prog.funcs[f]? = some fn) (hb:fn.body=some code)
 (hn:(fn.name != "runtime.NumGoroutine")=true) (hd:Code.dok fn.ntmps code=true) (hl:args.length<=fn.ntmps)
 (H:Es h n->Jr (E.call false 0) Tryz.prog fn.ntmps code (MT Tryz.prog fn n K) (Ec 0 args) h n):Ak E Tryz.prog f args h n K:=
 Ra follows hf hb hn hd hl λ_ ho=>by rw[<-Eg];exact H ho
theorem gq {E:B6} {f:FuncId} {fn:Func} {code:Code} {args:List SV} {h:Hp} {n:Nat} {K:SV->Hp->Nat->Prop} (hf:Tryz.prog.funcs[f]? = some fn) (hb:fn.body=some code)
 (H:Es h n->Jr (E.call false 0) Tryz.prog fn.ntmps code (MT Tryz.prog fn n K) (Ec 0 args) h n)
 (hn:(fn.name != "runtime.NumGoroutine")=true:=by kernel_rfl) (hd:Code.dok fn.ntmps code=true:=by kernel_rfl) (hl:args.length<=fn.ntmps:=by simp[go_sem]):Ak E Tryz.prog f args h n K:=
 go hf hb hn hd hl H
theorem An {E:B6} {N:Nat} {x:Code} {Q:Ce} {sa:SA} {h:Hp} {n:Nat} {α:Type} (k:Nat) (fr:α->SA) (hp:α->Hp) (I:α->Nat->Prop) (μ:α->Nat) (a0:α) (hI:I a0 n)
 (hfr:∀p∈fr a0,Fz h (hp a0) k (Ai sa p.1) p.2) (hhp:∀o y,hp a0 o=some y->h o=some y)
 (round:∀a n,I a n->Jr E Tryz.prog N x (DX (λsa' h' n'=>∃a',μ a'<μ a/\I a' n'/\(∀p∈fr a',Fz h' (hp a') k (Ai sa' p.1) p.2)/\(∀o y,hp a' o=some y->h' o=some y)) Q) (fr a) (hp a) n):
 Fs E Tryz.prog N (.loop x) Q sa h n:=
 SW follows k fr hp I μ a0 hI hfr hhp λa n ha=>by rw[<-Eg];exact round a n ha
@[go_sem] theorem FB (K:SA->Hp->Nat->Prop) (Q:Ce):DX K Q .normal=K:=rfl
@[go_sem] theorem Wv (K:SA->Hp->Nat->Prop) (Q:Ce) (i:Nat):DX K Q (.exit i)=Q (.exit i):=rfl
@[go_sem] theorem XD (K:SA->Hp->Nat->Prop) (Q:Ce):DX K Q .ret=Q .ret:=rfl
attribute [go_sem] closed closedL
theorem nd {ops:Array Oper} {i j:Nat} {r:CR} {l:List CR} {R:Prop} (h:CM ops i r j l=true) (hr:R):CM ops i r j l=true/\R:=⟨h,hr⟩
theorem sd {ops:Array Oper} {R:Prop} (h:FA ops=true) (hr:R):FA ops=true/\R:=⟨h,hr⟩
theorem Cl {x:Int} (h0:-4611686018427387904<=x) (h1:x<=4611686018427387904):IntKind.i64.wrap x=x:=IntWalk.i64_in x (by omega)
theorem nq {ops:Array Oper} {i j:Nat} {r:CR} {l:List CR} {R:Prop} (hr:R) (h:CM ops i r j l=true:=by kernel_rfl):CM ops i r j l=true/\R:=⟨h,hr⟩
theorem sq {ops:Array Oper} {R:Prop} (hr:R) (h:FA ops=true:=by kernel_rfl):FA ops=true/\R:=⟨h,hr⟩
theorem aq {a R:Prop} (hr:R) (h:a:=by omega):a/\R:=⟨h,hr⟩
theorem wS (i:Nat) (h:i<4611686018427387904):IntKind.i64.wrap ((i:Int)+1)=((i+1:Nat):Int):=by rw[Cl]<;>omega
theorem Es.lt {h:Hp} {n:Nat} (ho:Es h n):∀j y,h j=some y->j<n:=λj y e=>(ho j y e).1
theorem PC.use {E:B6} {f:FuncId} {args:List SV} {v:SV} (H:PC f args v) {h:Hp} {n:Nat} {K:SV->Hp->Nat->Prop} (hk:K v h n):Ak E Tryz.prog f args h n K:=Fy.use H hk
theorem Sv {s:ByteArray} {i:Nat} (h:i<s.size):s[i]? = some s[i]:=getElem?_pos s i h
set_option maxRecDepth 10000
def LK (b:Int):Int:=if b=224 then 160 else if b=240 then 144 else 128
def Iy (b:Int):Int:=if b=237 then 159 else if b=244 then 143 else 191
def Ew (b:Int):Int:=if b<128 then 1 else if b<194\/244<b then 0 else if b<224 then 2 else if b<240 then 3 else 4
theorem al (b:Int):PC 287 [.int .u8 b] (.tup [.int .u8 (LK b),.int .u8 (Iy b),.int .i64 (Ew b)]):=by
 intro h n;refine gq Tryz.func287 rfl λho=>?_;by_cases h1:b<128<;>by_cases h2:b<194<;>by_cases h3:244<b<;>by_cases h4:b<224<;>by_cases h5:b<240<;>by_cases h6:b=224<;>by_cases h7:b=237<;>by_cases h8:b=240<;>by_cases h9:b=244<;>try omega
 all_goals
  simp[go_sem,h1,h2,h3,h4,h5,h6,h7,h8,h9,LK,Iy,Ew];exact As ho rfl (by simp)
def BO (s:ByteArray) (i:Nat):Int:=match s[i]? with|some b=>b.toNat|none=>0
def GM (s:ByteArray) (a n:Nat):Nat->Int->Int->Nat->Nat×Bool
 | 0,_,_,k=>(k,true)
 | f+1,lo,hi,k=>if s.size<=a+k\/BO s (a+k)<lo\/hi<BO s (a+k)then(k,false)else GM s a n f 128 191 (k+1)
def CV (s:ByteArray) (a:Nat):Nat×Bool:=
 let b:=BO s a
 let n:=Ew b
 if n=0 then(0,false)else if n=1 then(1,true)else GM s a n.toNat (n.toNat-1) (LK b) (Iy b) 1
theorem Ei {s:ByteArray} {i:Nat} (h:i<s.size):s[i]? = some s[i]/\BO s i=s[i].toNat:=by
 have:=Sv h;simp[BO,this]
theorem Mf (b:Int):0<=Ew b/\Ew b<=4:=by unfold Ew;repeat' split<;>omega
theorem aY (s:ByteArray) (a:Nat) (ha:a<s.size) (hs:s.size<=1099511627776):PC 252 [.str s,.int .i64 a] (.tup [.junk,.int .i64 (CV s a).1,.bool (CV s a).2]):=by
 intro h n;refine gq Tryz.func252 rfl λho=>?_;obtain⟨e1,e2⟩:=Ei ha;simp[go_sem,e1,<-e2];refine(al _).use ?_;obtain⟨hz0,hz1⟩:=Mf (BO s a);simp[go_sem,hz0];by_cases h0:Ew (BO s a)=0;simp[h0];exact Dy 3 ho AB (by simp[Fz,AZ,CV,h0]) rfl;by_cases h1:Ew (BO s a)=1;simp[h1];exact Dy 3 ho AB (by simp[Fz,AZ,CV,h1]) rfl;have hD:CV s a=GM s a (Ew (BO s a)).toNat ((Ew (BO s a)).toNat-1) (LK (BO s a)) (Iy (BO s a)) 1:=by simp[CV,h0,h1]
 obtain⟨z,hz⟩:∃z:Nat,Ew (BO s a)=z:=⟨(Ew (BO s a)).toNat,by omega⟩
 rw[hz]at hD h0 h1 hz0 hz1 ⊢;simp only[h0,h1,if_false];rw[hD];simp only[Int.toNat_natCast];generalize IntKind.i64.wrap _=p0;refine An 3 (α:=Int×Int×Int×Nat) (λq=>[(0,.str s),(1,.int .i64 a),(4,.int .i64 q.1),(5,.int .i64 q.2.2.2),(8,.int .u8 q.2.1),(9,.int .u8 q.2.2.1),(10,.int .i64 z)]) (λ_=>h)
  (λq m=>n<=m/\1<=q.2.2.2/\q.2.2.2<=z/\GM s a z (z-1) (LK (BO s a)) (Iy (BO s a)) 1=GM s a z (z-q.2.2.2) q.2.1 q.2.2.1 q.2.2.2) (λq=>z-q.2.2.2) (p0,LK (BO s a),Iy (BO s a),1) ?_ ?_ AB ?_
 exact⟨qa _,by simp,by simp;omega,rfl⟩;simp[Ai];rintro⟨p,lo,hi,k⟩ m ⟨hm,hk1,hkz,hJ⟩;by_cases hlt:k<z;obtain⟨f,hf⟩:∃f,z-k=f+1:=⟨z-k-1,by omega⟩
 have hk:z-(k+1)=f:=by omega
 have w1:IntKind.i64.wrap ((a:Int)+k)=((a+k:Nat):Int):=by rw[Cl]<;>omega
 have w2:=wS k (by omega);dsimp only at hJ hk1 hkz;rw[hf,GM]at hJ;by_cases hin:s.size<=a+k;simp[go_sem,hlt,w1,hin,-Int.natCast_add];exact Dy 3 ho AB (by simp[Fz,AZ,hJ,hin]) rfl;obtain⟨g1,g2⟩:=Ei (kC hin);by_cases hlo:BO s (a+k)<lo;simp[go_sem,hlt,w1,hin,g1,<-g2,hlo,-Int.natCast_add];exact Dy 3 ho AB (by simp[Fz,AZ,hJ,hlo]) rfl;by_cases hhi:hi<BO s (a+k);simp[go_sem,hlt,w1,hin,g1,<-g2,hlo,hhi,-Int.natCast_add];exact Dy 3 ho AB (by simp[Fz,AZ,hJ,hhi]) rfl;simp[go_sem,hlt,w1,w2,hin,g1,<-g2,hlo,hhi,-Int.natCast_add];rw[if_neg (by simp only[not_or];exact⟨hin,hlo,hhi⟩)]at hJ;refine⟨_,128,191,k+1,by omega,⟨hm,by omega,by omega,by rw[hk];exact hJ⟩,IO,IO,IO,IO⟩;have:k=z:=by dsimp only at hkz;omega
 subst this;simp[go_sem];rw[Nat.sub_self,GM]at hJ;exact Dy 3 ho AB (by simp[Fz,AZ,hJ]) rfl
theorem J0 (s:ByteArray) (a n:Nat):∀(f:Nat) (lo hi:Int) (k:Nat),k<=(GM s a n f lo hi k).1/\(GM s a n f lo hi k).1<=k+f
 | 0,_,_,k=>by simp[GM]
 | f+1,lo,hi,k=>by
  rw[GM];split;simp;have:=J0 s a n f 128 191 (k+1);omega
theorem JO {s:ByteArray} {a:Nat} (h:(CV s a).2=true):1<=(CV s a).1:=by
 simp only[CV]at h ⊢;split;rename_i e;simp[e]at h;split;exact qa _;exact(J0 _ _ _ _ _ _ _).1
theorem Oj (s:ByteArray) (a:Nat):(CV s a).1<=4:=by
 simp only[CV];split;simp;split;simp;have:=(J0 s a (Ew (BO s a)).toNat ((Ew (BO s a)).toNat-1) (LK (BO s a)) (Iy (BO s a)) 1).2;have:=Mf (BO s a);omega
def HR (s:ByteArray) (a:Nat):Int:=
 if _:a<s.size then if _:(CV s a).2=true then HR s (a+(CV s a).1)else a else -1
termination_by s.size-a
decreasing_by
 rename_i h2
 have:=JO h2;omega
def CZ (s:ByteArray):Bool:=decide (HR s 0<0)
theorem aB (s:ByteArray) (hs:s.size<=1099511627776):PC 182 [.str s] (.int .i64 (HR s 0)):=by
 intro h n;refine gq Tryz.func182 rfl λho=>?_;simp[go_sem];refine An 1 (α:=Nat) (λk=>[(0,.str s),(3,.int .i64 k)]) (λ_=>h) (λk m=>n<=m/\k<=s.size+4/\HR s 0=HR s k) (λk=>s.size+4-k) 0 ?_ ?_ AB ?_;exact⟨qa _,by omega,rfl⟩;simp[Ai];rintro k m ⟨hm,hk,hJ⟩;by_cases hlt:k<s.size;simp[go_sem,hlt];refine(aY s k hlt hs).use ?_;have hp:=@JO s k;have hl:=Oj s k;have w:IntKind.i64.wrap ((k:Int)+((CV s k).1:Int))=((k+(CV s k).1:Nat):Int):=by rw[Cl]<;>omega
 rw[HR.eq_def s k]at hJ;by_cases hd:(CV s k).2=true;simp[hlt,hd]at hJ;simp[go_sem,hd,w,-Int.natCast_add];have:=hp hd;exact⟨k+(CV s k).1,by omega,⟨hm,by omega,hJ⟩,IO⟩;simp[hlt,hd]at hJ;simp[go_sem,hd];exact As ho rfl (by rw[hJ]);simp[go_sem,hlt];rw[HR.eq_def s k]at hJ;simp[hlt]at hJ;exact As ho rfl (by rw[hJ])
theorem P7 (s:ByteArray) (hs:s.size<=1099511627776):PC 116 [.str s] (.bool (CZ s)):=by
 intro h n;refine gq Tryz.func116 rfl λho=>?_;simp[go_sem];refine(aB s hs).use ?_;simp[go_sem];exact As ho rfl (by simp[CZ])
def Gn (b:Int):Bool:=!(IntKind.u8.wrap (BitVec.ofInt 8 b &&& BitVec.ofInt 8 192).toNat==128)
def DK (s:ByteArray):Nat->Nat
 | 0=>0
 | k+1=>DK s k+if Gn (BO s k)then 1 else 0
theorem HS (s:ByteArray):∀k,DK s k<=k
 | 0=>qa _
 | k+1=>by have:=HS s k;simp only[DK];split<;>omega
theorem Xb (s:ByteArray) (hs:s.size<=1099511627776):PC 177 [.str s] (.tup [.int .i64 (if CZ s then DK s s.size else 0),.int .i64 (if CZ s then 0 else 12)]):=by
 intro h n;refine gq Tryz.func177 rfl λho=>?_;simp[go_sem];refine(P7 s hs).use ?_;by_cases hv:CZ s=true;simp[go_sem,hv];refine An 1 (α:=Nat) (λk=>[(0,.str s),(2,.int .i64 (DK s k)),(9,.int .i64 s.size),(10,.int .i64 k)]) (λ_=>h) (λk m=>n<=m/\k<=s.size) (λk=>s.size-k) 0 ?_ ?_ AB ?_;exact⟨qa _,by omega⟩;simp[Ai,DK];rintro k m ⟨hm,hk⟩;by_cases hlt:k<s.size;obtain⟨g1,g2⟩:=Ei hlt;have hl:=HS s k;have w1:=wS k (by omega);have w2:IntKind.i64.wrap ((DK s k:Int)+1)=((DK s k+1:Nat):Int):=by rw[Cl]<;>omega
 simp[go_sem,hlt,<-g2,w1,w2,-Int.natCast_add];split;rename_i hh;have hc:Gn (BO s k)=false:=by simp only[Gn,Bool.not_eq_false',beq_iff_eq];exact hh
 exact⟨k+1,by omega,⟨hm,by omega⟩,by simp[DK,hc],IO⟩;rename_i hh;have hc:Gn (BO s k)=true:=by simp only[Gn,js,beq_eq_false_iff_ne];exact hh
 exact⟨k+1,by omega,⟨hm,by omega⟩,by simp[DK,hc],IO⟩;have:k=s.size:=by omega
 subst this;simp[go_sem];exact As ho rfl (by simp);simp[go_sem,hv];exact As ho rfl (by simp)
def AM (z:Nat) (o:Option Nat) (es:List SV):SV:=match o with|none=>.imm 0 [] true|some j=>.sl j 0 z es.length false
def AN (o:Option Nat) (es:List SV) (h:Hp):Hp:=match o with|none=>h|some j=>hset h j (some (.cells (es.flatMap SV.cells)))
structure Ar (n m z:Nat) (o:Option Nat) (es:List SV):Prop where
 none:o=Option.none->es=[]
 lt:∀j,o=some j->n<=j/\j<m
 size:∀e∈es,e.storable=true/\e.cells.length=z
theorem Ar.nil (n m z:Nat):Ar n m z Option.none []:=⟨λ_=>rfl,by simp,by simp⟩
theorem A7 {z:Nat}:∀{es:List SV},(∀e∈es,e.storable=true/\e.cells.length=z)->(es.flatMap SV.cells).length=es.length*z
 | [],_=>by simp
 | e::es,h=>by
  have:=A7 (es:=es) (z:=z) λx hx=>h x (by simp[hx]);simp[this,(h e (by simp)).2,jB,Nat.add_comm]
theorem Ar.push {n m m' z:Nat} {o:Option Nat} {es:List SV} {e:SV} {j:Nat} (H:Ar n m z o es) (hs:e.storable=true) (he:e.cells.length=z) (h1:n<=j) (h2:j<m'):Ar n m' z (some j) (es++[e]):=
 ⟨by simp,by rintro k e;cases e;exact⟨h1,h2⟩,by intro x hx;simp at hx;rcases hx with hx|rfl;exact H.size x hx;exact⟨hs,he⟩⟩
theorem Ar.mono {n m m' z:Nat} {o:Option Nat} {es:List SV} (H:Ar n m z o es) (hm:m<=m'):Ar n m' z o es:=⟨H.none,λj e=>⟨(H.lt j e).1,kq (H.lt j e).2 hm⟩,H.size⟩
theorem Es.none {h:Hp} {n j:Nat} (ho:Es h n) (hj:n<=j):h j=none:=by
 cases e:h j with
 | none=>rfl
 | some x=>have:=(ho j x e).1;omega
theorem AN.old {h:Hp} {n m z:Nat} {o:Option Nat} {es:List SV} (ho:Es h n) (H:Ar n m z o es):∀j x,h j=some x->AN o es h j=some x:=by
 cases o with
 | none=>exact λ_ _ e=>e
 | some k=>exact AQ ho (H.lt k rfl).1 AB
theorem AC (h:Hp) (j:Nat) (x:Option BT):hset h j x j=x:=by simp[hset]
theorem AD (h:Hp) {j k:Nat} (x:Option BT) (e:k≠j):hset h j x k=h k:=by simp[hset,e]
theorem AM.fz {h:Hp} {n m z k:Nat} {o:Option Nat} {es:List SV} (ho:Es h n) (H:Ar n m z o es) {h':Hp} (hh:∀j y,AN o es h j=some y->h' j=some y):Fz h' h (k+1) (AM z o es) (.imm z es false):=by
 cases o with
 | none=>rw[H.none rfl];exact .inr ⟨by simp,.inl rfl,trivial,by simp⟩
 | some j =>
  have hj:=hh j (.cells (es.flatMap SV.cells)) (by simp[AN,hset]);refine .inr ⟨ho.none (H.lt j rfl).1,by simp,rfl,rfl,_,_,hj,by simp[Bg,A7 H.size];rfl,H.size,?_⟩;have:∀l:List SV,AZ (Fz h' h k) l l:=by
   intro l;induction l with
   | nil=>trivial
   | cons a l ih=>exact⟨IO,ih⟩
  simp only[<-A7 H.size,qi];exact this _
theorem U7 {h h':Hp} {n n' m z:Nat} {o:Option Nat} {es:List SV} {v:SV} (ho:Es h n) (H:Ar n m z o es) (hh:∀j y,AN o es h j=some y->h' j=some y) (hv:v=AM z o es) (hc:∀e∈es,closed n e=true):B8 n h' n' v (Is (.imm z es false) h n):=by
 subst hv;refine Dy 1 ho (λj x e=>hh j x (AN.old ho H j x e)) (AM.fz ho H hh) ?_;rw[closed];exact BU.2 hc
section
variable {P : Program}
theorem XO {h0:Hp} {n m z:Nat} {es:List SV} {e:SV} {o:Option Nat} {t t2 el:TypeId} (ht:A9 P t=some el) (ht2:(A9 P t2).isSome=true) (hz:Bh P el=z) (hz0:z≠0) (hst:(BH P el).storable=true) (hzl:(BH P el).cells.length=z)
 (hroom:es.length+1<=1073741824) (hb:BY P el<=65536) (H:Ar n m z o es) (he:e.cells.length=z) (hrow:Gq el=none:=by rfl):
 AU P (hset (AN o es h0) m (some (.cells e.cells))) (m+1) .append [t,t2] [AM z o es,.sl m 0 z 1 true] =
  some { val:=.sl (m+1) 0 z (es.length+1) false,upd:=o.map λj=>(j,none),new:=some (.cells (es.flatMap SV.cells++e.cells)) }:=by
 have hfl:flat (hset (AN o es h0) m (some (.cells e.cells))) (.sl m 0 z 1 true)=some e.cells:=by
  simp[flat,hset,Bg,he];exact qB (by omega)
 have hr:C4 (es.length+1) (BY P el)=true:=by simp[C4];exact⟨by omega,hb⟩
 simp only[AU,ht2,if_true,Cm,ht,Dw,hfl,hz,hzl,hst];cases o with
 | none=>
  have:=H.none rfl;subst this;simp[AM,Hd,hz0,hrow];have hr':C4 1 (BY P el)=true:=by simpa using hr
  exact hr'
 | some j =>
  have hne:j≠m:=by have:=(H.lt j rfl).2;omega
  have hf:flat (hset (AN (some j) es h0) m (some (.cells e.cells))) (.sl j 0 z es.length false)=some (es.flatMap SV.cells):=by
   simp only[flat,AD _ _ hne,AN,AC,Bg,jc,A7 H.size,qa,if_true,kn];rw[<-A7 H.size,qi]
  simp[AM,Hd,hz0,hf,hr,GX hrow]
theorem Mc {h0:Hp} {n m:Nat} {es:List SV} {e:SV} {o:Option Nat} {z:Nat} (ho:Es h0 n) (hn:n<=m) (H:Ar n m z o es):
 ∀j y,AN (some (m+1)) (es++[e]) h0 j=some y->
  (Cs.app (hset (AN o es h0) m (some (.cells e.cells))) (m+1) { val:=.sl (m+1) 0 z (es.length+1) false,upd:=o.map λj=>(j,none),new:=some (.cells (es.flatMap SV.cells++e.cells)) }) j=some y:=by
 intro j y hj;simp only[AN]at hj;by_cases e1:j=m+1;subst e1;rw[AC]at hj;simp only[Cs.app,AC];rw[<-hj];simp;rw[AD _ _ e1]at hj;have hlt:=(ho j y hj).1;have hm:j≠m:=by omega
 cases o with
 | none=>simp[Cs.app,AD _ _ e1,AD _ _ hm,AN,hj]
 | some k=>
  have hk:j≠k:=by have:=(H.lt k rfl).1;omega
  simp[Cs.app,AD _ _ e1,AD _ _ hm,AD _ _ hk,AN,hj]
end
abbrev AA:Int->SV:=.int .i64
structure Er where
 key:Int
 value:Int
 deriving DecidableEq
structure Az where
 rev:Int
 move:Int
 deriving DecidableEq
structure Am where
 rev:Int
 key:Int
 before:Int
 had:Bool
 deriving DecidableEq
structure AF where
 props:List Er
 ins:Int
 move:Int
 dels:List Az
 layers:List Am
 deriving DecidableEq
structure Ax where
 id:Int
 author:ByteArray
 time:Int
 deriving DecidableEq
structure A6 where
 id:Int
 kind:Int
 name:ByteArray
 base:Int
 next:Int
 props:List Er
 deriving DecidableEq
structure CX where
 format:Int
 start:Int
 template:ByteArray
 restart:Int
 deriving DecidableEq
structure Fb where
 id:Int
 levels:List CX
 deriving DecidableEq
structure Au where
 id:Int
 parent:Int
 author:ByteArray
 time:Int
 text:ByteArray
 done:Bool
 deriving DecidableEq
structure Ft where
 name:ByteArray
 value:ByteArray
 deriving DecidableEq
structure AK where
 styles:List A6
 lists:List Fb
 comments:List Au
 vars:List Ft
 deriving DecidableEq
mutual
inductive AE where
 | mk (kind code id:Int) (text:ByteArray) (head:AF) (flow:List AE) (rows:List Aa)
inductive Aa where
 | mk (head:AF) (cells:List Cell)
inductive Cell where
 | mk (id:Int) (head:AF) (flow:List AE)
end
structure AI where
 flow:List AE
 «end» : AF
 revs:List Ax
 settings:AK
def Er.enc (p:Er):SV:=.agg [AA p.key,AA p.value]
def Az.enc (p:Az):SV:=.agg [AA p.rev,AA p.move]
def Am.enc (p:Am):SV:=.agg [AA p.rev,AA p.key,AA p.before,.bool p.had]
abbrev Af (l:List Er):SV:=.imm 2 (l.map Er.enc) false
abbrev AP (l:List Az):SV:=.imm 2 (l.map Az.enc) false
abbrev AL (l:List Am):SV:=.imm 4 (l.map Am.enc) false
def AF.flat (h:AF):List SV:=[Af h.props,AA h.ins,AA h.move,AP h.dels,AL h.layers]
def AF.enc (h:AF):SV:=.agg h.flat
def Ax.enc (r:Ax):SV:=.agg [AA r.id,.str r.author,AA r.time]
abbrev Ao (l:List Ax):SV:=.imm 3 (l.map Ax.enc) false
def A6.enc (s:A6):SV:=.agg [AA s.id,AA s.kind,.str s.name,AA s.base,AA s.next,Af s.props]
def CX.enc (l:CX):SV:=.agg [AA l.format,AA l.start,.str l.template,AA l.restart]
abbrev DL (l:List CX):SV:=.imm 4 (l.map CX.enc) false
def Fb.enc (l:Fb):SV:=.agg [AA l.id,DL l.levels]
def Au.enc (c:Au):SV:=.agg [AA c.id,AA c.parent,.str c.author,AA c.time,.str c.text,.bool c.done]
def Ft.enc (v:Ft):SV:=.agg [.str v.name,.str v.value]
abbrev Ae (l:List A6):SV:=.imm 6 (l.map A6.enc) false
abbrev Di (l:List Fb):SV:=.imm 2 (l.map Fb.enc) false
abbrev BZ (l:List Au):SV:=.imm 6 (l.map Au.enc) false
abbrev FI (l:List Ft):SV:=.imm 2 (l.map Ft.enc) false
def AK.flat (s:AK):List SV:=[Ae s.styles,Di s.lists,BZ s.comments,FI s.vars]
def AK.enc (s:AK):SV:=.agg s.flat
mutual
def AE.enc:AE->SV
 | .mk k c i t h f r=>.agg ([AA k,AA c,AA i,.str t]++h.flat++[.imm 11 (AE.encL f) false,.imm 6 (Aa.encL r) false])
def AE.encL:List AE->List SV
 | []=>[]
 | x::l=>x.enc::AE.encL l
def Aa.enc:Aa->SV
 | .mk h c=>.agg (h.flat++[.imm 7 (Cell.encL c) false])
def Aa.encL:List Aa->List SV
 | []=>[]
 | x::l=>x.enc::Aa.encL l
def Cell.enc:Cell->SV
 | .mk i h f=>.agg ([AA i]++h.flat++[.imm 11 (AE.encL f) false])
def Cell.encL:List Cell->List SV
 | []=>[]
 | x::l=>x.enc::Cell.encL l
end
theorem AE.encL_eq (l:List AE):AE.encL l=l.map AE.enc:=by induction l with|nil=>rfl|cons a l ih=>rw[AE.encL,ih];rfl
theorem Aa.encL_eq (l:List Aa):Aa.encL l=l.map Aa.enc:=by induction l with|nil=>rfl|cons a l ih=>rw[Aa.encL,ih];rfl
theorem Cell.encL_eq (l:List Cell):Cell.encL l=l.map Cell.enc:=by induction l with|nil=>rfl|cons a l ih=>rw[Cell.encL,ih];rfl
abbrev AG (l:List AE):SV:=.imm 11 (l.map AE.enc) false
abbrev A3 (l:List Aa):SV:=.imm 6 (l.map Aa.enc) false
abbrev BS (l:List Cell):SV:=.imm 7 (l.map Cell.enc) false
def AE.kind:AE->Int|.mk k _ _ _ _ _ _=>k
def AE.code:AE->Int|.mk _ c _ _ _ _ _=>c
def AE.id:AE->Int|.mk _ _ i _ _ _ _=>i
def AE.text:AE->ByteArray|.mk _ _ _ t _ _ _=>t
def AE.head:AE->AF|.mk _ _ _ _ h _ _=>h
def AE.flow:AE->List AE|.mk _ _ _ _ _ f _=>f
def AE.rows:AE->List Aa|.mk _ _ _ _ _ _ r=>r
def Aa.head:Aa->AF|.mk h _=>h
def Aa.cells:Aa->List Cell|.mk _ c=>c
def Cell.id:Cell->Int|.mk i _ _=>i
def Cell.head:Cell->AF|.mk _ h _=>h
def Cell.flow:Cell->List AE|.mk _ _ f=>f
theorem AE.enc_eq (x:AE):x.enc=.agg [AA x.kind,AA x.code,AA x.id,.str x.text,Af x.head.props,AA x.head.ins,AA x.head.move,AP x.head.dels,AL x.head.layers,AG x.flow,A3 x.rows]:=by
 cases x;simp[AE.enc,AF.flat,AE.encL_eq,Aa.encL_eq];exact⟨rfl,rfl,rfl,rfl,rfl,rfl,rfl,rfl,rfl,rfl,rfl⟩
theorem Aa.enc_eq (x:Aa):x.enc=.agg [Af x.head.props,AA x.head.ins,AA x.head.move,AP x.head.dels,AL x.head.layers,BS x.cells]:=by
 cases x;simp[Aa.enc,AF.flat,Cell.encL_eq];exact⟨rfl,rfl,rfl,rfl,rfl,rfl⟩
theorem Cell.enc_eq (x:Cell):x.enc=.agg [AA x.id,Af x.head.props,AA x.head.ins,AA x.head.move,AP x.head.dels,AL x.head.layers,AG x.flow]:=by
 cases x;simp[Cell.enc,AF.flat,AE.encL_eq];exact⟨rfl,rfl,rfl,rfl,rfl,rfl,rfl⟩
end Go.Proofs.YtgakninlhfkkmaaGreat.Sh
