/- A part of the proof (part 3 of 15). -/
import Derived.Test.YtgakninlhfkkmaaGreatM2
import Derived.Test.YtgakninlhfkkmaaGreatProg
import Derived.KernelRfl
import Derived.Tactics
import Derived.IntWalk
namespace Go.Proofs.YtgakninlhfkkmaaGreat.Sh
abbrev Xc:=@Ak.mono
abbrev Y0:=@Fz.same
abbrev ZB:=@Ff.refl
def NO (f:Nat->SV):Operand->SV
 | .tmp t=>f t
 | .const v=>ofValue v
 | .global _=>.junk
 | .func g=>.fn (.func g) [] []
theorem PW (sa:SA):Gf sa=NO (Aj sa):=by funext x;cases x<;>rfl
def Fb (ops:Array Oper) (f:Nat->SV) (o:Oper):Option Bool:=
 match o.guard with
 | none=>some true
 | some (j,want)=>
  match(ops[j]?).bind (·.dst)with
  | some d=>match f d with|.bool b=>some (b==want)|.tup []=>some false|_=>none
  | none=>none
theorem IF (ops:Array Oper) (sa:SA) (o:Oper):DV ops sa o=Fb ops (Aj sa) o:=rfl
structure RE (E:Br) (N:Nat) (f:Nat->SV) (c:Cx) (a:Act):Prop where
 size:a.tmps.size=N
 defers:Ny E c a.defers
 val:∀t,V c (f t) (a.tmps.getD t undef)
structure CL where
 dst:Option Tmp
 val:SV
 foot:List Nat:=[]
 wr:List (Nat×Option BT):=[]
 new:List (Nat×Option BT):=[]
def CL.tw (r:CL):List (Nat×SV):=r.dst.toList.map λd=>(d,r.val)
def CL.hw (r:CL):List (Nat×Option BT):=r.wr++r.new
def JY (E:Br) (P:Program) (N:Nat) (o:Oper) (f:Nat->SV) (h:Hp) (n:Nat) (r:CL):Prop:=
 ∀(f':Nat->SV) (h':Hp) (c:Cx) (a:Act) (Kr:Act->World->Prop) (Qr:Exit->Act->World->Prop),(∀x∈o.op.operands,NO f' x=NO f x)->(∀j∈r.foot,h' j=h j)->E.inv c->Bl h' c->Fr n c->
  (∀j∈Ap r.new,c.ρ j=none)->RE E N f' c a->
  (∀c' u,V c' r.val u->Bl (CH h' r.hw) c'->Fr n c'->DD c c'->(∀j,j∉Ap r.new->c'.ρ j=c.ρ j)->Kr (a.put o.dst u) c'.w)->o.wpIn E.fc 0 P a c.w Kr Qr
def Km (E:Br) (P:Program) (g:FuncId) (aS:List SV) (foot:List Nat) (wr:List (Nat×Option BT)) (v:SV) (h:Hp):Prop:=
 ∀(h':Hp) (n:Nat),(∀j∈foot,h' j=h j)->Ak E P g aS h' n λv' h2 n2=>v'=v/\h2=CH h' wr/\n2=n
def Eo (ops:Array Oper) (j i:Nat):Bool:=match ops[i]? with|some o=>o.after.any λe=>Region.binds .any e&&e.on==j|none=>false
def Ex (ops:Array Oper):Bool:=(List.range ops.size).all λi=>
 match ops[i]? with
 | some oi=>(oi.after.all λe=>!Region.binds .any e||decide (e.on<i))&&(List.range i).all λj=>Eo ops j i||(match ops[j]? with|some oj=>oj.apart ops oi|none=>true)
 | none=>true
theorem Nk {ops:Array Oper} (h:Ex ops=true) {i:Nat} {oi:Oper} (hi:ops[i]? = some oi):∀e∈oi.after,Region.binds .any e=true->e.on<i:=by
 intro e he hb
 have hlt:=(Yd.1 hi).1
 have:=YL.1 h i (List.mem_range.2 hlt)
 simp only[hi,Yb]at this
 have:=Array.all_eq_true'.1 this.1 e he
 simpa[hb]using this
theorem Gh {ops:Array Oper} (h:Ex ops=true) {i j:Nat} {oi oj:Oper} (hi:ops[i]? = some oi) (hj:ops[j]? = some oj) (hji:j<i) (hd:Eo ops j i=false):oj.apart ops oi=true:=by
 have hlt:=(Yd.1 hi).1
 have:=YL.1 h i (List.mem_range.2 hlt)
 simp only[hi,Yb]at this
 have:=YL.1 this.2 j (List.mem_range.2 hji)
 simpa[hd,hj]using this
structure Px (E:Br) (P:Program) (N:Nat) (ops:Array Oper) (f0:Nat->SV) (h0:Hp) (n0 n:Nat) (rs:List CL):Prop where
 len:rs.length=ops.size
 stat:Ex ops=true
 dok:∀(i:Nat) (o:Oper),ops[i]? = some o->∀d,o.dst=some d->d<N
 ok:∀(i:Nat) (o:Oper) (r:CL),ops[i]? = some o->rs[i]? = some r->r.dst=o.dst/\(∀j∈Ap r.wr,j∈r.foot)/\
  ((Fb ops (EK (rs.map CL.tw) (λq=>decide (q<i)) 0 f0) o=some false/\r.val=.tup []/\r.foot=[]/\r.wr=[]/\r.new=[])\/
   (Fb ops (EK (rs.map CL.tw) (λq=>decide (q<i)) 0 f0) o=some true/\
    JY E P N o (EK (rs.map CL.tw) (λq=>decide (q<i)) 0 f0) (EK (rs.map CL.hw) (λq=>decide (q<i)) 0 h0) n r))
 ind:∀(i j:Nat) (ri rj:CL),j<i->rs[i]? = some ri->rs[j]? = some rj->Eo ops j i=false->
  (∀k∈Ap rj.wr,k∉ri.foot)/\(∀k∈Ap ri.wr,k∉rj.foot)/\(∀k∈Ap rj.new,k∉ri.foot)
 newlo:∀(i:Nat) (r:CL),rs[i]? = some r->∀k∈Ap r.new,n0<=k/\k<n
 newne:∀(i j:Nat) (ri rj:CL),i≠j->rs[i]? = some ri->rs[j]? = some rj->∀k∈Ap ri.new,k∉Ap rj.new
 newfoot:∀(i j:Nat) (ri rj:CL),j<=i->rs[i]? = some ri->rs[j]? = some rj->∀k∈Ap ri.new,k∉rj.foot
section
variable {E : Br} {P : Program} {N : Nat} {ops : Array Oper} {f0 : Nat → SV} {h0 : Hp} {n0 n : Nat} {rs : List CL}
theorem K9 {f:Nat->SV} {c:Cx} {a:Act} {o:Oper} {b:Bool} (F:RE E N f c a) (hg:Fb ops f o=some b):Region.wanted o (yielded ops a.tmps)=b:=by
 unfold Fb at hg
 unfold Region.wanted
 split at hg
 . rename_i e;rw[e];simpa using hg
 . rename_i j want e
   rw[e]
   split at hg<;>try cases hg
   rename_i d hd
   split at hg<;>try cases hg
   . rename_i b' hb
     have hv:=F.val d
     rw[hb]at hv
     have:=Gc hv
     simp only[yielded,hd,Yu]
     have hget:a.tmps[d]? = some (.bool b'):=by
      rcases YX d a.tmps.size with hl|hl
      . rw[YG,YZ hl]at this
        rw[YZ hl];simpa using this
      . rw[YG,Z2 hl]at this
        cases this
     rw[hget]
     simp
   . rename_i hb
     have hv:=F.val d
     rw[hb,V]at hv
     obtain⟨vs,hv,_⟩:=hv
     simp only[yielded,hd,Yu]
     rcases YX d a.tmps.size with hl|hl
     . rw[YG,YZ hl]at hv
       rw[YZ hl]
       simp only[ZK]at hv
       rw[hv];rfl
     . rw[Z2 hl];rfl
theorem Np {r:CL} {t:Nat}:t∈Ap r.tw↔r.dst=some t:=by
 unfold CL.tw Ap
 cases h:r.dst<;>simp[eq_comm]
theorem RE.put {f:Nat->SV} {c:Cx} {a:Act} (h:RE E N f c a) {r:CL} (hd:∀d,r.dst=some d->d<N) {u:Value} (hv:V c r.val u):RE E N (CH f r.tw) c (a.put r.dst u):=by
 unfold CL.tw
 cases e:r.dst with
 | none=>exact h
 | some d=>
  refine⟨by simpa[Act.put]using h.size,h.defers,λt=>?_⟩
  simp only[Option.toList_some,Yf,YF,CH,YT,List.foldl_nil,RM,Act.put]
  by_cases et:t=d
  . subst et
    have:=hd t e
    have hs:=h.size
    simp[hs,this,hv]
  . simp only[et,if_false]
    have:=h.val t
    simpa[Zf (Ne.symm et)]using this
structure At (E:Br) (P:Program) (N:Nat) (ops:Array Oper) (f0:Nat->SV) (h0:Hp) (n0 n:Nat) (rs:List CL) (c0:Cx) (listed:Array Bool) (c:Cx) (a:Act):Prop where
 size:listed.size=ops.size
 closed:∀(i:Nat) (o:Oper),ops[i]? = some o->listed.getD i false=true->∀e∈o.after,Region.binds .any e=true->listed.getD e.on false=true
 inv:E.inv c
 rel:Bl (EK (rs.map CL.hw) (λq=>listed.getD q false) 0 h0) c
 fr:RE E N (EK (rs.map CL.tw) (λq=>listed.getD q false) 0 f0) c a
 free:Fr n c
 ext:DD c0 c
 same:∀j,j<n0->c.ρ j=c0.ρ j
 new:∀(i:Nat) (r:CL),rs[i]? = some r->listed.getD i false=false->∀k∈Ap r.new,c.ρ k=none
theorem GU {listed:Array Bool} {i:Nat} (h:i<listed.size) (b:Bool):listed.getD i b=listed[i]:=by simp[Array.getD,h]
theorem Qe (G:Px E P N ops f0 h0 n0 n rs) {c0 c:Cx} {listed:Array Bool} {a:Act} (A:At E P N ops f0 h0 n0 n rs c0 listed c a) {i:Nat} (hi:i∈Region.ready .any ops listed)
 {Qr:Exit->Act->World->Prop} {Kr:Act->World->Prop} (hK:∀c' a',At E P N ops f0 h0 n0 n rs c0 (listed.setIfInBounds i true) c' a'->Kr a' c'.w):wpOpIn E.fc 0 P ops Qr i Kr a c.w:=by
 obtain⟨hun,o,ho,hall⟩:=mem_ready.1 hi
 have hlt:=(Yd.1 ho).1
 have hunF:listed.getD i false=false:=by rw[GU (by rw[A.size];exact hlt)]at hun ⊢;exact hun
 obtain⟨r,hr⟩:∃r,rs[i]? = some r:=⟨rs[i]'(by rw[G.len];exact hlt),by simp⟩
 obtain⟨hdst,hwf,hok⟩:=G.ok i o r ho hr
 have lsel:∀{α:Type} (g:CL->List (Nat×α)) (q:Nat) (w:List (Nat×α)),(rs.map g)[q]? = some w->∃rq,rs[q]? = some rq/\w=g rq:=λg q w hq=>by
  simp only[Yz,YI]at hq
  obtain⟨rq,h1,rfl⟩:=hq;exact⟨rq,h1,rfl⟩
 have oq:∀(q:Nat) (rq:CL),rs[q]? = some rq->∃oq,ops[q]? = some oq:=λq rq hq=>⟨ops[q]'(by rw[<-G.len];exact(Y9.1 hq).1),by simp⟩
 have e1:∀q,listed.getD q false=false->Eo ops q i=false:=λq hq=>by
  unfold Eo
  rw[ho]
  simp only
  rw[Array.any_eq_false']
  intro e he
  rw[Yb,beq_iff_eq]
  rintro⟨hb,rfl⟩
  rw[hall e he hb]at hq;cases hq
 have e2:∀q,listed.getD q false=true->Eo ops i q=false:=λq hq=>by
  unfold Eo
  cases hoq:ops[q]? with
  | none=>rfl
  | some oq=>
   simp only
   rw[Array.any_eq_false']
   intro e he
   rw[Yb,beq_iff_eq]
   rintro⟨hb,rfl⟩
   have:=A.closed q oq hoq hq e he hb
   rw[hunF]at this;cases this
 have agreeT:∀t,t∈o.looksAt ops->EK (rs.map CL.tw) (λq=>listed.getD q false) 0 f0 t=EK (rs.map CL.tw) (λq=>decide (q<i)) 0 f0 t:=λt ht=>by
  refine Gz λq w _ hw hne=>?_
  rw[X7]at hw
  obtain⟨rq,hrq,rfl⟩:=lsel _ q w hw
  obtain⟨oq',hoq⟩:=oq q rq hrq
  have hdq:=(G.ok q oq' rq hoq hrq).1
  rw[Np,hdq]
  intro hdt
  rcases Nat.lt_trichotomy q i with hq|hq|hq
  . have hnl:listed.getD q false=false:=by cases hx:listed.getD q false with|false=>rfl|true=>rw[hx]at hne;simp[hq]at hne
    exact(Oper.apart_spec (Gh G.stat ho hoq hq (e1 q hnl))).1 t hdt ht
  . subst hq;rw[hunF]at hne;simp at hne
  . have hl:listed.getD q false=true:=by cases hx:listed.getD q false with|true=>rfl|false=>rw[hx]at hne;simp[Nat.not_lt.2 (ZG hq)]at hne
    exact(Oper.apart_spec (Gh G.stat hoq ho hq (e2 q hl))).2.2 t hdt ht
 have agreeH:∀k∈r.foot,EK (rs.map CL.hw) (λq=>listed.getD q false) 0 h0 k=EK (rs.map CL.hw) (λq=>decide (q<i)) 0 h0 k:=λk hk=>by
  refine Gz λq w _ hw hne=>?_
  rw[X7]at hw
  obtain⟨rq,hrq,rfl⟩:=lsel _ q w hw
  simp only[CL.hw,Ap,Y3,Y8]
  rcases Nat.lt_trichotomy q i with hq|hq|hq
  . have hnl:listed.getD q false=false:=by cases hx:listed.getD q false with|false=>rfl|true=>rw[hx]at hne;simp[hq]at hne
    have:=G.ind i q r rq hq hr hrq (e1 q hnl)
    rintro(h1|h1)
    . exact this.1 k h1 hk
    . exact this.2.2 k h1 hk
  . subst hq;rw[hunF]at hne;simp at hne
  . have hl:listed.getD q false=true:=by cases hx:listed.getD q false with|true=>rfl|false=>rw[hx]at hne;simp[Nat.not_lt.2 (ZG hq)]at hne
    have:=G.ind q i rq r hq hrq hr (e2 q hl)
    rintro(h1|h1)
    . exact this.2.1 k h1 hk
    . exact G.newfoot q i rq r (ZG hq) hrq hr k h1 hk
 have hD:(λq=>(listed.setIfInBounds i true).getD q false)=λq=>listed.getD q false||q==i:=by
  funext q
  by_cases hq:q=i
  . subst hq;simp[A.size,hlt]
  . have:(q==i)=false:=by simp;exact hq
    rw[this,Bool.or_false]
    simp[Zf (Ne.symm hq)]
 have insT:∀t,EK (rs.map CL.tw) (λq=>listed.getD q false||q==i) 0 f0 t=CH (EK (rs.map CL.tw) (λq=>listed.getD q false) 0 f0) r.tw t:=by
  refine Iq hunF (Y4 _) (by simp[hr]) λq w hq _ hw hl k hk hk2=>?_
  rw[X7]at hw
  obtain⟨rq,hrq,rfl⟩:=lsel _ q w hw
  obtain⟨oq',hoq⟩:=oq q rq hrq
  rw[Np,hdst]at hk
  rw[Np,(G.ok q oq' rq hoq hrq).1]at hk2
  exact(Oper.apart_spec (Gh G.stat hoq ho hq (e2 q hl))).2.1 k hk hk2
 have insH:∀k,EK (rs.map CL.hw) (λq=>listed.getD q false||q==i) 0 h0 k=CH (EK (rs.map CL.hw) (λq=>listed.getD q false) 0 h0) r.hw k:=by
  refine Iq hunF (Y4 _) (by simp[hr]) λq w hq _ hw hl k hk hk2=>?_
  rw[X7]at hw
  obtain⟨rq,hrq,rfl⟩:=lsel _ q w hw
  obtain⟨oq',hoq⟩:=oq q rq hrq
  have hI:=G.ind q i rq r hq hrq hr (e2 q hl)
  have hwq:=(G.ok q oq' rq hoq hrq).2.1
  simp only[CL.hw,Ap,Y3,Y8]at hk hk2
  rcases hk with hk|hk<;>rcases hk2 with hk2|hk2
  . exact hI.1 k hk (hwq k hk2)
  . exact G.newfoot q i rq r (ZG hq) hrq hr k hk2 (hwf k hk)
  . exact hI.2.2 k hk (hwq k hk2)
  . exact G.newne i q r rq (by omega) hr hrq k hk hk2
 have behind:∀c' u,V c' r.val u->Bl (CH (EK (rs.map CL.hw) (λq=>listed.getD q false) 0 h0) r.hw) c'->Fr n c'->DD c c'->(∀j,j∉Ap r.new->c'.ρ j=c.ρ j)->Kr (a.put o.dst u) c'.w:=by
  intro c' u hv R' F' X' hρ
  refine hK c' _ ⟨by simp[A.size],λj oj hoj hl e he hb=>?_,E.ext X' A.inv,?_,?_,F',A.ext.trans X',λj hj=>?_,λj rj hrj hl k hk=>?_⟩
  . by_cases hji:j=i
    . subst hji
      rw[ho]at hoj;cases hoj
      exact getD_set_true (hall e he hb)
    . rw[getD_set_ne false (Ne.symm hji)]at hl
      exact getD_set_true (A.closed j oj hoj hl e he hb)
  . rw[hD]
    have:EK (rs.map CL.hw) (λq=>listed.getD q false||q==i) 0 h0=CH (EK (rs.map CL.hw) (λq=>listed.getD q false) 0 h0) r.hw:=funext insH
    rw[this];exact R'
  . rw[hD]
    have:EK (rs.map CL.tw) (λq=>listed.getD q false||q==i) 0 f0=CH (EK (rs.map CL.tw) (λq=>listed.getD q false) 0 f0) r.tw:=funext insT
    rw[this,<-hdst]
    have FE:RE E N (EK (rs.map CL.tw) (λq=>listed.getD q false) 0 f0) c' a:=⟨A.fr.size,A.fr.defers.mono X',λt=>Xa X' (A.fr.val t)⟩
    exact FE.put (λd hd=>G.dok i o ho d (by rw[<-hdst];exact hd)) hv
  . rw[hρ j λhj2=>by have:=(G.newlo i r hr j hj2).1;omega]
    exact A.same j hj
  . by_cases hji:j=i
    . subst hji
      rw[show(listed.setIfInBounds j true).getD j false=true by simp[A.size,hlt]]at hl
      cases hl
    . rw[getD_set_ne false (Ne.symm hji)]at hl
      rw[hρ k λhk2=>G.newne j i rj r hji hrj hr k hk hk2]
      exact A.new j rj hrj hl k hk
 have guardEq:Fb ops (EK (rs.map CL.tw) (λq=>listed.getD q false) 0 f0) o=Fb ops (EK (rs.map CL.tw) (λq=>decide (q<i)) 0 f0) o:=by
  unfold Fb
  cases hg:o.guard with
  | none=>rfl
  | some p =>
   obtain⟨j,want⟩:=p
   simp only
   cases hd:(ops[j]?).bind (·.dst)with
   | none=>rfl
   | some d=>
    simp only
    rw[agreeT d (by simp[Oper.looksAt,hg,hd])]
 unfold wpOpIn
 rw[ho]
 simp only
 rcases hok with⟨hg,hv,_,hw0,hn0⟩|⟨hg,hstep⟩
 . rw[K9 A.fr (guardEq.trans hg)]
   simp only[Y7,if_false]
   refine⟨λ_ _=>trivial,?_⟩
   refine behind c undef (by rw[hv];exact Ka) ?_ A.free (Xk c) λ_ _=>rfl
   have:r.hw=[]:=by simp[CL.hw,hw0,hn0]
   rw[this];exact A.rel
 . rw[K9 A.fr (guardEq.trans hg),if_pos rfl]
   refine(hstep _ _ c a _ _ (λx hx=>?_) agreeH A.inv A.rel A.free (A.new i r hr hunF) A.fr behind)
   cases x with
   | tmp t=>exact agreeT t (by simp only[Oper.looksAt,Y8,List.mem_filterMap];exact .inl ⟨.tmp t,by simpa using hx,rfl⟩)
   | _=>rfl
end
section
variable {E : Br} {P : Program} {N : Nat} {ops : Array Oper} {f0 : Nat → SV} {h0 : Hp} {n0 n : Nat} {rs : List CL}
def Sv (listed:Array Bool):Nat:=listed.toList.count false
theorem JP {listed:Array Bool} {i:Nat} (hi:i<listed.size) (h:listed.getD i false=false):Sv (listed.setIfInBounds i true)+1=Sv listed:=by
 have hv:listed.toList[i]'(by simpa using hi)=false:=by rw[GU hi]at h;simpa using h
 have hpos:0<listed.toList.count false:=List.count_pos_iff.2 (by rw[<-hv];exact Yc _)
 unfold Sv
 rw[Array.toList_setIfInBounds,List.count_set (h:=by simpa using hi),hv]
 have e1:(if(false==false)=true then 1 else 0)=1:=rfl
 have e2:(if(true==false)=true then 1 else 0)=0:=rfl
 rw[e1,e2]
 omega
theorem PJ (hst:Ex ops=true) {listed:Array Bool} (hs:listed.size=ops.size) (hr:Region.ready .any ops listed=[]):∀i,i<ops.size->listed.getD i false=true:=by
 intro i
 induction i using Nat.strongRecOn with
 | _ i ih =>
  intro hi
  cases h:listed.getD i false with
  | true=>rfl
  | false =>
   exfalso
   have hoi:ops[i]? = some ops[i]:=by simp[hi]
   have:i∈Region.ready .any ops listed:=mem_ready.2 ⟨by rw[GU (by omega)]at h ⊢;exact h,ops[i],hoi,λe he hb=>by
    have hlt:=Nk hst hoi e he hb
    exact ih e.on hlt (by omega)⟩
   rw[hr]at this;cases this
theorem NZ {listed:Array Bool} (hs:listed.size=ops.size) (h:Sv listed=0):Region.ready .any ops listed=[]:=by
 cases hr:Region.ready .any ops listed with
 | nil=>rfl
 | cons i l=>
  exfalso
  obtain⟨hun,o,ho,_⟩:=mem_ready.1 (show i∈Region.ready .any ops listed by rw[hr];simp)
  have hlt:=(Yd.1 ho).1
  have hF:listed.getD i false=false:=by rw[GU (by omega)]at hun ⊢;exact hun
  have:=JP (by omega) hF
  omega
theorem Rm (G:Px E P N ops f0 h0 n0 n rs) {c0:Cx} {Qr:Exit->Act->World->Prop}
 (hQ:∀c' a',Bl (EK (rs.map CL.hw) (λq=>decide (q<ops.size)) 0 h0) c'->RE E N (EK (rs.map CL.tw) (λq=>decide (q<ops.size)) 0 f0) c' a'->Fr n c'->DD c0 c'->(∀j,j<n0->c'.ρ j=c0.ρ j)->Qr .normal a' c'.w):
 ∀(fuel:Nat) (listed:Array Bool) (c:Cx) (a:Act),At E P N ops f0 h0 n0 n rs c0 listed c a->Sv listed=fuel->wpAnyIn E.fc 0 P .any ops Qr fuel listed a c.w:=by
 have done:∀(listed:Array Bool) (c:Cx) (a:Act),At E P N ops f0 h0 n0 n rs c0 listed c a->Region.ready .any ops listed=[]->Qr .normal a c.w:=by
  intro listed c a A hr
  have hall:=PJ G.stat A.size hr
  have e:∀{α:Type} (l:List (List (Nat×α))) (f:Nat->α),l.length=ops.size->EK l (λq=>listed.getD q false) 0 f=EK l (λq=>decide (q<ops.size)) 0 f:=λl f hl=>by
   funext k
   refine Gz λq w _ hw hne=>?_
   have hq:=(Y9.1 hw).1
   rw[X7]at hq
   rw[hall q (by omega)]at hne
   simp[show q<ops.size by omega]at hne
  have R:=A.rel
  have F:=A.fr
  rw[e _ _ (by simp[G.len])]at R F
  exact hQ c a R F A.free A.ext A.same
 intro fuel
 induction fuel with
 | zero=>
  intro listed c a A hf
  have hr:=NZ A.size hf
  exact⟨hr,done listed c a A hr⟩
 | succ fuel ih=>
  intro listed c a A hf
  refine⟨done listed c a A,λi hi=>?_⟩
  obtain⟨hun,o,ho,_⟩:=mem_ready.1 hi
  have hlt:=(Yd.1 ho).1
  have hF:listed.getD i false=false:=by rw[GU (by rw[A.size];exact hlt)]at hun ⊢;exact hun
  have hu:=JP (by rw[A.size];exact hlt) hF
  exact Qe G A hi λc' a' A'=>ih _ c' a' A' (by omega)
theorem PV (G:Px E P N ops f0 h0 n0 n rs) (hm:P.follows .mixedOrders=true) {id:Nat} {c:Cx} {a:Act} {Qr:Exit->Act->World->Prop} (hn:n0<=n) (I:E.inv c) (R:Bl h0 c) (F:Fr n0 c) (A:RE E N f0 c a)
 (hQ:∀c' a',Bl (EK (rs.map CL.hw) (λq=>decide (q<ops.size)) 0 h0) c'->RE E N (EK (rs.map CL.tw) (λq=>decide (q<ops.size)) 0 f0) c' a'->Fr n c'->Ff n0 c n c'->Qr .normal a' c'.w):
 (Code.region id ops true).wpIn E.fc 0 P Qr a c.w:=by
 refine wpIn_region_any hm ?_
 have hg:∀i,(Array.replicate ops.size false).getD i false=false:=λi=>by
  rw[YG]
  by_cases hi:i<ops.size<;>simp[hi]
 have hsel:∀{α:Type} (l:List (List (Nat×α))) (f:Nat->α),EK l (λq=>(Array.replicate ops.size false).getD q false) 0 f=f:=λl f=>by
  funext k;exact QQ λq w _ hD=>by rw[hg]at hD;cases hD
 have:=Rm G (c0:=c) (Qr:=Qr) (λc' a' R' F' Fr' E' S'=>hQ c' a' R' F' Fr' ⟨E',hn,S'⟩) ops.size (Array.replicate ops.size false) c.drew a
  ⟨by simp,λi o _ hl=>(by rw[hg]at hl;cases hl),E.ext c.drew_ext I,(by rw[hsel];exact R.drew),(by rw[hsel];exact⟨A.size,A.defers.mono c.drew_ext,λt=>Xa c.drew_ext (A.val t)⟩),λj hj=>F j (by omega),c.drew_ext,λ_ _=>rfl,
   λi r hr _ k hk=>F k (G.newlo i r hr k hk).1⟩ (by simp[Sv])
 exact this
def C4 (a b:List Nat):Bool:=a.all λx=>!b.contains x
theorem Ic {a b:List Nat} (h:C4 a b=true):∀k∈a,k∉b:=λk hk hb=>by
 have:=YL.1 h k hk
 simp at this;exact this hb
def HU (ops:Array Oper) (i:Nat) (r:CL):Nat->List CL->Bool
 | _,[]=>true
 | j,q::qs=>((C4 (Ap q.wr) r.foot&&C4 (Ap r.wr) q.foot&&C4 (Ap q.new) r.foot)||Eo ops j i)&&HU ops i r (j+1) qs
def Ev (E:Br) (P:Program) (ops:Array Oper) (Q:SA->Hp->Nat->Prop):List Oper->List CL->SA->Hp->Nat->Prop
 | [],_,sa,h,n=>Q sa h n
 | o :: rest, tr, sa, h, n =>
  match DV ops sa o with
  | none=>False
  | some b =>
   if b=true then
   match o.op with
   | .call { callee := .value f, args, .. } =>
    match callee (Gf sa f) (args.toList.map (Gf sa))with
    | some (g,aS)=>∃foot wr v,Km E P g aS foot wr v h/\(∀k∈Ap wr,k∈foot)/\(∀k∈foot,k<n)/\HU ops tr.length { dst:=o.dst,val:=v,foot:=foot,wr:=wr } 0 tr=true/\
     Ev E P ops Q rest (tr++[{ dst:=o.dst,val:=v,foot:=foot,wr:=wr }]) (Dr sa o.dst v) (CH h wr) n
    | none=>False
   | op =>
    match Cp P (Gf sa) h n op with
    | some out=>
     (∀k∈Ap out.upd.toList++Ec (Gf sa) op,k<n)/\HU ops tr.length { dst:=o.dst,val:=out.val,foot:=Ap out.upd.toList++Ec (Gf sa) op,wr:=out.upd.toList,new:=(out.new.map λx=>(n,some x)).toList } 0 tr=true/\
     Ev E P ops Q rest (tr++[{ dst:=o.dst,val:=out.val,foot:=Ap out.upd.toList++Ec (Gf sa) op,wr:=out.upd.toList,new:=(out.new.map λx=>(n,some x)).toList }]) (Dr sa o.dst out.val) (out.app h n) (if out.new.isSome then n+1 else n)
    | none=>∃v,QV P (Gf sa) o v/\HU ops tr.length { dst:=o.dst,val:=v } 0 tr=true/\Ev E P ops Q rest (tr++[{ dst:=o.dst,val:=v }]) (Dr sa o.dst v) h n
   else Ev E P ops Q rest (tr++[{ dst:=o.dst,val:=.tup [] }]) (Dr sa o.dst (.tup [])) h n
theorem Ip {α:Type} {D:Nat->Bool} {l2:List (List (Nat×α))}:∀{l1:List (List (Nat×α))} {i:Nat} {f:Nat->α},EK (l1++l2) D i f=EK l2 D (i+l1.length) (EK l1 D i f)
 | [],i,f=>rfl
 | w::l1,i,f=>by
  simp only[Yq,EK,Yy]
  rw[Ip,show i+1+l1.length=i+(l1.length+1)by omega]
theorem Ki {α:Type} {l:List (List (Nat×α))} {w:List (Nat×α)} {i:Nat} {f:Nat->α} (hi:i<=l.length):EK (l++[w]) (λq=>decide (q<i)) 0 f=EK l (λq=>decide (q<i)) 0 f:=by
 rw[Ip]
 simp only[EK,YW]
 rw[if_neg (by simp;omega)]
theorem Oz {α:Type} {l:List (List (Nat×α))} {w:List (Nat×α)} {f:Nat->α}:EK (l++[w]) (λq=>decide (q<l.length+1)) 0 f=CH (EK l (λq=>decide (q<l.length)) 0 f) w:=by
 rw[Ip]
 simp only[EK,YW]
 rw[if_pos (by simp)]
 congr 1
 funext k
 refine Gz λq v _ hv hne=>?_
 have hq:=(Y9.1 hv).1
 rw[X7]at hq
 simp[hq,show q<l.length+1 by omega]at hne
structure UH (E:Br) (P:Program) (N:Nat) (ops:Array Oper) (f0:Nat->SV) (h0:Hp) (n0 n:Nat) (tr:List CL) (f:Nat->SV) (h:Hp):Prop where
 le:n0<=n
 fr:f=EK (tr.map CL.tw) (λq=>decide (q<tr.length)) 0 f0
 hp:h=EK (tr.map CL.hw) (λq=>decide (q<tr.length)) 0 h0
 ok:∀(i:Nat) (o:Oper) (r:CL),ops[i]? = some o->tr[i]? = some r->r.dst=o.dst/\(∀j∈Ap r.wr,j∈r.foot)/\
  ((Fb ops (EK (tr.map CL.tw) (λq=>decide (q<i)) 0 f0) o=some false/\r.val=.tup []/\r.foot=[]/\r.wr=[]/\r.new=[])\/
   (Fb ops (EK (tr.map CL.tw) (λq=>decide (q<i)) 0 f0) o=some true/\
    ∀m,n<=m->JY E P N o (EK (tr.map CL.tw) (λq=>decide (q<i)) 0 f0) (EK (tr.map CL.hw) (λq=>decide (q<i)) 0 h0) m r))
 ind:∀(i j:Nat) (ri rj:CL),j<i->tr[i]? = some ri->tr[j]? = some rj->Eo ops j i=false->
  (∀k∈Ap rj.wr,k∉ri.foot)/\(∀k∈Ap ri.wr,k∉rj.foot)/\(∀k∈Ap rj.new,k∉ri.foot)
 newlo:∀(i:Nat) (r:CL),tr[i]? = some r->∀k∈Ap r.new,n0<=k/\k<n
 newne:∀(i j:Nat) (ri rj:CL),i≠j->tr[i]? = some ri->tr[j]? = some rj->∀k∈Ap ri.new,k∉Ap rj.new
 footlo:∀(i:Nat) (r:CL),tr[i]? = some r->∀k∈r.foot,k<n
 newfoot:∀(i j:Nat) (ri rj:CL),j<=i->tr[i]? = some ri->tr[j]? = some rj->∀k∈Ap ri.new,k∉rj.foot
theorem LA {i:Nat} {r:CL}:∀{tr:List CL} {j0:Nat},HU ops i r j0 tr=true->∀(j:Nat) (q:CL),tr[j]? = some q->Eo ops (j0+j) i=false->
 (∀k∈Ap q.wr,k∉r.foot)/\(∀k∈Ap r.wr,k∉q.foot)/\(∀k∈Ap q.new,k∉r.foot)
 | [],_,_,j,q,hq,_=>by simp at hq
 | x :: tr, j0, h, j, q, hq, hd => by
  simp only[HU,Yb]at h
  cases j with
  | zero=>
   simp only[Zx,Y6]at hq
   subst hq
   rw[Zj]at hd
   have h1:=h.1
   rw[hd,Bool.or_false,Yb,Yb]at h1
   exact⟨Ic h1.1.1,Ic h1.1.2,Ic h1.2⟩
  | succ j=>exact LA h.2 j q (by simpa using hq) (by rw[show j0+1+j=j0+(j+1)by omega];exact hd)
theorem UH.snoc {tr:List CL} {f:Nat->SV} {h:Hp} {n n':Nat} (A:UH E P N ops f0 h0 n0 n tr f h) {o:Oper} (ho:ops[tr.length]? = some o) {r:CL} (hn:n<=n') (hdst:r.dst=o.dst) (hwf:∀k∈Ap r.wr,k∈r.foot)
 (hfoot:∀k∈r.foot,k<n) (hnew:∀k∈Ap r.new,n<=k/\k<n') (hind:HU ops tr.length r 0 tr=true)
 (hok:(Fb ops f o=some false/\r.val=.tup []/\r.foot=[]/\r.wr=[]/\r.new=[])\/(Fb ops f o=some true/\∀m,n'<=m->JY E P N o f h m r)):
 UH E P N ops f0 h0 n0 n' (tr++[r]) (CH f r.tw) (CH h r.hw):=by
 have hm:∀{α:Type} (g:CL->List (Nat×α)),(tr++[r]).map g=tr.map g++[g r]:=λg=>by simp
 have hl:∀{α:Type} (g:CL->List (Nat×α)),(tr.map g).length=tr.length:=λg=>by simp
 have get:∀{i:Nat} {q:CL},(tr++[r])[i]? = some q->(i<tr.length/\tr[i]? = some q)\/(i=tr.length/\q=r):=fun {i q} h=>by
  rw[List.getElem?_append]at h
  split at h
  . exact .inl ⟨by assumption,h⟩
  . rename_i hi
    have:=(Y9.1 h).1
    simp at this
    have e:i=tr.length:=by omega
    subst e;simp at h
    exact .inr ⟨rfl,h.symm⟩
 refine⟨Yo A.le hn,?_,?_,λi oi ri hoi hri=>?_,λi j ri rj hji hri hrj hd=>?_,λi ri hri k hk=>?_,λi j ri rj hij hri hrj k hk=>?_,λi ri hri k hk=>?_,λi j ri rj hji hri hrj k hk=>?_⟩
 . rw[hm,Ym,List.length_singleton]
   have:=Oz (l:=tr.map CL.tw) (w:=r.tw) (f:=f0)
   rw[hl]at this
   rw[this,<-A.fr]
 . rw[hm,Ym,List.length_singleton]
   have:=Oz (l:=tr.map CL.hw) (w:=r.hw) (f:=h0)
   rw[hl]at this
   rw[this,<-A.hp]
 . rcases get hri with⟨hi,hri⟩|⟨rfl,rfl⟩
   . obtain⟨g1,g2,g3⟩:=A.ok i oi ri hoi hri
     rw[hm,hm,Ki (by rw[hl];omega),Ki (by rw[hl];omega)]
     refine⟨g1,g2,g3.imp id λ⟨x,y⟩=>⟨x,λm hm=>y m (by omega)⟩⟩
   . rw[ho]at hoi;cases hoi
     rw[hm,hm,Ki (by rw[hl];omega),Ki (by rw[hl];omega),<-A.fr,<-A.hp]
     exact⟨hdst,hwf,hok⟩
 . rcases get hri with⟨hi,hri⟩|⟨rfl,rfl⟩
   . rcases get hrj with⟨hj,hrj⟩|⟨rfl,rfl⟩
     . exact A.ind i j ri rj hji hri hrj hd
     . omega
   . rcases get hrj with⟨hj,hrj⟩|⟨rfl,rfl⟩
     . exact LA hind j rj hrj (by rw[YW];exact hd)
     . omega
 . rcases get hri with⟨hi,hri⟩|⟨rfl,rfl⟩
   . have:=A.newlo i ri hri k hk;omega
   . have:=hnew k hk;have:=A.le;omega
 . rcases get hri with⟨hi,gri⟩|⟨rfl,rfl⟩
   . rcases get hrj with⟨hj,grj⟩|⟨rfl,rfl⟩
     . exact A.newne i j ri rj hij gri grj k hk
     . intro h2;have:=A.newlo i ri gri k hk;have:=hnew k h2;omega
   . rcases get hrj with⟨hj,grj⟩|⟨rfl,rfl⟩
     . intro h2;have:=A.newlo j rj grj k h2;have:=hnew k hk;omega
     . exact absurd rfl hij
 . rcases get hri with⟨hi,gri⟩|⟨rfl,rfl⟩
   . have:=A.footlo i ri gri k hk;omega
   . have:=hfoot k hk;omega
 . rcases get hri with⟨hi,gri⟩|⟨rfl,rfl⟩
   . rcases get hrj with⟨hj,grj⟩|⟨rfl,rfl⟩
     . exact A.newfoot i j ri rj hji gri grj k hk
     . omega
   . rcases get hrj with⟨hj,grj⟩|⟨rfl,rfl⟩
     . intro h2;have:=A.footlo j rj grj k h2;have:=hnew k hk;omega
     . intro h2;have:=hfoot k h2;have:=hnew k hk;omega
end
section
variable {E : Br} {P : Program} {N : Nat} {ops : Array Oper} {f0 : Nat → SV} {h0 : Hp} {n0 n : Nat}
theorem JG (sa:SA) (dst:Option Tmp) (v:SV) (r:CL) (hd:r.dst=dst) (hv:r.val=v):Aj (Dr sa dst v)=CH (Aj sa) r.tw:=by
 funext t
 unfold CL.tw
 rw[hd,hv]
 cases dst with
 | none=>rfl
 | some d=>
  show(if d=t then v else Aj sa t)=if t=d then v else Aj sa t
  by_cases e:d=t
  . rw[if_pos e,if_pos e.symm]
  . rw[if_neg e,if_neg (Ne.symm e)]
theorem RU (h:Hp) (k:Nat) (out:Cs) (r:CL) (hw:r.wr=out.upd.toList) (hn:r.new=(out.new.map λx=>(k,some x)).toList):out.app h k=CH h r.hw:=by
 unfold CL.hw Cs.app
 rw[hw,hn]
 cases out.upd with
 | none=>cases out.new<;>rfl
 | some p=>obtain⟨j,x⟩:=p;cases out.new<;>rfl
theorem RE.ev {f:Nat->SV} {c:Cx} {a:Act} (F:RE E N f c a) (x:Operand):V c (NO f x) (a.eval x):=by
 cases x with
 | tmp t=>exact F.val t
 | const v=>exact Ct c v
 | global g=>simp[NO,V]
 | func g=>simp[NO,Act.eval,V,VL]
theorem Pp {ev:Operand->SV} {h:Hp} {k q:Nat} {op:Op} {out:Cs} (hs:Cp P ev h k op=some out) (hn:out.new=none):Cp P ev h q op=some out:=by
 cases op with
 | alloc e=>simp only[Cp]at hs;split at hs<;>cases hs;cases hn
 | box e x=>simp only[Cp]at hs;split at hs<;>cases hs;cases hn
 | buildSlice t l ps=>
  simp only[Cp]at hs
  split at hs<;>try cases hs
  split at hs<;>try cases hs
  simp only[Option.bind_eq_some_iff]at hs
  obtain⟨cs,_,e⟩:=hs
  cases e;cases hn
 | makeMap t r=>simp only[Cp]at hs;split at hs<;>cases hs;cases hn
 | makeSlice t l c=>
  simp only[Cp]at hs
  split at hs<;>try cases hs
  split at hs<;>try cases hs
  cases hn
 | call cl =>
  obtain⟨callee,args,ts⟩:=cl
  cases callee with
  | value f=>exact hs
  | invoke r m=>exact hs
  | builtin b=>
   simp only[Cp]at hs ⊢
   unfold AS at hs ⊢
   split at hs<;>try exact hs
   split at hs
   rotate_left
   . exfalso
     unfold FD at hs
     split at hs<;>try cases hs
     split at hs<;>cases hs
     cases hn
   rename_i ht2
   rw[if_pos ht2]
   unfold Cw at hs ⊢
   split at hs<;>try cases hs
   rename_i e he
   simp only at hs
   split at hs<;>try cases hs
   rename_i m ys hm hys
   simp only[]
   split at hs<;>try cases hs
   rename_i hc
   rw[if_neg hc]
   split at hs
   . rename_i h0;rw[if_pos h0];exact hs
   . exfalso
     split at hs
     . split at hs<;>cases hs;cases hn
     . split at hs<;>try cases hs
       split at hs<;>cases hs;cases hn
     . cases hs
 | _=>exact hs
theorem Nl {o:Oper} {f:Nat->SV} {h:Hp} {out:Cs} (hs:Cp P (NO f) h n o.op=some out) {m:Nat} (hm:(if out.new.isSome then n+1 else n)<=m):
 JY E P N o f h m { dst:=o.dst,val:=out.val,foot:=Ap out.upd.toList++Ec (NO f) o.op,wr:=out.upd.toList,new:=(out.new.map λx=>(n,some x)).toList }:=by
 intro f' h' c a Kr Qr hev hh I R F hnew A hK
 refine⟨λ_ _=>trivial,?_⟩
 have happ:out.app h' n=CH h' (CL.hw { dst:=o.dst,val:=out.val,foot:=Ap out.upd.toList++Ec (NO f) o.op,wr:=out.upd.toList,new:=(out.new.map λx=>(n,some x)).toList }):=RU h' n out _ rfl rfl
 have hs':Cp P (NO f') h' n o.op=some out:=by
  rw[<-hs]
  refine(Q5 (λx hx=>(hev x hx).symm) λj hj=>?_).symm
  exact(hh j (Y8.2 (.inr hj))).symm
 by_cases hn:out.new.isSome=true
 . obtain⟨x,hx⟩:=Z3.1 hn
   have hρn:c.ρ n=none:=hnew n (by show n∈Ap ((out.new.map λx=>(n,some x)).toList);rw[hx];simp[Ap])
   obtain⟨u,c',hr,hv,R',X,hρ⟩:=J0 (ev:=a.eval) hs' R hρn λx _=>A.ev x
   have:=hK c' u hv (happ▸R') (λj hj=>by
    rw[hρ j (.inr (by rw[if_pos hn]at hm;omega))];exact F j hj) X (λj hj=>hρ j (.inr λe=>hj (by subst e;show j∈Ap ((out.new.map λx=>(j,some x)).toList);rw[hx];simp[Ap])))
   rw[Oper.semAt_eq _ _ _ (H0 hs)]
   rcases hr with hr|⟨rfl,hr⟩<;>(rw[hr];exact this)
 . have hnone:out.new=none:=by cases h:out.new<;>simp[h]at hn ⊢
   have free:∃q,c.ρ q=none:=⟨m,F m (Y1 _)⟩
   obtain⟨q,hq⟩:=free
   have hs2:Cp P (NO f') h' q o.op=some out:=Pp hs' hnone
   obtain⟨u,c',hr,hv,R',X,hρ⟩:=J0 (ev:=a.eval) hs2 R hq λx _=>A.ev x
   have eapp:out.app h' q=out.app h' n:=by unfold Cs.app;rw[hnone]
   have:=hK c' u hv (happ▸eapp▸R') (λj hj=>by
    rw[hρ j (.inl (by simp[hnone]))];exact F j hj) X (λj hj=>hρ j (.inl (by simp[hnone])))
   rw[Oper.semAt_eq _ _ _ (H0 hs)]
   rcases hr with hr|⟨rfl,hr⟩<;>(rw[hr];exact this)
theorem O8 {o:Oper} {f:Nat->SV} {h:Hp} {x:Operand} {args:Array Operand} {ts:Array TypeId} {g:FuncId} {aS:List SV} {foot:List Nat} {wr:List (Nat×Option BT)} {v:SV}
 (ho:o.op=.call { callee:=.value x,args:=args,argTypes:=ts }) (hc:callee (NO f x) (args.toList.map (NO f))=some (g,aS)) (hU:Km E P g aS foot wr v h) {m:Nat}:
 JY E P N o f h m { dst:=o.dst,val:=v,foot:=foot,wr:=wr }:=by
 intro f' h' c a Kr Qr hev hh I R F hnew A hK
 refine⟨λ_ _=>trivial,?_⟩
 have ev1:NO f' x=NO f x:=hev x (by rw[ho];simp[Op.operands,Call.operands])
 have ev2:args.toList.map (NO f')=args.toList.map (NO f):=YE λy hy=>hev y (by rw[ho];simp[Op.operands,Call.operands];exact .inr (by simpa using hy))
 have hcall:=hU h' m hh
 have hf:=A.ev x
 rw[ev1]at hf
 unfold callee at hc
 split at hc<;>try cases hc
 rename_i g' y z e1
 rw[e1,V]at hf
 obtain⟨xs,ys,hfv,h1,h2⟩:=hf
 have hargs:AZ (V c) (y++args.toList.map (NO f)++z) (xs++(args.map a.eval).toList++ys):=by
  rw[<-ev2]
  exact Zt (Zt (BJ.1 h1) (GX args λw _=>A.ev w)) (BJ.1 h2)
 obtain⟨hok,hcall⟩:=hcall
 have hc:=hcall c _ I R F hargs
 unfold L6 at hok
 cases hfn:P.funcs[g]? with
 | none=>simp[hfn]at hok
 | some fn =>
  simp only[hfn,Yb,bne_iff_ne,ne_eq]at hok
  have hrun:(execOp a.eval o).run P c.w=.ok (.enter g (xs.toArray++args.map a.eval++ys.toArray)) c.w:=by
   have hb:fn.body≠none:=by intro e;simp[e]at hok
   simp[execOp,ho,resolve,Deferred.ofValue,hfv,invoke,callFunc,hfn,hok.2,hb]
  have earr:xs.toArray++args.map a.eval++ys.toArray=(xs++(args.map a.eval).toList++ys).toArray:=by
   apply Array.ext';simp
  rw[Oper.semAt_eq _ _ _ (by rw[ho];simp),hrun,Oper.uponIn_enter,earr]
  refine⟨λh=>by simp[Br.fc,Fence.wide]at h,(callsIn_wide.2 (hc.mono λe w' ⟨u,v',h2',n',c',he,⟨hv1,hh1,hn1⟩,hw,hv,R',F',A'⟩=>?_):CallsIn Fence.wide _ P g _ c.w _)⟩
  subst he;subst hw;subst hv1;subst hh1;subst hn1
  refine hK c' u hv (by simpa[CL.hw]using R') F' A'.ext λj _=>?_
  rcases YX j n' with hj|hj
  . exact A'.same j hj
  . rw[F j hj,F' j hj]
theorem Ps {o:Oper} {f:Nat->SV} {h:Hp} {v:SV} (H:QV P (NO f) o v) {m:Nat}:JY E P N o f h m { dst:=o.dst,val:=v }:=by
 intro f' h' c a Kr Qr hev hh I R F hnew A hK
 refine⟨λ_ _=>trivial,?_⟩
 rw[Oper.semAt_eq _ _ _ H.1]
 obtain⟨u,hr,hv⟩:=H.2 c a.eval (λ_=>rfl) λx hx=>by rw[<-hev x hx];exact A.ev x
 rw[hr]
 exact hK c u hv (by simpa[CL.hw,CH]using R) F (Xk c) λ_ _=>rfl
theorem FW {Q:SA->Hp->Nat->Prop}:∀(rest:List Oper) (tr:List CL) (sa:SA) (h:Hp) (n:Nat),UH E P N ops f0 h0 n0 n tr (Aj sa) h->ops.toList.drop tr.length=rest->tr.length<=ops.size->
 Ev E P ops Q rest tr sa h n->∃rs sa' h' n',UH E P N ops f0 h0 n0 n' rs (Aj sa') h'/\rs.length=ops.size/\Q sa' h' n'
 | [],tr,sa,h,n,A,hd,hle,H=>⟨tr,sa,h,n,A,by have:=List.drop_eq_nil_iff.1 hd;simp at this;omega,H⟩
 | o :: rest, tr, sa, h, n, A, hd, hle, H => by
  have hlt:tr.length<ops.size:=by
   rcases YX tr.length ops.size with h|h
   . exact h
   . rw[ZC (by simpa using h)]at hd;cases hd
  have ho:ops[tr.length]? = some o:=by
   have:(ops.toList.drop tr.length)[0]? = some o:=by rw[hd];rfl
   rw[YM]at this;simpa using this
  have hd':∀r:CL,ops.toList.drop (tr++[r]).length=rest:=λr=>by
   rw[Ym,List.length_singleton,<-ZW,hd];rfl
  have hle':∀r:CL,(tr++[r]).length<=ops.size:=λr=>by simp;omega
  have plain:∀out,Cp P (Gf sa) h n o.op=some out->
   ((∀k∈Ap out.upd.toList++Ec (Gf sa) o.op,k<n)/\HU ops tr.length { dst:=o.dst,val:=out.val,foot:=Ap out.upd.toList++Ec (Gf sa) o.op,wr:=out.upd.toList,new:=(out.new.map λx=>(n,some x)).toList } 0 tr=true/\
     Ev E P ops Q rest (tr++[{ dst:=o.dst,val:=out.val,foot:=Ap out.upd.toList++Ec (Gf sa) o.op,wr:=out.upd.toList,new:=(out.new.map λx=>(n,some x)).toList }]) (Dr sa o.dst out.val) (out.app h n) (if out.new.isSome then n+1 else n))->
   DV ops sa o=some true->∃rs sa' h' n',UH E P N ops f0 h0 n0 n' rs (Aj sa') h'/\rs.length=ops.size/\Q sa' h' n':=λout hs ⟨h1,h2,h3⟩ hg=>by
   refine FW rest _ _ _ _ ?_ (hd' _) (hle' _) h3
   have:=A.snoc (n':=if out.new.isSome then n+1 else n) ho (r:={ dst:=o.dst,val:=out.val,foot:=Ap out.upd.toList++Ec (Gf sa) o.op,wr:=out.upd.toList,new:=(out.new.map λx=>(n,some x)).toList })
    (by split<;>omega) rfl (λk hk=>Y8.2 (.inl hk)) h1 (λk hk=>by
      cases hn:out.new with
      | none=>rw[hn]at hk;simp[Ap]at hk
      | some x=>rw[hn]at hk;simp[Ap]at hk;subst hk;simp) h2
    (.inr ⟨by rw[<-IF];exact hg,λm hm=>by rw[PW]at hs ⊢;exact Nl hs hm⟩)
   rw[JG sa o.dst out.val { dst:=o.dst,val:=out.val,foot:=Ap out.upd.toList++Ec (Gf sa) o.op,wr:=out.upd.toList,new:=(out.new.map λx=>(n,some x)).toList } rfl rfl,
    RU h n out { dst:=o.dst,val:=out.val,foot:=Ap out.upd.toList++Ec (Gf sa) o.op,wr:=out.upd.toList,new:=(out.new.map λx=>(n,some x)).toList } rfl rfl]
   exact this
  simp only[Ev]at H
  split at H
  case h_1=>exact H.elim
  rename_i b hg
  cases b
  case false=>
   simp only[Y7,if_false]at H
   refine FW rest _ _ _ _ ?_ (hd' _) (hle' _) H
   have:=A.snoc (n':=n) ho (r:={ dst:=o.dst,val:=.tup [] }) (Y1 _) rfl (by simp[Ap]) (by simp) (by simp[Ap]) (by
    have:∀(l:List CL) (j:Nat),HU ops tr.length { dst:=o.dst,val:=.tup [] } j l=true:=by
     intro l
     induction l with
     | nil=>intro j;rfl
     | cons q l ih=>
      intro j
      simp only[HU,ih,Bool.and_true]
      have d1:∀a:List Nat,C4 a []=true:=λa=>by simp[C4]
      rw[d1,d1]
      simp[C4,Ap]
    exact this tr 0) (.inl ⟨by rw[<-IF];exact hg,rfl,rfl,rfl,rfl⟩)
   rw[JG sa o.dst (.tup []) { dst:=o.dst,val:=.tup [] } rfl rfl]
   exact this
  case true=>
   rw[if_pos rfl]at H
   split at H
   . rename_i f args ts hop
     split at H
     . rename_i g aS hc
       obtain⟨foot,wr,v,hU,hwf,hfoot,hind,hrest⟩:=H
       refine FW rest _ _ _ _ ?_ (hd' _) (hle' _) hrest
       have:=A.snoc (n':=n) ho (r:={ dst:=o.dst,val:=v,foot:=foot,wr:=wr }) (Y1 _) rfl hwf hfoot (by simp[Ap]) hind
        (.inr ⟨by rw[<-IF];exact hg,λm _=>by rw[PW]at hc;exact O8 hop hc hU⟩)
       rw[JG sa o.dst v { dst:=o.dst,val:=v,foot:=foot,wr:=wr } rfl rfl]
       simpa[CL.hw]using this
     . exact H.elim
   . split at H
     . rename_i out hs
       exact plain out hs H hg
     . obtain⟨v,hV,hind,hrest⟩:=H
       refine FW rest _ _ _ _ ?_ (hd' _) (hle' _) hrest
       have:=A.snoc (n':=n) ho (r:={ dst:=o.dst,val:=v }) (Y1 _) rfl (by simp[Ap]) (by simp) (by simp[Ap]) hind
        (.inr ⟨by rw[<-IF];exact hg,λm _=>by rw[PW]at hV;exact Ps hV⟩)
       rw[JG sa o.dst v { dst:=o.dst,val:=v } rfl rfl]
       simpa[CL.hw,CH]using this
theorem RQ {id:Nat} {Q:Cc} {sa:SA} {h:Hp} {n:Nat} (hm:P.follows .mixedOrders=true) (hst:Ex ops=true) (H:Ev E P ops (Q .normal) ops.toList [] sa h n):Fk E P N (.region id ops true) Q sa h n:=by
 intro hd c a I R F A
 simp only[Code.dok,YL]at hd
 have hdd:∀(i:Nat) (o:Oper),ops[i]? = some o->∀d,o.dst=some d->d<N:=λi o ho d e=>by
  have:=hd o (by simpa using Array.mem_of_getElem? ho)
  rw[e]at this;simpa using this
 have A0:UH E P N ops (Aj sa) h n n [] (Aj sa) h:=
  ⟨Y1 _,rfl,rfl,by simp,by simp,by simp,by simp,by simp,by simp⟩
 obtain⟨rs,sa',h',n',A1,hlen,hq⟩:=FW (N:=N) ops.toList [] sa h n A0 rfl (Y4 _) H
 have G:Px E P N ops (Aj sa) h n n' rs:=
  ⟨hlen,hst,hdd,λi o r ho hr=>by
   obtain⟨g1,g2,g3⟩:=A1.ok i o r ho hr
   exact⟨g1,g2,g3.imp (λz=>z) λ⟨x,y⟩=>⟨x,y n' (Y1 _)⟩⟩,A1.ind,A1.newlo,A1.newne,A1.newfoot⟩
 refine PV G hm A1.le I R F ⟨A.size,A.defers,A.val⟩ λc' a' R' F' Fr' E'=>?_
 rw[<-hlen,<-A1.hp]at R'
 rw[<-hlen,<-A1.fr]at F'
 exact⟨sa',h',n',c',hq,rfl,R',Fr',⟨F'.size,F'.defers,F'.val⟩,E'⟩
end
def FX (E:Br) (P:Program) (N:Nat):Code->Cc->SA->Hp->Nat->Prop
 | .skip,Q,sa,h,n=>Q .normal sa h n
 | .seq a b,Q,sa,h,n=>FX E P N a (DO (FX E P N b Q) Q) sa h n
 | .cond c a b,Q,sa,h,n=>match Gf sa c with|.bool t=>if t=true then FX E P N a Q sa h n else FX E P N b Q sa h n|_=>False
 | .block id b,Q,sa,h,n=>FX E P N b (FF id Q) sa h n
 | .exit id,Q,sa,h,n=>Q (.exit id) sa h n
 | .ret,Q,sa,h,n=>Q .ret sa h n
 | .region _ ops false,Q,sa,h,n=>H3 E P ops (Q .normal) ops.toList sa h n
 | .region _ ops true,Q,sa,h,n=>Ex ops=true/\Ev E P ops (Q .normal) ops.toList [] sa h n
 | .loop b,Q,sa,h,n=>Fk E P N (.loop b) Q sa h n
 | .rangeFunc g ps a b,Q,sa,h,n=>Fk E P N (.rangeFunc g ps a b) Q sa h n
 | _,_,_,_,_=>False
theorem FO {K K':SA->Hp->Nat->Prop} {Q:Cc} (hk:∀sa h n,K sa h n->K' sa h n):∀e sa h n,DO K Q e sa h n->DO K' Q e sa h n:=by
 intro e sa h n H
 cases e<;>first|exact hk _ _ _ H|exact H
theorem Ef {E:Br} {P:Program} {N:Nat} (hm:P.follows .mixedOrders=true):∀(c:Code) (Q:Cc) (sa:SA) (h:Hp) (n:Nat),FX E P N c Q sa h n->Fk E P N c Q sa h n
 | .skip,Q,sa,h,n,H=>FS H
 | .seq a b,Q,sa,h,n,H=>Iz (GC (Ef hm a _ sa h n H) (FO λsa h n=>Ef hm b Q sa h n))
 | .cond c a b,Q,sa,h,n,H=>by
  simp only[FX]at H
  split at H
  . rename_i t ht
    refine Ag ht ?_
    split at H
    . rename_i e;rw[if_pos e];exact Ef hm a Q sa h n H
    . rename_i e;rw[if_neg e];exact Ef hm b Q sa h n H
  . exact H.elim
 | .block id b,Q,sa,h,n,H=>MI (Ef hm b _ sa h n H)
 | .exit id,Q,sa,h,n,H=>RR H
 | .ret,Q,sa,h,n,H=>Sx H
 | .region _ ops false,Q,sa,h,n,H=>PG H
 | .region _ ops true,Q,sa,h,n,H=>RQ hm H.1 H.2
 | .loop b,Q,sa,h,n,H=>H
 | .rangeFunc _ _ _ _,_,_,_,_,H=>H
 | .scope _,_,_,_,_,H=>H.elim
 | .label _,_,_,_,_,H=>H.elim
 | .goto _,_,_,_,_,H=>H.elim
 | .refuse _,_,_,_,_,H=>H.elim
def Is (v:SV) (h:Hp) (n:Nat):SV->Hp->Nat->Prop:=λv' h' n'=>v'=v/\h'=h/\n'=n
def Fg (P:Program) (f:FuncId) (args:List SV) (v:SV):Prop:=∀h n,BM P f args h n (Is v h n)
theorem Fg.use {E:Br} {P:Program} {f:FuncId} {args:List SV} {v:SV} (H:Fg P f args v) {h:Hp} {n:Nat} {K:SV->Hp->Nat->Prop} (hk:K v h n):Ak E P f args h n K:=
 Ak.lift<|(H h n).mono λ_ _ _ ⟨e1,e2,e3⟩=>by subst e1;subst e2;subst e3;exact hk
theorem Fg.u {E:Br} {P:Program} {f:FuncId} {args:List SV} {v:SV} (H:Fg P f args v) (h:Hp):Km E P f args [] [] v h:=
 λh' n _=>Ak.lift<|(H h' n).mono λ_ _ _ ⟨e1,e2,e3⟩=>⟨e1,e2,e3⟩
theorem QU {E:Br} {P:Program} (hm:P.follows .mixedOrders=true) {f:FuncId} {fn:Func} {code:Code} {args:List SV} {h:Hp} {n:Nat} {K:SV->Hp->Nat->Prop} (hf:P.funcs[f]? = some fn) (hb:fn.body=some code)
 (hn:(fn.name != "runtime.NumGoroutine")=true) (hd:Code.dok fn.ntmps code=true) (hl:args.length<=fn.ntmps)
 (H:(∀a∈args,closed n a=true)->(∀o x,h o=some x->o<n/\BN n x=true)->FX (E.call false 0) P fn.ntmps code (L8 P fn n K) (ET 0 args) h n):Ak E P f args h n K:=
 MH hf hb hn hd hl λh1 h2=>Ef hm _ _ _ _ _ (H h1 h2)
theorem Bz.plain {n:Nat} {h h':Hp} {n':Nat} {v:SV} {K:SV->Hp->Nat->Prop} (hc:closed n v=true) (hs:∀o x,h o=some x->o<n/\BN n x=true) (hh:∀o x,h o=some x->h' o=some x) (hk:K v h n):Bz n h' n' v K:=
 .inr ⟨0,v,h,rfl,hc,λo x e=>⟨hh o x e,hs o x e⟩,hk⟩
abbrev swp:=FX Br.plain
abbrev TY (k sz b:Nat) (ag:Option Bool) (sl:Option TypeId) (ar:Option (Nat×TypeId)) (mp:Option (TypeId×TypeId)) (st:Bool) (i:Option IntKind) (bo pt:Bool) (ze:SV):Prop:=
 Bh Tryz.prog k=sz/\Bg Tryz.prog k=b/\Fx Tryz.prog k=ag/\A6 Tryz.prog k=sl/\Iu Tryz.prog k=ar/\KV Tryz.prog k=mp/\Ey Tryz.prog k=st/\KU Tryz.prog k=i/\Lj Tryz.prog k=bo/\Si Tryz.prog k=pt/\BH Tryz.prog k=ze
abbrev TF (k i o t:Nat):Prop:=H8 Tryz.prog k i=some (o,t)
@[go_sem] theorem ty3:TY 3 1 8 (some false) none none none false (some .i64) false false (.int .i64 0):=by(repeat' apply And.intro)<;>kernel_rfl
@[go_sem] theorem ty4:TY 4 1 1 (some false) none none none false none true false (.bool false):=by(repeat' apply And.intro)<;>kernel_rfl
@[go_sem] theorem ty5:TY 5 1 1 (some false) none none none false (some .u8) false false (.int .u8 0):=by(repeat' apply And.intro)<;>kernel_rfl
@[go_sem] theorem ty9:TY 9 1 16 (some false) none none none true none false false (.str .empty):=by(repeat' apply And.intro)<;>kernel_rfl
@[go_sem] theorem ty22:TY 22 1 24 (some false) (some 70) none none false none false false (.imm 0 [] true):=by(repeat' apply And.intro)<;>kernel_rfl
@[go_sem] theorem ty23:TY 23 1 24 (some false) (some 193) none none false none false false (.imm 0 [] true):=by(repeat' apply And.intro)<;>kernel_rfl
@[go_sem] theorem ty24:TY 24 1 24 (some false) (some 166) none none false none false false (.imm 0 [] true):=by(repeat' apply And.intro)<;>kernel_rfl
@[go_sem] theorem ty25:TY 25 1 24 (some false) (some 164) none none false none false false (.imm 0 [] true):=by(repeat' apply And.intro)<;>kernel_rfl
@[go_sem] theorem ty27:TY 27 4 64 (some true) none none none false none false false (.agg [.int .i64 0,.int .i64 0,.imm 0 [] true,.imm 0 [] true])/\BX Tryz.prog 27=some [(0,1),(1,1),(2,1),(3,1)]/\TF 27 0 0 3/\TF 27 1 1 3/\TF 27 2 2 24/\TF 27 3 3 25:=by(repeat' first|apply And.intro|unfold TF)<;>kernel_rfl
@[go_sem] theorem ty29:TY 29 5 88 (some true) none none none false none false false (.agg [.imm 0 [] true,.int .i64 0,.int .i64 0,.imm 0 [] true,.imm 0 [] true])/\BX Tryz.prog 29=some [(0,1),(1,4)]/\TF 29 0 0 23/\TF 29 1 1 27:=by(repeat' first|apply And.intro|unfold TF)<;>kernel_rfl
@[go_sem] theorem ty30:TY 30 1 24 (some false) (some 42) none none false none false false (.imm 0 [] true):=by(repeat' apply And.intro)<;>kernel_rfl
@[go_sem] theorem ty31:TY 31 1 24 (some false) (some 198) none none false none false false (.imm 0 [] true):=by(repeat' apply And.intro)<;>kernel_rfl
@[go_sem] theorem ty32:TY 32 1 24 (some false) (some 103) none none false none false false (.imm 0 [] true):=by(repeat' apply And.intro)<;>kernel_rfl
@[go_sem] theorem ty33:TY 33 1 24 (some false) (some 115) none none false none false false (.imm 0 [] true):=by(repeat' apply And.intro)<;>kernel_rfl
@[go_sem] theorem ty34:TY 34 1 24 (some false) (some 118) none none false none false false (.imm 0 [] true):=by(repeat' apply And.intro)<;>kernel_rfl
@[go_sem] theorem ty36:TY 36 4 96 (some true) none none none false none false false (.agg [.imm 0 [] true,.imm 0 [] true,.imm 0 [] true,.imm 0 [] true])/\BX Tryz.prog 36=some [(0,1),(1,1),(2,1),(3,1)]/\TF 36 0 0 31/\TF 36 1 1 32/\TF 36 2 2 33/\TF 36 3 3 34:=by(repeat' first|apply And.intro|unfold TF)<;>kernel_rfl
@[go_sem] theorem ty38:TY 38 11 232 (some true) none none none false none false false (.agg [.imm 0 [] true,.imm 0 [] true,.int .i64 0,.int .i64 0,.imm 0 [] true,.imm 0 [] true,.imm 0 [] true,.imm 0 [] true,.imm 0 [] true,.imm 0 [] true,.imm 0 [] true])/\BX Tryz.prog 38=some [(0,1),(1,5),(6,1),(7,4)]/\TF 38 0 0 22/\TF 38 1 1 29/\TF 38 2 6 30/\TF 38 3 7 36:=by(repeat' first|apply And.intro|unfold TF)<;>kernel_rfl
@[go_sem] theorem ty40:TY 40 3 24 (some true) none none none false none false false (.agg [.int .i64 0,.int .i64 0,.int .i64 0])/\BX Tryz.prog 40=some [(0,1),(1,1),(2,1)]/\TF 40 0 0 3/\TF 40 1 1 3/\TF 40 2 2 3:=by(repeat' first|apply And.intro|unfold TF)<;>kernel_rfl
@[go_sem] theorem ty42:TY 42 3 32 (some true) none none none false none false false (.agg [.int .i64 0,.str .empty,.int .i64 0])/\BX Tryz.prog 42=some [(0,1),(1,1),(2,1)]/\TF 42 0 0 3/\TF 42 1 1 9/\TF 42 2 2 3:=by(repeat' first|apply And.intro|unfold TF)<;>kernel_rfl
@[go_sem] theorem ty44:TY 44 7 64 (some true) none none none false none false false (.agg [.int .i64 0,.int .i64 0,.int .i64 0,.int .i64 0,.int .i64 0,.str .empty,.int .i64 0])/\BX Tryz.prog 44=some [(0,1),(1,3),(4,3)]/\TF 44 0 0 3/\TF 44 1 1 40/\TF 44 2 4 42:=by(repeat' first|apply And.intro|unfold TF)<;>kernel_rfl
@[go_sem] theorem ty47:TY 47 1 8 (some false) none none none false (some .i64) false false (.int .i64 0):=by(repeat' apply And.intro)<;>kernel_rfl
@[go_sem] theorem ty61:TY 61 1 24 (some false) (some 3) none none false none false false (.imm 0 [] true):=by(repeat' apply And.intro)<;>kernel_rfl
@[go_sem] theorem ty68:TY 68 1 24 (some false) (some 169) none none false none false false (.imm 0 [] true):=by(repeat' apply And.intro)<;>kernel_rfl
@[go_sem] theorem ty70:TY 70 11 176 (some true) none none none false none false false (.agg [.int .i64 0,.int .i64 0,.int .i64 0,.str .empty,.imm 0 [] true,.int .i64 0,.int .i64 0,.imm 0 [] true,.imm 0 [] true,.imm 0 [] true,.imm 0 [] true])/\BX Tryz.prog 70=some [(0,1),(1,1),(2,1),(3,1),(4,5),(9,1),(10,1)]/\TF 70 0 0 3/\TF 70 1 1 3/\TF 70 2 2 3/\TF 70 3 3 9/\TF 70 4 4 29/\TF 70 5 9 22/\TF 70 6 10 68:=by(repeat' first|apply And.intro|unfold TF)<;>kernel_rfl
@[go_sem] theorem ty72:TY 72 1 8 (some false) none none none false none false true .nilp:=by(repeat' apply And.intro)<;>kernel_rfl
@[go_sem] theorem ty79:TY 79 7 104 (some true) none none none false none false false (.agg [.imm 0 [] true,.int .i64 0,.int .i64 0,.imm 0 [] true,.imm 0 [] true,.bool false,.int .i64 0])/\BX Tryz.prog 79=some [(0,5),(5,1),(6,1)]/\TF 79 0 0 29/\TF 79 1 5 4/\TF 79 2 6 3:=by(repeat' first|apply And.intro|unfold TF)<;>kernel_rfl
@[go_sem] theorem ty81:TY 81 1 8 (some false) none none none false none false false .nilf:=by(repeat' apply And.intro)<;>kernel_rfl
@[go_sem] theorem ty85:TY 85 1 8 (some false) none none (some (89,90)) false none false false .nilm:=by(repeat' apply And.intro)<;>kernel_rfl
@[go_sem] theorem ty86:TY 86 1 24 (some false) (some 89) none none false none false false (.imm 0 [] true):=by(repeat' apply And.intro)<;>kernel_rfl
@[go_sem] theorem ty89:TY 89 2 16 (some true) none none none false none false false (.agg [.int .i64 0,.int .i64 0])/\BX Tryz.prog 89=some [(0,1),(1,1)]/\TF 89 0 0 3/\TF 89 1 1 3:=by(repeat' first|apply And.intro|unfold TF)<;>kernel_rfl
@[go_sem] theorem ty90:TY 90 2 2 (some true) none (some (2,4)) none false none false false (.agg [.bool false,.bool false])/\BX Tryz.prog 90=some [(0,1),(1,1)]:=by(repeat' apply And.intro)<;>kernel_rfl
@[go_sem] theorem ty94:TY 94 1 8 (some false) none none none false none false false .nilf:=by(repeat' apply And.intro)<;>kernel_rfl
@[go_sem] theorem ty96:TY 96 1 8 (some false) none none none false none false false .nilf:=by(repeat' apply And.intro)<;>kernel_rfl
@[go_sem] theorem ty101:TY 101 1 24 (some false) (some 106) none none false none false false (.imm 0 [] true):=by(repeat' apply And.intro)<;>kernel_rfl
@[go_sem] theorem ty103:TY 103 2 32 (some true) none none none false none false false (.agg [.int .i64 0,.imm 0 [] true])/\BX Tryz.prog 103=some [(0,1),(1,1)]/\TF 103 0 0 3/\TF 103 1 1 101:=by(repeat' first|apply And.intro|unfold TF)<;>kernel_rfl
@[go_sem] theorem ty106:TY 106 4 40 (some true) none none none false none false false (.agg [.int .i64 0,.int .i64 0,.str .empty,.int .i64 0])/\BX Tryz.prog 106=some [(0,1),(1,1),(2,1),(3,1)]/\TF 106 0 0 3/\TF 106 1 1 3/\TF 106 2 2 9/\TF 106 3 3 3:=by(repeat' first|apply And.intro|unfold TF)<;>kernel_rfl
@[go_sem] theorem ty107:TY 107 1 8 (some false) none none none false none false false .nilf:=by(repeat' apply And.intro)<;>kernel_rfl
@[go_sem] theorem ty115:TY 115 6 64 (some true) none none none false none false false (.agg [.int .i64 0,.int .i64 0,.str .empty,.int .i64 0,.str .empty,.bool false])/\BX Tryz.prog 115=some [(0,1),(1,1),(2,1),(3,1),(4,1),(5,1)]/\TF 115 0 0 3/\TF 115 1 1 3/\TF 115 2 2 9/\TF 115 3 3 3/\TF 115 4 4 9/\TF 115 5 5 4:=by(repeat' first|apply And.intro|unfold TF)<;>kernel_rfl
@[go_sem] theorem ty118:TY 118 2 32 (some true) none none none false none false false (.agg [.str .empty,.str .empty])/\BX Tryz.prog 118=some [(0,1),(1,1)]/\TF 118 0 0 9/\TF 118 1 1 9:=by(repeat' first|apply And.intro|unfold TF)<;>kernel_rfl
@[go_sem] theorem ty130:TY 130 1 8 (some false) none none none false none false false .nilf:=by(repeat' apply And.intro)<;>kernel_rfl
@[go_sem] theorem ty134:TY 134 1 8 (some false) none none none false none false true .nilp:=by(repeat' apply And.intro)<;>kernel_rfl
@[go_sem] theorem ty140:TY 140 3 16 (some true) none none none false none false false (.agg [.bool false,.bool false,.int .i64 0])/\BX Tryz.prog 140=some [(0,1),(1,1),(2,1)]/\TF 140 0 0 4/\TF 140 1 1 4/\TF 140 2 2 3:=by(repeat' first|apply And.intro|unfold TF)<;>kernel_rfl
@[go_sem] theorem ty141:TY 141 1 8 (some false) none none (some (3,3)) false none false false .nilm:=by(repeat' apply And.intro)<;>kernel_rfl
@[go_sem] theorem ty142:TY 142 1 8 (some false) none none (some (3,4)) false none false false .nilm:=by(repeat' apply And.intro)<;>kernel_rfl
@[go_sem] theorem ty144:TY 144 6 48 (some true) none none none false none false false (.agg [.nilm,.nilm,.nilm,.nilm,.nilm,.int .i64 0])/\BX Tryz.prog 144=some [(0,1),(1,1),(2,1),(3,1),(4,1),(5,1)]/\TF 144 0 0 141/\TF 144 1 1 142/\TF 144 2 2 142/\TF 144 3 3 142/\TF 144 4 4 142/\TF 144 5 5 3:=by(repeat' first|apply And.intro|unfold TF)<;>kernel_rfl
@[go_sem] theorem ty146:TY 146 1 8 (some false) none none none false none false false .nilf:=by(repeat' apply And.intro)<;>kernel_rfl
@[go_sem] theorem ty147:TY 147 1 24 (some false) (some 3) none none false none false false (.imm 0 [] true):=by(repeat' apply And.intro)<;>kernel_rfl
@[go_sem] theorem ty150:TY 150 1 8 (some false) none none none false none false false .nilf:=by(repeat' apply And.intro)<;>kernel_rfl
@[go_sem] theorem ty154:TY 154 1 8 (some false) none none none false none false false .nilf:=by(repeat' apply And.intro)<;>kernel_rfl
@[go_sem] theorem ty155:TY 155 1 8 (some false) none none (some (89,3)) false none false false .nilm:=by(repeat' apply And.intro)<;>kernel_rfl
@[go_sem] theorem ty159:TY 159 1 24 (some false) (some 239) none none false none false false (.imm 0 [] true):=by(repeat' apply And.intro)<;>kernel_rfl
@[go_sem] theorem ty164:TY 164 4 32 (some true) none none none false none false false (.agg [.int .i64 0,.int .i64 0,.int .i64 0,.bool false])/\BX Tryz.prog 164=some [(0,1),(1,1),(2,1),(3,1)]/\TF 164 0 0 3/\TF 164 1 1 3/\TF 164 2 2 3/\TF 164 3 3 4:=by(repeat' first|apply And.intro|unfold TF)<;>kernel_rfl
@[go_sem] theorem ty166:TY 166 2 16 (some true) none none none false none false false (.agg [.int .i64 0,.int .i64 0])/\BX Tryz.prog 166=some [(0,1),(1,1)]/\TF 166 0 0 3/\TF 166 1 1 3:=by(repeat' first|apply And.intro|unfold TF)<;>kernel_rfl
@[go_sem] theorem ty167:TY 167 1 24 (some false) (some 171) none none false none false false (.imm 0 [] true):=by(repeat' apply And.intro)<;>kernel_rfl
@[go_sem] theorem ty169:TY 169 6 112 (some true) none none none false none false false (.agg [.imm 0 [] true,.int .i64 0,.int .i64 0,.imm 0 [] true,.imm 0 [] true,.imm 0 [] true])/\BX Tryz.prog 169=some [(0,5),(5,1)]/\TF 169 0 0 29/\TF 169 1 5 167:=by(repeat' first|apply And.intro|unfold TF)<;>kernel_rfl
@[go_sem] theorem ty171:TY 171 7 120 (some true) none none none false none false false (.agg [.int .i64 0,.imm 0 [] true,.int .i64 0,.int .i64 0,.imm 0 [] true,.imm 0 [] true,.imm 0 [] true])/\BX Tryz.prog 171=some [(0,1),(1,5),(6,1)]/\TF 171 0 0 3/\TF 171 1 1 29/\TF 171 2 6 22:=by(repeat' first|apply And.intro|unfold TF)<;>kernel_rfl
@[go_sem] theorem ty176:TY 176 4 40 (some true) none none none false none false false (.agg [.imm 0 [] true,.bool false,.bool false,.int .i64 0])/\BX Tryz.prog 176=some [(0,1),(1,3)]/\TF 176 0 0 22/\TF 176 1 1 140:=by(repeat' first|apply And.intro|unfold TF)<;>kernel_rfl
@[go_sem] theorem ty179:TY 179 1 8 (some false) none none none false none false false .nilf:=by(repeat' apply And.intro)<;>kernel_rfl
@[go_sem] theorem ty186:TY 186 1 8 (some false) none none none false none false false .nilf:=by(repeat' apply And.intro)<;>kernel_rfl
@[go_sem] theorem ty190:TY 190 1 8 (some false) none none none false none false false .nilf:=by(repeat' apply And.intro)<;>kernel_rfl
@[go_sem] theorem ty193:TY 193 2 16 (some true) none none none false none false false (.agg [.int .i64 0,.int .i64 0])/\BX Tryz.prog 193=some [(0,1),(1,1)]/\TF 193 0 0 3/\TF 193 1 1 3:=by(repeat' first|apply And.intro|unfold TF)<;>kernel_rfl
@[go_sem] theorem ty198:TY 198 6 72 (some true) none none none false none false false (.agg [.int .i64 0,.int .i64 0,.str .empty,.int .i64 0,.int .i64 0,.imm 0 [] true])/\BX Tryz.prog 198=some [(0,1),(1,1),(2,1),(3,1),(4,1),(5,1)]/\TF 198 0 0 3/\TF 198 1 1 3/\TF 198 2 2 9/\TF 198 3 3 3/\TF 198 4 4 3/\TF 198 5 5 23:=by(repeat' first|apply And.intro|unfold TF)<;>kernel_rfl
@[go_sem] theorem ty199:TY 199 1 8 (some false) none none none false none false false .nilf:=by(repeat' apply And.intro)<;>kernel_rfl
@[go_sem] theorem ty201:TY 201 1 8 (some false) none none none false none false false .nilf:=by(repeat' apply And.intro)<;>kernel_rfl
@[go_sem] theorem ty204:TY 204 1 8 (some false) none none none false none false false .nilf:=by(repeat' apply And.intro)<;>kernel_rfl
@[go_sem] theorem ty205:TY 205 1 8 (some false) none none none false none false false .nilf:=by(repeat' apply And.intro)<;>kernel_rfl
@[go_sem] theorem ty206:TY 206 1 8 (some false) none none none false none false false .nilf:=by(repeat' apply And.intro)<;>kernel_rfl
@[go_sem] theorem ty210:TY 210 1 8 (some false) none none none false none false false .nilf:=by(repeat' apply And.intro)<;>kernel_rfl
@[go_sem] theorem ty213:TY 213 1 8 (some false) none none none false (some .u64) false false (.int .u64 0):=by(repeat' apply And.intro)<;>kernel_rfl
@[go_sem] theorem ty218:TY 218 2 48 (some true) none none none false none false false (.agg [.imm 0 [] true,.imm 0 [] true])/\BX Tryz.prog 218=some [(0,1),(1,1)]/\TF 218 0 0 61/\TF 218 1 1 61:=by(repeat' first|apply And.intro|unfold TF)<;>kernel_rfl
@[go_sem] theorem ty219:TY 219 1 24 (some false) (some 47) none none false none false false (.imm 0 [] true):=by(repeat' apply And.intro)<;>kernel_rfl
@[go_sem] theorem ty226:TY 226 1 8 (some false) none none none false none false false .nilf:=by(repeat' apply And.intro)<;>kernel_rfl
@[go_sem] theorem ty228:TY 228 1 8 (some false) none none none false none false false .nilf:=by(repeat' apply And.intro)<;>kernel_rfl
@[go_sem] theorem ty239:TY 239 2 16 (some true) none (some (2,3)) none false none false false (.agg [.int .i64 0,.int .i64 0])/\BX Tryz.prog 239=some [(0,1),(1,1)]:=by(repeat' apply And.intro)<;>kernel_rfl
@[go_sem] theorem ty243:TY 243 1 8 (some false) none none none false none false false .nilf:=by(repeat' apply And.intro)<;>kernel_rfl
@[go_sem] theorem ty259:TY 259 1 8 (some false) none none none false none false false .nilf:=by(repeat' apply And.intro)<;>kernel_rfl
@[go_sem] theorem ty262:TY 262 1 8 (some false) none none none false none false false .nilf:=by(repeat' apply And.intro)<;>kernel_rfl
@[go_sem] theorem ty278:TY 278 1 8 (some false) none none none false none false false .nilf:=by(repeat' apply And.intro)<;>kernel_rfl
@[go_sem] theorem ty282:TY 282 1 8 (some false) none none none false none false false .nilf:=by(repeat' apply And.intro)<;>kernel_rfl
@[go_sem] theorem ty285:TY 285 1 8 (some false) none none none false none false false .nilf:=by(repeat' apply And.intro)<;>kernel_rfl
@[go_sem] theorem ty289:TY 289 1 24 (some false) (some 291) none none false none false false (.imm 0 [] true):=by(repeat' apply And.intro)<;>kernel_rfl
@[go_sem] theorem ty291:TY 291 2 16 (some true) none none none false none false false (.agg [.int .i64 0,.bool false])/\BX Tryz.prog 291=some [(0,1),(1,1)]/\TF 291 0 0 3/\TF 291 1 1 4:=by(repeat' first|apply And.intro|unfold TF)<;>kernel_rfl
@[go_sem] theorem ty299:TY 299 1 8 (some false) none none none false (some .i64) false false (.int .i64 0):=by(repeat' apply And.intro)<;>kernel_rfl
@[go_sem] theorem ty306:TY 306 1 4 (some false) none none none false (some .u32) false false (.int .u32 0):=by(repeat' apply And.intro)<;>kernel_rfl
@[go_sem] theorem ty308:TY 308 1 8 (some false) none none none false (some .u64) false false (.int .u64 0):=by(repeat' apply And.intro)<;>kernel_rfl
@[go_sem] theorem ty309:TY 309 1 8 (some false) none none none false none false false .nilf:=by(repeat' apply And.intro)<;>kernel_rfl
@[go_sem] theorem ty311:TY 311 1 24 (some false) (some 61) none none false none false false (.imm 0 [] true):=by(repeat' apply And.intro)<;>kernel_rfl
@[go_sem] theorem ty319:TY 319 1 24 (some false) (some 22) none none false none false false (.imm 0 [] true):=by(repeat' apply And.intro)<;>kernel_rfl
@[go_sem] theorem ty323:TY 323 1 8 (some false) none none none false none false false .nilf:=by(repeat' apply And.intro)<;>kernel_rfl
@[go_sem] theorem ty329:TY 329 1 8 (some false) none none none false none false false .nilf:=by(repeat' apply And.intro)<;>kernel_rfl
@[go_sem] theorem ty333:TY 333 6 56 (some true) none none none false none false false (.agg [.int .i64 0,.int .i64 0,.int .i64 0,.int .i64 0,.int .i64 0,.str .empty])/\BX Tryz.prog 333=some [(0,1),(1,1),(2,1),(3,1),(4,1),(5,1)]/\TF 333 0 0 3/\TF 333 1 1 3/\TF 333 2 2 3/\TF 333 3 3 3/\TF 333 4 4 3/\TF 333 5 5 9:=by(repeat' first|apply And.intro|unfold TF)<;>kernel_rfl
@[go_sem] theorem ty342:TY 342 1 8 (some false) none none none false (some .u64) false false (.int .u64 0):=by(repeat' apply And.intro)<;>kernel_rfl
@[go_sem] theorem ty361:TY 361 1 24 (some false) (some 366) none none false none false false (.imm 0 [] true):=by(repeat' apply And.intro)<;>kernel_rfl
@[go_sem] theorem ty366:TY 366 3 32 (some true) none none none false none false false (.agg [.str .empty,.int .i64 0,.bool false])/\BX Tryz.prog 366=some [(0,1),(1,1),(2,1)]/\TF 366 0 0 9/\TF 366 1 1 3/\TF 366 2 2 4:=by(repeat' first|apply And.intro|unfold TF)<;>kernel_rfl
@[go_sem] theorem ty367:TY 367 1 8 (some false) none none none false none false false .nilf:=by(repeat' apply And.intro)<;>kernel_rfl
@[go_sem] theorem ty368:TY 368 1 24 (some false) (some 333) none none false none false false (.imm 0 [] true):=by(repeat' apply And.intro)<;>kernel_rfl
@[go_sem] theorem ty371:TY 371 1 8 (some false) none none none false none false false .nilf:=by(repeat' apply And.intro)<;>kernel_rfl
@[go_sem] theorem ty381:TY 381 1 24 (some false) (some 5) none none false none false false (.imm 0 [] true):=by(repeat' apply And.intro)<;>kernel_rfl
@[go_sem] theorem ty382:TY 382 1 8 (some false) none none none false none false false .nilf:=by(repeat' apply And.intro)<;>kernel_rfl
@[go_sem] theorem ty383:TY 383 1 8 (some false) none none none false none false true .nilp:=by(repeat' apply And.intro)<;>kernel_rfl
@[go_sem] theorem ty384:TY 384 1 8 (some false) none none none false none false true .nilp:=by(repeat' apply And.intro)<;>kernel_rfl
@[go_sem] theorem ty386:TY 386 2 32 (some true) none none none false none false false (.agg [.nilp,.imm 0 [] true])/\BX Tryz.prog 386=some [(0,1),(1,1)]/\TF 386 0 0 384/\TF 386 1 1 381:=by(repeat' first|apply And.intro|unfold TF)<;>kernel_rfl
@[go_sem] theorem ty388:TY 388 7 96 (some true) none none none false none false false (.agg [.str .empty,.int .i64 0,.nilp,.imm 0 [] true,.imm 0 [] true,.int .i64 0,.int .i64 0])/\BX Tryz.prog 388=some [(0,1),(1,1),(2,2),(4,1),(5,1),(6,1)]/\TF 388 0 0 9/\TF 388 1 1 3/\TF 388 2 2 386/\TF 388 3 4 361/\TF 388 4 5 3/\TF 388 5 6 47:=by(repeat' first|apply And.intro|unfold TF)<;>kernel_rfl
@[go_sem] theorem ty391:TY 391 1 8 (some false) none none none false none false false .nilf:=by(repeat' apply And.intro)<;>kernel_rfl
@[go_sem] theorem ty403:TY 403 1 8 (some false) none none none false none false false .nilp:=by(repeat' apply And.intro)<;>kernel_rfl
@[go_sem] theorem ty405:TY 405 1 8 (some false) none none none false none false true .nilp:=by(repeat' apply And.intro)<;>kernel_rfl
attribute [go_sem] HM KJ NK DV Cp EA Gf Aj Dr ET callee ofValue Gv PL Bk Fv I6 Jj Nn S5 isNil Gp C5 Fj flat EF Ha OB Ky SH SG JF Nm Gk Gn RY It J9 Cs.app FD
 SV.cells SV.storable
section
variable (P : Program) (h : Hp) (n : Nat) (t t2 : TypeId)
@[go_sem] theorem bi_len (x:SV):AS P h n .len [t] [x]=match x with
 | .str s=>if Ey P t then EA (.int .i64 s.size)else none
 | .imm _ es _=>if(A6 P t).isSome then EA (.int .i64 es.length)else none
 | .sl _ _ _ len _=>if(A6 P t).isSome then EA (.int .i64 len)else none
 | .map o=>match h o with|some (.map es)=>if(KV P t).isSome then EA (.int .i64 es.length)else none|_=>none
 | _=>none:=by cases x<;>rfl
@[go_sem] theorem bi_cap (x:SV):AS P h n .cap [t] [x]=match x with
 | .imm _ es true=>if(A6 P t).isSome then EA (.int .i64 es.length)else none
 | .sl _ _ _ len true=>if(A6 P t).isSome then EA (.int .i64 len)else none
 | _=>none:=by cases x<;>rfl
@[go_sem] theorem bi_copy (d x:SV):AS P h n .copy [t,t2] [d,x]=OB P h t d x:=rfl
@[go_sem] theorem bi_clear (d:SV):AS P h n .clear [t] [d]=Ky P h t d:=rfl
@[go_sem] theorem bi_min (ts:List TypeId) (l:List SV):AS P h n .min ts l=(SH l).bind EA:=by simp[AS]
@[go_sem] theorem bi_max (ts:List TypeId) (l:List SV):AS P h n .max ts l=(SG l).bind EA:=by simp[AS]
@[go_sem] theorem bi_delete (o:Nat) (k:SV):AS P h n .delete [t,t2] [.map o,k]=match KV P t,h o with
 | some (kt,_),some (.map es)=>
  if !CJ P kt k then none else
  match C5 k es 0 with
  | some (some (i,_))=>some { val:=.tup [],upd:=some (o,some (.map (es.eraseIdx i))) }
  | some none=>some { val:=.tup [],upd:=some (o,some (.map es)) }
  | none=>none
 | _,_=>none:=rfl
end
theorem follows:Proofs.Tryz.prog.follows .mixedOrders=true:=by kernel_rfl
section
variable {E : Br} {P : Program} {N : Nat}
end
attribute [simp] Y0
theorem Fz.any {h h2:Hp}:∀(k:Nat) {v r:SV},Fz (λ_=>none) (λ_=>none) k v r->Fz h h2 k v r
 | 0,_,_,H=>H
 | k+1,v,r,H=>by
  have ih:∀{us bs:List SV},AZ (Fz (λ_=>none) (λ_=>none) k) us bs->AZ (Fz h h2 k) us bs:=λH=>H.mono λ_ _=>Fz.any k
  rcases H with H|H
  . exact .inl H
  . refine .inr ?_
    split at H
    . trivial
    . obtain⟨_,_,_,_,_,_,h1,_⟩:=H;cases h1
    . obtain⟨_,_,h1,_⟩:=H;cases h1
    . exact ih H
    . exact ih H
    . exact⟨H.1,ih H.2.1,ih H.2.2⟩
    . exact ih H
    . exact⟨H.1,H.2.1,ih H.2.2.1,H.2.2.2⟩
    . exact H
    . exact H.elim
section
variable {E : Br} {P : Program} {N : Nat}
theorem FR.fz {sa sb:SA} {h h2:Hp} {c:Cx} {a:Act} (k:Nat) (R:Bl h c) (hs:∀o x,h2 o=some x->h o=some x) (A:FR E N sa c a) (hw:∀p∈sb,Fz h h2 k (Aj sa p.1) p.2):FR E N sb (c.less h2) a:=by
 refine⟨A.size,A.defers.mono (DL R hs),λt=>?_⟩
 have key:∀l:SA,(∀p∈l,Fz h h2 k (Aj sa p.1) p.2)->Aj l t=.junk\/Fz h h2 k (Aj sa t) (Aj l t):=by
  intro l
  induction l with
  | nil=>intro _;exact .inl rfl
  | cons p l ih=>
   intro hl
   obtain⟨j,x⟩:=p
   simp only[Aj]
   by_cases e:j=t
   . subst e;simp only[if_true];exact .inr (hl (j,x) (by simp))
   . simp only[e,if_false];exact ih λq hq=>hl q (by simp[hq])
 rcases key sb hw with e|e
 . rw[e];simp[V]
 . exact Fz.sound R hs k e (A.val t)
theorem NF {code:Code} {Q:Cc} {sa sb:SA} {h h2:Hp} {n m:Nat} (k:Nat) (hs:∀o x,h2 o=some x->h o=some x) (hm:n<=m) (hw:∀p∈sb,Fz h h2 k (Aj sa p.1) p.2) (H:Fk E P N code Q sb h2 m):Fk E P N code Q sa h n:=by
 intro hd c a I R F A
 have F':Fr m (c.less h2):=λj hj=>F j (Yo hm hj)
 refine wpIn_mono (H hd (c.less h2) a (E.ext (DL R hs) I) (R.less hs) F' (A.fz k R hs hw)) ?_
 rintro e a' w' ⟨sa',h',n',c',q,hw,R',Fr',A',X⟩
 refine⟨sa',h',n',c',q,hw,R',Fr',A',⟨(DL R hs).trans X.ext,Yo hm X.le,λj hj=>?_⟩⟩
 exact X.same j (ZN hj hm)
theorem Ak.fz {f:FuncId} {us bs:List SV} {h h2:Hp} {n:Nat} {K:SV->Hp->Nat->Prop} (k:Nat) (hs:∀o x,h2 o=some x->h o=some x) (hw:AZ (Fz h h2 k) us bs) (H:Ak E P f bs h2 n K):Ak E P f us h n K:=by
 refine⟨H.1,λc vs I R F A=>?_⟩
 have A':AZ (V (c.less h2)) bs vs:=AZ.trans3 (R:=V c) (S:=Fz h h2 k) (T:=V (c.less h2)) (λa b g h1 h2=>Fz.sound R hs k h2 h1) A hw
 refine(H.2 (c.less h2) vs (E.ext (DL R hs) I) (R.less hs) F A').mono ?_
 rintro e w' ⟨u,v,h',n',c',he,q,hw,hv,R',F',X⟩
 exact⟨u,v,h',n',c',he,q,hw,hv,R',F',⟨(DL R hs).trans X.ext,X.le,X.same⟩⟩
theorem Fg.wk {f:FuncId} {us bs:List SV} {v:SV} (k:Nat) (H:Fg P f bs v) (hw:AZ (Fz (λ_=>none) (λ_=>none) k) us bs):Fg P f us v:=λh n=>
 Ak.fz k (λ_ _ e=>e) (hw.mono λ_ _=>Fz.any k) (H h n)
mutual
def D7:SV->Bool
 | .bool _|.int _ _|.str _|.nilp|.nilf|.nilm|.junk=>true
 | .agg cs=>LR cs
 | .tup cs=>LR cs
 | _=>false
def LR:List SV->Bool
 | []=>true
 | s::ss=>D7 s&&LR ss
end
mutual
theorem V.plain {c c':Cx}:∀{s:SV} {v:Value},D7 s=true->V c s v->V c' s v
 | .bool _,_,_,h=>h
 | .int _ _,_,_,h=>h
 | .str _,_,_,h=>h
 | .nilp,_,_,h=>h
 | .nilf,_,_,h=>h
 | .nilm,_,_,h=>h
 | .junk,_,_,_=>trivial
 | .agg cs,v,hp,h=>by rw[V]at *;rw[D7]at hp;obtain⟨vs,e,hl,ho⟩:=h;exact⟨vs,e,VL.plain hp hl,ho⟩
 | .tup cs,v,hp,h=>by rw[V]at *;rw[D7]at hp;obtain⟨vs,e,hl⟩:=h;exact⟨vs,e,VL.plain hp hl⟩
 | .fn _ _ _,_,hp,_=>by simp[D7]at hp
 | .ptr _ _,_,hp,_=>by simp[D7]at hp
 | .iptr _,_,hp,_=>by simp[D7]at hp
 | .sl _ _ _ _ _,_,hp,_=>by simp[D7]at hp
 | .slc _ _ _ _ _,_,hp,_=>by simp[D7]at hp
 | .imm _ _ _,_,hp,_=>by simp[D7]at hp
 | .map _,_,hp,_=>by simp[D7]at hp
theorem VL.plain {c c':Cx}:∀{s:List SV} {v:List Value},LR s=true->VL c s v->VL c' s v
 | [],_,_,h=>by rw[VL]at *;exact h
 | s::ss,v,hp,h=>by rw[VL]at *;rw[LR,Yb]at hp;obtain⟨u,r,e,h1,h2⟩:=h;exact⟨u,r,e,V.plain hp.1 h1,VL.plain hp.2 h2⟩
end
theorem Fg.lend {f:FuncId} {us bs:List SV} {v:SV} {h:Hp} {n:Nat} {K:SV->Hp->Nat->Prop} (k:Nat) (H:Fg P f bs v) (hv:D7 v=true) (hw:AZ (Fz h (λ_=>none) k) us bs) (hk:K v h n):Ak E P f us h n K:=by
 refine⟨(H h n).1,λc vs _ R F A=>?_⟩
 have hs:∀o x,(λ_=>none:Hp) o=some x->h o=some x:=λ_ _ e=>by cases e
 have A':AZ (V (c.less λ_=>none)) bs vs:=AZ.trans3 (R:=V c) (S:=Fz h (λ_=>none) k) (T:=V (c.less λ_=>none)) (λa b g h1 h2=>Fz.sound R hs k h2 h1) A hw
 refine((H (λ_=>none) n).2 (c.less λ_=>none) vs trivial (R.less hs) F A').mono ?_
 rintro e w' ⟨u,v',h',n',c',he,⟨rfl,rfl,rfl⟩,rfl,hv',R',F',X0⟩
 have hno:∀b,¬(c.less λ_=>none).own b:=λb ⟨o,x,e,_⟩=>by cases e
 have hρ:∀j,c'.ρ j=c.ρ j:=λj=>by
  rcases YX j n' with hj|hj
  . exact X0.same j hj
  . rw[F' j hj,F j hj]
 have X:DD c { c with w:=c'.w }:=⟨λ_ _ e=>e,X0.ext.size,λb hb ho=>⟨ho,(X0.ext.keep b hb (hno b)).2⟩,X0.ext.room,X0.ext.os,X0.ext.out⟩
 refine⟨u,v',h,n',{ c with w:=c'.w },he,hk,rfl,hv'.plain hv,⟨λo x ho=>?_,R.inj2,R.own2⟩,F,⟨X,Y1 _,λ_ _=>rfl⟩⟩
 refine(R.obj o x ho).mono X λb hb=>?_
 exact(X0.ext.keep b ((R.obj o x ho).hold_lt hb) (hno b)).2
theorem Fg.lendU {f:FuncId} {us bs:List SV} {v:SV} {h:Hp} (k:Nat) (foot:List Nat) (H:Fg P f bs v) (hv:D7 v=true) (hw:∀h',(∀j∈foot,h' j=h j)->AZ (Fz h' (λ_=>none) k) us bs):Km E P f us foot [] v h:=λh' _n hf=>
 Fg.lend k H hv (hw h' hf) ⟨rfl,rfl,rfl⟩
theorem RB (hm:P.follows .mixedOrders=true) {x:Code} {Q:Cc} {sa:SA} {h:Hp} {n:Nat} {α:Type} (k:Nat) (fr:α->SA) (hp:α->Hp) (I:α->Nat->Prop) (μ:α->Nat) (a0:α) (hI:I a0 n)
 (hfr:∀p∈fr a0,Fz h (hp a0) k (Aj sa p.1) p.2) (hhp:∀o y,hp a0 o=some y->h o=some y)
 (round:∀a n,I a n->FX E P N x (DO (λsa' h' n'=>∃a',μ a'<μ a/\I a' n'/\(∀p∈fr a',Fz h' (hp a') k (Aj sa' p.1) p.2)/\(∀o y,hp a' o=some y->h' o=some y)) Q) (fr a) (hp a) n):
 Fk E P N (.loop x) Q sa h n:=by
 refine N0 (μ a0) (λm sa h n=>∃a,m=μ a/\I a n/\(∀p∈fr a,Fz h (hp a) k (Aj sa p.1) p.2)/\(∀o y,hp a o=some y->h o=some y)) ⟨a0,rfl,hI,hfr,hhp⟩ ?_
 rintro m sa h n ⟨a,rfl,hI,hfr,hhp⟩
 refine NF k hhp (Y1 _) hfr (GC (Ef hm _ _ _ _ _ (round a n hI)) ?_)
 refine FO λsa' h' n' ⟨a',h1,h2,h3,h4⟩=>⟨μ a',h1,a',rfl,h2,h3,h4⟩
end
open Proofs
abbrev FN (f:Func) (n:Nat) (r:List ResultVar):Prop:=f.results.toList=r/\f.ntmps=n
@[go_sem] theorem fr5:FN Tryz.f5 54 [.tmp 4]:=⟨rfl,rfl⟩
@[go_sem] theorem fr11:FN Tryz.f11 60 [.tmp 0]:=⟨rfl,rfl⟩
@[go_sem] theorem fr12:FN Tryz.f12 45 [.tmp 2]:=⟨rfl,rfl⟩
@[go_sem] theorem fr13:FN Tryz.f13 60 [.cell 6 3,.cell 7 3,.tmp 8]:=⟨rfl,rfl⟩
@[go_sem] theorem fr14:FN Tryz.f14 60 [.cell 6 3,.cell 7 3,.tmp 8]:=⟨rfl,rfl⟩
@[go_sem] theorem fr15:FN Tryz.f15 105 [.cell 8 38,.tmp 9]:=⟨rfl,rfl⟩
@[go_sem] theorem fr16:FN Tryz.f16 93 [.cell 8 38,.tmp 9]:=⟨rfl,rfl⟩
@[go_sem] theorem fr17:FN Tryz.f17 60 [.tmp 4]:=⟨rfl,rfl⟩
@[go_sem] theorem fr20:FN Tryz.f20 38 [.cell 4 42,.tmp 5]:=⟨rfl,rfl⟩
@[go_sem] theorem fr21:FN Tryz.f21 18 [.cell 2 38]:=⟨rfl,rfl⟩
@[go_sem] theorem fr24:FN Tryz.f24 62 [.tmp 2]:=⟨rfl,rfl⟩
@[go_sem] theorem fr32:FN Tryz.f32 9 [.cell 0 38]:=⟨rfl,rfl⟩
@[go_sem] theorem fr33:FN Tryz.f33 133 [.tmp 6]:=⟨rfl,rfl⟩
@[go_sem] theorem fr34:FN Tryz.f34 18 [.cell 4 22,.cell 5 4]:=⟨rfl,rfl⟩
@[go_sem] theorem fr35:FN Tryz.f35 27 [.tmp 2,.tmp 3]:=⟨rfl,rfl⟩
@[go_sem] theorem fr36:FN Tryz.f36 12 []:=⟨rfl,rfl⟩
@[go_sem] theorem fr37:FN Tryz.f37 22 []:=⟨rfl,rfl⟩
@[go_sem] theorem fr38:FN Tryz.f38 9 [.tmp 4]:=⟨rfl,rfl⟩
@[go_sem] theorem fr39:FN Tryz.f39 27 [.cell 8 38]:=⟨rfl,rfl⟩
@[go_sem] theorem fr40:FN Tryz.f40 27 [.cell 9 29,.tmp 10]:=⟨rfl,rfl⟩
@[go_sem] theorem fr41:FN Tryz.f41 52 [.tmp 4]:=⟨rfl,rfl⟩
@[go_sem] theorem fr42:FN Tryz.f42 35 [.tmp 2]:=⟨rfl,rfl⟩
@[go_sem] theorem fr43:FN Tryz.f43 36 []:=⟨rfl,rfl⟩
@[go_sem] theorem fr44:FN Tryz.f44 41 [.tmp 2]:=⟨rfl,rfl⟩
@[go_sem] theorem fr45:FN Tryz.f45 39 [.tmp 4,.tmp 5]:=⟨rfl,rfl⟩
@[go_sem] theorem fr46:FN Tryz.f46 17 [.cell 4 29,.tmp 5]:=⟨rfl,rfl⟩
@[go_sem] theorem fr47:FN Tryz.f47 90 [.cell 6 29]:=⟨rfl,rfl⟩
@[go_sem] theorem fr48:FN Tryz.f48 7 [.tmp 3]:=⟨rfl,rfl⟩
@[go_sem] theorem fr49:FN Tryz.f49 28 [.cell 8 38]:=⟨rfl,rfl⟩
@[go_sem] theorem fr50:FN Tryz.f50 23 [.cell 9 29,.tmp 10]:=⟨rfl,rfl⟩
@[go_sem] theorem fr51:FN Tryz.f51 54 [.tmp 4]:=⟨rfl,rfl⟩
@[go_sem] theorem fr52:FN Tryz.f52 18 [.tmp 4]:=⟨rfl,rfl⟩
@[go_sem] theorem fr53:FN Tryz.f53 17 [.cell 8 29,.tmp 9]:=⟨rfl,rfl⟩
@[go_sem] theorem fr54:FN Tryz.f54 75 [.cell 6 29]:=⟨rfl,rfl⟩
@[go_sem] theorem fr55:FN Tryz.f55 17 [.tmp 4]:=⟨rfl,rfl⟩
@[go_sem] theorem fr56:FN Tryz.f56 26 [.tmp 4]:=⟨rfl,rfl⟩
@[go_sem] theorem fr57:FN Tryz.f57 8 [.tmp 4]:=⟨rfl,rfl⟩
@[go_sem] theorem fr58:FN Tryz.f58 46 [.tmp 4]:=⟨rfl,rfl⟩
@[go_sem] theorem fr59:FN Tryz.f59 26 [.tmp 4]:=⟨rfl,rfl⟩
@[go_sem] theorem fr60:FN Tryz.f60 8 [.tmp 4]:=⟨rfl,rfl⟩
@[go_sem] theorem fr61:FN Tryz.f61 32 [.tmp 6]:=⟨rfl,rfl⟩
@[go_sem] theorem fr62:FN Tryz.f62 26 [.tmp 4]:=⟨rfl,rfl⟩
@[go_sem] theorem fr63:FN Tryz.f63 26 [.tmp 4]:=⟨rfl,rfl⟩
@[go_sem] theorem fr71:FN Tryz.f71 37 [.tmp 2]:=⟨rfl,rfl⟩
@[go_sem] theorem fr72:FN Tryz.f72 11 [.tmp 4,.tmp 5]:=⟨rfl,rfl⟩
@[go_sem] theorem fr73:FN Tryz.f73 93 [.tmp 2]:=⟨rfl,rfl⟩
@[go_sem] theorem fr74:FN Tryz.f74 19 [.tmp 2]:=⟨rfl,rfl⟩
@[go_sem] theorem fr75:FN Tryz.f75 42 [.tmp 4]:=⟨rfl,rfl⟩
@[go_sem] theorem fr76:FN Tryz.f76 8 [.tmp 2]:=⟨rfl,rfl⟩
@[go_sem] theorem fr77:FN Tryz.f77 15 [.tmp 3]:=⟨rfl,rfl⟩
@[go_sem] theorem fr78:FN Tryz.f78 54 [.tmp 4,.tmp 5]:=⟨rfl,rfl⟩
@[go_sem] theorem fr79:FN Tryz.f79 16 [.cell 2 38]:=⟨rfl,rfl⟩
@[go_sem] theorem fr82:FN Tryz.f82 15 [.tmp 2]:=⟨rfl,rfl⟩
@[go_sem] theorem fr83:FN Tryz.f83 17 [.tmp 2]:=⟨rfl,rfl⟩
@[go_sem] theorem fr84:FN Tryz.f84 14 [.tmp 2]:=⟨rfl,rfl⟩
@[go_sem] theorem fr85:FN Tryz.f85 64 [.tmp 2]:=⟨rfl,rfl⟩
@[go_sem] theorem fr86:FN Tryz.f86 121 [.tmp 6]:=⟨rfl,rfl⟩
@[go_sem] theorem fr87:FN Tryz.f87 7 [.tmp 4]:=⟨rfl,rfl⟩
@[go_sem] theorem fr88:FN Tryz.f88 11 [.tmp 6]:=⟨rfl,rfl⟩
@[go_sem] theorem fr100:FN Tryz.f100 20 [.tmp 4]:=⟨rfl,rfl⟩
@[go_sem] theorem fr109:FN Tryz.f109 7 [.tmp 2]:=⟨rfl,rfl⟩
@[go_sem] theorem fr110:FN Tryz.f110 5 [.tmp 2]:=⟨rfl,rfl⟩
@[go_sem] theorem fr111:FN Tryz.f111 12 [.tmp 2,.tmp 3]:=⟨rfl,rfl⟩
@[go_sem] theorem fr112:FN Tryz.f112 10 [.cell 3 29,.tmp 4]:=⟨rfl,rfl⟩
@[go_sem] theorem fr113:FN Tryz.f113 9 [.tmp 4]:=⟨rfl,rfl⟩
@[go_sem] theorem fr114:FN Tryz.f114 49 [.tmp 2]:=⟨rfl,rfl⟩
@[go_sem] theorem fr115:FN Tryz.f115 168 [.tmp 10]:=⟨rfl,rfl⟩
@[go_sem] theorem fr116:FN Tryz.f116 6 [.tmp 2]:=⟨rfl,rfl⟩
@[go_sem] theorem fr117:FN Tryz.f117 95 [.tmp 6]:=⟨rfl,rfl⟩
@[go_sem] theorem fr118:FN Tryz.f118 20 [.cell 2 29]:=⟨rfl,rfl⟩
@[go_sem] theorem fr119:FN Tryz.f119 9 []:=⟨rfl,rfl⟩
@[go_sem] theorem fr120:FN Tryz.f120 10 [.tmp 4]:=⟨rfl,rfl⟩
@[go_sem] theorem fr121:FN Tryz.f121 91 [.tmp 10]:=⟨rfl,rfl⟩
@[go_sem] theorem fr122:FN Tryz.f122 63 [.tmp 2]:=⟨rfl,rfl⟩
@[go_sem] theorem fr123:FN Tryz.f123 32 [.tmp 6]:=⟨rfl,rfl⟩
@[go_sem] theorem fr124:FN Tryz.f124 52 [.tmp 4]:=⟨rfl,rfl⟩
@[go_sem] theorem fr125:FN Tryz.f125 26 [.tmp 4]:=⟨rfl,rfl⟩
@[go_sem] theorem fr126:FN Tryz.f126 26 [.tmp 4]:=⟨rfl,rfl⟩
@[go_sem] theorem fr127:FN Tryz.f127 26 [.tmp 4]:=⟨rfl,rfl⟩
@[go_sem] theorem fr128:FN Tryz.f128 32 [.tmp 6]:=⟨rfl,rfl⟩
@[go_sem] theorem fr129:FN Tryz.f129 45 [.tmp 4]:=⟨rfl,rfl⟩
@[go_sem] theorem fr130:FN Tryz.f130 8 [.tmp 4]:=⟨rfl,rfl⟩
@[go_sem] theorem fr131:FN Tryz.f131 49 [.tmp 6,.tmp 7]:=⟨rfl,rfl⟩
@[go_sem] theorem fr132:FN Tryz.f132 9 [.tmp 4]:=⟨rfl,rfl⟩
@[go_sem] theorem fr133:FN Tryz.f133 42 [.tmp 4]:=⟨rfl,rfl⟩
@[go_sem] theorem fr134:FN Tryz.f134 22 [.tmp 4]:=⟨rfl,rfl⟩
@[go_sem] theorem fr135:FN Tryz.f135 10 [.cell 2 169]:=⟨rfl,rfl⟩
@[go_sem] theorem fr136:FN Tryz.f136 7 [.tmp 2]:=⟨rfl,rfl⟩
@[go_sem] theorem fr137:FN Tryz.f137 35 []:=⟨rfl,rfl⟩
@[go_sem] theorem fr138:FN Tryz.f138 59 []:=⟨rfl,rfl⟩
@[go_sem] theorem fr139:FN Tryz.f139 9 [.tmp 2]:=⟨rfl,rfl⟩
@[go_sem] theorem fr140:FN Tryz.f140 4 [.tmp 2]:=⟨rfl,rfl⟩
@[go_sem] theorem fr141:FN Tryz.f141 19 [.tmp 4]:=⟨rfl,rfl⟩
@[go_sem] theorem fr142:FN Tryz.f142 17 [.tmp 4]:=⟨rfl,rfl⟩
@[go_sem] theorem fr143:FN Tryz.f143 6 [.tmp 2]:=⟨rfl,rfl⟩
@[go_sem] theorem fr144:FN Tryz.f144 58 [.cell 2 36]:=⟨rfl,rfl⟩
@[go_sem] theorem fr146:FN Tryz.f146 79 [.cell 2 47]:=⟨rfl,rfl⟩
@[go_sem] theorem fr147:FN Tryz.f147 14 [.tmp 2]:=⟨rfl,rfl⟩
@[go_sem] theorem fr148:FN Tryz.f148 14 [.tmp 2]:=⟨rfl,rfl⟩
@[go_sem] theorem fr149:FN Tryz.f149 14 [.tmp 2]:=⟨rfl,rfl⟩
@[go_sem] theorem fr150:FN Tryz.f150 18 [.tmp 4]:=⟨rfl,rfl⟩
@[go_sem] theorem fr151:FN Tryz.f151 25 [.tmp 3]:=⟨rfl,rfl⟩
@[go_sem] theorem fr152:FN Tryz.f152 37 [.tmp 4]:=⟨rfl,rfl⟩
@[go_sem] theorem fr153:FN Tryz.f153 9 [.tmp 3]:=⟨rfl,rfl⟩
@[go_sem] theorem fr154:FN Tryz.f154 15 [.tmp 2]:=⟨rfl,rfl⟩
@[go_sem] theorem fr155:FN Tryz.f155 15 [.tmp 6]:=⟨rfl,rfl⟩
@[go_sem] theorem fr156:FN Tryz.f156 64 [.tmp 4]:=⟨rfl,rfl⟩
@[go_sem] theorem fr157:FN Tryz.f157 41 [.tmp 6]:=⟨rfl,rfl⟩
@[go_sem] theorem fr158:FN Tryz.f158 12 [.tmp 5]:=⟨rfl,rfl⟩
@[go_sem] theorem fr159:FN Tryz.f159 64 [.tmp 8]:=⟨rfl,rfl⟩
@[go_sem] theorem fr160:FN Tryz.f160 13 [.tmp 5]:=⟨rfl,rfl⟩
@[go_sem] theorem fr161:FN Tryz.f161 117 [.tmp 6]:=⟨rfl,rfl⟩
@[go_sem] theorem fr169:FN Tryz.f169 8 [.tmp 2]:=⟨rfl,rfl⟩
@[go_sem] theorem fr170:FN Tryz.f170 6 [.tmp 2]:=⟨rfl,rfl⟩
@[go_sem] theorem fr173:FN Tryz.f173 8 [.tmp 6]:=⟨rfl,rfl⟩
@[go_sem] theorem fr174:FN Tryz.f174 22 [.tmp 4]:=⟨rfl,rfl⟩
@[go_sem] theorem fr175:FN Tryz.f175 16 [.cell 2 70]:=⟨rfl,rfl⟩
@[go_sem] theorem fr176:FN Tryz.f176 10 [.cell 2 169]:=⟨rfl,rfl⟩
@[go_sem] theorem fr177:FN Tryz.f177 22 [.tmp 2,.tmp 3]:=⟨rfl,rfl⟩
@[go_sem] theorem fr178:FN Tryz.f178 19 [.tmp 4]:=⟨rfl,rfl⟩
@[go_sem] theorem fr179:FN Tryz.f179 37 [.tmp 2]:=⟨rfl,rfl⟩
@[go_sem] theorem fr180:FN Tryz.f180 34 [.tmp 6,.tmp 7]:=⟨rfl,rfl⟩
@[go_sem] theorem fr181:FN Tryz.f181 73 [.cell 8 169,.tmp 9]:=⟨rfl,rfl⟩
@[go_sem] theorem fr182:FN Tryz.f182 24 [.tmp 2]:=⟨rfl,rfl⟩
@[go_sem] theorem fr185:FN Tryz.f185 8 [.tmp 2]:=⟨rfl,rfl⟩
@[go_sem] theorem fr186:FN Tryz.f186 8 [.tmp 2]:=⟨rfl,rfl⟩
@[go_sem] theorem fr187:FN Tryz.f187 8 [.tmp 2]:=⟨rfl,rfl⟩
@[go_sem] theorem fr188:FN Tryz.f188 63 []:=⟨rfl,rfl⟩
@[go_sem] theorem fr189:FN Tryz.f189 36 [.tmp 2]:=⟨rfl,rfl⟩
@[go_sem] theorem fr190:FN Tryz.f190 74 [.tmp 8]:=⟨rfl,rfl⟩
@[go_sem] theorem fr191:FN Tryz.f191 32 [.tmp 6]:=⟨rfl,rfl⟩
@[go_sem] theorem fr192:FN Tryz.f192 17 [.tmp 4]:=⟨rfl,rfl⟩
@[go_sem] theorem fr193:FN Tryz.f193 19 [.tmp 4]:=⟨rfl,rfl⟩
@[go_sem] theorem fr194:FN Tryz.f194 22 [.tmp 4]:=⟨rfl,rfl⟩
@[go_sem] theorem fr195:FN Tryz.f195 12 [.cell 2 171]:=⟨rfl,rfl⟩
@[go_sem] theorem fr196:FN Tryz.f196 5 [.tmp 2]:=⟨rfl,rfl⟩
@[go_sem] theorem fr197:FN Tryz.f197 11 []:=⟨rfl,rfl⟩
@[go_sem] theorem fr198:FN Tryz.f198 14 []:=⟨rfl,rfl⟩
@[go_sem] theorem fr199:FN Tryz.f199 8 [.tmp 2]:=⟨rfl,rfl⟩
@[go_sem] theorem fr200:FN Tryz.f200 8 [.tmp 2]:=⟨rfl,rfl⟩
@[go_sem] theorem fr201:FN Tryz.f201 8 [.tmp 2]:=⟨rfl,rfl⟩
@[go_sem] theorem fr202:FN Tryz.f202 8 [.tmp 2]:=⟨rfl,rfl⟩
@[go_sem] theorem fr203:FN Tryz.f203 8 [.tmp 2]:=⟨rfl,rfl⟩
@[go_sem] theorem fr207:FN Tryz.f207 99 [.tmp 4]:=⟨rfl,rfl⟩
@[go_sem] theorem fr208:FN Tryz.f208 25 [.tmp 6]:=⟨rfl,rfl⟩
@[go_sem] theorem fr209:FN Tryz.f209 6 [.tmp 4]:=⟨rfl,rfl⟩
@[go_sem] theorem fr210:FN Tryz.f210 15 [.tmp 3]:=⟨rfl,rfl⟩
@[go_sem] theorem fr211:FN Tryz.f211 9 [.tmp 3]:=⟨rfl,rfl⟩
@[go_sem] theorem fr212:FN Tryz.f212 57 [.tmp 2]:=⟨rfl,rfl⟩
@[go_sem] theorem fr213:FN Tryz.f213 41 [.tmp 3]:=⟨rfl,rfl⟩
@[go_sem] theorem fr214:FN Tryz.f214 9 [.tmp 4]:=⟨rfl,rfl⟩
@[go_sem] theorem fr215:FN Tryz.f215 9 [.tmp 3]:=⟨rfl,rfl⟩
@[go_sem] theorem fr216:FN Tryz.f216 9 [.tmp 3]:=⟨rfl,rfl⟩
@[go_sem] theorem fr217:FN Tryz.f217 13 [.tmp 2]:=⟨rfl,rfl⟩
@[go_sem] theorem fr218:FN Tryz.f218 56 [.tmp 3]:=⟨rfl,rfl⟩
@[go_sem] theorem fr219:FN Tryz.f219 63 [.tmp 2]:=⟨rfl,rfl⟩
@[go_sem] theorem fr220:FN Tryz.f220 20 [.tmp 4]:=⟨rfl,rfl⟩
@[go_sem] theorem fr221:FN Tryz.f221 26 [.tmp 4]:=⟨rfl,rfl⟩
@[go_sem] theorem fr222:FN Tryz.f222 164 [.tmp 2]:=⟨rfl,rfl⟩
@[go_sem] theorem fr223:FN Tryz.f223 29 [.tmp 4]:=⟨rfl,rfl⟩
@[go_sem] theorem fr224:FN Tryz.f224 77 [.tmp 6]:=⟨rfl,rfl⟩
@[go_sem] theorem fr245:FN Tryz.f245 19 [.tmp 2]:=⟨rfl,rfl⟩
@[go_sem] theorem fr246:FN Tryz.f246 25 [.tmp 2]:=⟨rfl,rfl⟩
@[go_sem] theorem fr247:FN Tryz.f247 10 []:=⟨rfl,rfl⟩
@[go_sem] theorem fr248:FN Tryz.f248 74 [.tmp 8]:=⟨rfl,rfl⟩
@[go_sem] theorem fr249:FN Tryz.f249 12 [.cell 2 171]:=⟨rfl,rfl⟩
@[go_sem] theorem fr250:FN Tryz.f250 31 [.tmp 6]:=⟨rfl,rfl⟩
@[go_sem] theorem fr251:FN Tryz.f251 74 [.cell 4 22,.cell 5 22]:=⟨rfl,rfl⟩
@[go_sem] theorem fr252:FN Tryz.f252 74 [.tmp 4,.tmp 5,.tmp 6]:=⟨rfl,rfl⟩
@[go_sem] theorem fr254:FN Tryz.f254 53 []:=⟨rfl,rfl⟩
@[go_sem] theorem fr256:FN Tryz.f256 27 [.tmp 4]:=⟨rfl,rfl⟩
@[go_sem] theorem fr257:FN Tryz.f257 77 [.tmp 8]:=⟨rfl,rfl⟩
@[go_sem] theorem fr258:FN Tryz.f258 32 [.tmp 6]:=⟨rfl,rfl⟩
@[go_sem] theorem fr259:FN Tryz.f259 24 [.tmp 4]:=⟨rfl,rfl⟩
@[go_sem] theorem fr260:FN Tryz.f260 13 [.tmp 4]:=⟨rfl,rfl⟩
@[go_sem] theorem fr261:FN Tryz.f261 134 []:=⟨rfl,rfl⟩
@[go_sem] theorem fr266:FN Tryz.f266 41 [.tmp 2]:=⟨rfl,rfl⟩
@[go_sem] theorem fr267:FN Tryz.f267 16 [.tmp 6,.tmp 7]:=⟨rfl,rfl⟩
@[go_sem] theorem fr268:FN Tryz.f268 5 [.tmp 2]:=⟨rfl,rfl⟩
@[go_sem] theorem fr269:FN Tryz.f269 14 [.tmp 4,.tmp 5]:=⟨rfl,rfl⟩
@[go_sem] theorem fr270:FN Tryz.f270 46 []:=⟨rfl,rfl⟩
@[go_sem] theorem fr271:FN Tryz.f271 26 [.tmp 4]:=⟨rfl,rfl⟩
@[go_sem] theorem fr272:FN Tryz.f272 19 [.tmp 4]:=⟨rfl,rfl⟩
@[go_sem] theorem fr273:FN Tryz.f273 21 [.cell 2 333,.tmp 3]:=⟨rfl,rfl⟩
@[go_sem] theorem fr274:FN Tryz.f274 25 [.tmp 2]:=⟨rfl,rfl⟩
@[go_sem] theorem fr281:FN Tryz.f281 7 [.tmp 2]:=⟨rfl,rfl⟩
@[go_sem] theorem fr282:FN Tryz.f282 33 [.tmp 2]:=⟨rfl,rfl⟩
@[go_sem] theorem fr285:FN Tryz.f285 4 [.tmp 2]:=⟨rfl,rfl⟩
@[go_sem] theorem fr286:FN Tryz.f286 24 [.tmp 4,.tmp 5]:=⟨rfl,rfl⟩
@[go_sem] theorem fr287:FN Tryz.f287 33 [.tmp 2,.tmp 3,.tmp 4]:=⟨rfl,rfl⟩
@[go_sem] theorem fr290:FN Tryz.f290 49 []:=⟨rfl,rfl⟩
@[go_sem] theorem fr291:FN Tryz.f291 56 []:=⟨rfl,rfl⟩
@[go_sem] theorem fr292:FN Tryz.f292 65 []:=⟨rfl,rfl⟩
@[go_sem] theorem fr293:FN Tryz.f293 57 [.tmp 6,.tmp 7]:=⟨rfl,rfl⟩
@[go_sem] theorem fr294:FN Tryz.f294 32 []:=⟨rfl,rfl⟩
@[go_sem] theorem fr295:FN Tryz.f295 133 [.tmp 6]:=⟨rfl,rfl⟩
@[go_sem] theorem fr296:FN Tryz.f296 84 [.tmp 8]:=⟨rfl,rfl⟩
@[go_sem] theorem fr297:FN Tryz.f297 168 [.tmp 8,.tmp 9]:=⟨rfl,rfl⟩
@[go_sem] theorem fr299:FN Tryz.f299 19 [.tmp 4]:=⟨rfl,rfl⟩
@[go_sem] theorem fr300:FN Tryz.f300 15 [.tmp 4]:=⟨rfl,rfl⟩
@[go_sem] theorem fr301:FN Tryz.f301 8 [.tmp 3]:=⟨rfl,rfl⟩
@[go_sem] theorem fr302:FN Tryz.f302 35 [.tmp 2,.tmp 3]:=⟨rfl,rfl⟩
@[go_sem] theorem fr303:FN Tryz.f303 9 [.tmp 4]:=⟨rfl,rfl⟩
@[go_sem] theorem fr304:FN Tryz.f304 8 [.tmp 3]:=⟨rfl,rfl⟩
@[go_sem] theorem fr305:FN Tryz.f305 47 [.tmp 0]:=⟨rfl,rfl⟩
@[go_sem] theorem fr306:FN Tryz.f306 49 [.tmp 6,.tmp 7]:=⟨rfl,rfl⟩
@[go_sem] theorem fr307:FN Tryz.f307 9 [.tmp 4]:=⟨rfl,rfl⟩
@[go_sem] theorem fr312:FN Tryz.f312 28 []:=⟨rfl,rfl⟩
@[go_sem] theorem fr313:FN Tryz.f313 25 [.tmp 2]:=⟨rfl,rfl⟩
@[go_sem] theorem fr315:FN Tryz.f315 76 []:=⟨rfl,rfl⟩
@[go_sem] theorem fr316:FN Tryz.f316 15 [.tmp 6]:=⟨rfl,rfl⟩
@[go_sem] theorem fr317:FN Tryz.f317 36 [.tmp 10]:=⟨rfl,rfl⟩
@[go_sem] theorem fr318:FN Tryz.f318 9 [.tmp 4]:=⟨rfl,rfl⟩
@[go_sem] theorem fr319:FN Tryz.f319 9 [.tmp 2]:=⟨rfl,rfl⟩
@[go_sem] theorem fr320:FN Tryz.f320 68 []:=⟨rfl,rfl⟩
@[go_sem] theorem fr321:FN Tryz.f321 19 [.tmp 4]:=⟨rfl,rfl⟩
@[go_sem] theorem fr326:FN Tryz.f326 28 [.tmp 8,.tmp 9]:=⟨rfl,rfl⟩
@[go_sem] theorem fr327:FN Tryz.f327 19 [.tmp 4]:=⟨rfl,rfl⟩
@[go_sem] theorem fr328:FN Tryz.f328 93 []:=⟨rfl,rfl⟩
@[go_sem] theorem fr329:FN Tryz.f329 17 [.tmp 4]:=⟨rfl,rfl⟩
@[go_sem] theorem fr330:FN Tryz.f330 25 []:=⟨rfl,rfl⟩
@[go_sem] theorem fr332:FN Tryz.f332 8 [.tmp 4]:=⟨rfl,rfl⟩
@[go_sem] theorem fr333:FN Tryz.f333 30 [.tmp 4]:=⟨rfl,rfl⟩
@[go_sem] theorem fr334:FN Tryz.f334 29 []:=⟨rfl,rfl⟩
@[go_sem] theorem fr335:FN Tryz.f335 20 []:=⟨rfl,rfl⟩
@[go_sem] theorem fr336:FN Tryz.f336 8 [.tmp 2]:=⟨rfl,rfl⟩
@[go_sem] theorem fr337:FN Tryz.f337 14 [.tmp 2]:=⟨rfl,rfl⟩
@[go_sem] theorem fr338:FN Tryz.f338 8 []:=⟨rfl,rfl⟩
@[go_sem] theorem fr340:FN Tryz.f340 18 [.tmp 4]:=⟨rfl,rfl⟩
theorem Bf {α:Type} (a:α):∃b,b=a:=⟨a,rfl⟩
noncomputable def Nr:(E:Br)->(P:Program)->(ops:Array Oper)->(Q:SA->Hp->Nat->Prop)->List Oper->SA->Hp->Nat->Prop:=Classical.choose (Bf H3)
theorem Ns:Nr=H3:=Z5 (Bf H3)
noncomputable def KN:(E:Br)->(P:Program)->(ops:Array Oper)->(Q:SA->Hp->Nat->Prop)->List Oper->List CL->SA->Hp->Nat->Prop:=Classical.choose (Bf Ev)
theorem Lq:KN=Ev:=Z5 (Bf Ev)
noncomputable def JV:(E:Br)->(P:Program)->(N:Nat)->Code->Cc->SA->Hp->Nat->Prop:=Classical.choose (Bf FX)
theorem EZ:JV=FX:=Z5 (Bf FX)
noncomputable def TP:(E:Br)->(P:Program)->(ops:Array Oper)->(Q:SA->Hp->Nat->Prop)->List Oper->SA->Option Tmp->SV->Hp->Nat->Prop:=
 Classical.choose (Bf λE P ops Q rest sa dst v h n=>Nr E P ops Q rest (Dr sa dst v) h n)
@[go_sem] theorem kont_at (E:Br) (P:Program) (ops:Array Oper) (Q:SA->Hp->Nat->Prop) (rest:List Oper) (sa:SA) (dst:Option Tmp) (v:SV) (h:Hp) (n:Nat):
 TP E P ops Q rest sa dst v h n=Nr E P ops Q rest (Dr sa dst v) h n:=by
 unfold TP;rw[Z5 (Bf λE P ops Q rest sa dst v h n=>Nr E P ops Q rest (Dr sa dst v) h n)]
noncomputable def Oc:(E:Br)->(P:Program)->(N:Nat)->Code->Cc->Cc:=Classical.choose (Bf λE P N b Q=>DO (FX E P N b Q) Q)
theorem JC:Oc=λE P N b Q=>DO (FX E P N b Q) Q:=Z5 (Bf λE P N b Q=>DO (FX E P N b Q) Q)
noncomputable def LD:Nat->Cc->Cc:=Classical.choose (Bf FF)
theorem IG:LD=FF:=Z5 (Bf FF)
section
variable (E : Br) (P : Program) (N : Nat) (ops : Array Oper) (a b : Code) (id : Nat) (Q : Cc) (K : SA → Hp → Nat → Prop) (sa : SA) (h : Hp) (n : Nat)
@[go_sem] theorem TQ:Oc E P N b Q .normal sa h n=JV E P N b Q sa h n:=by rw[JC,EZ];simp only[DO]
@[go_sem] theorem Uj:Oc E P N b Q (.exit id) sa h n=Q (.exit id) sa h n:=by rw[JC];simp only[DO]
@[go_sem] theorem kthen_ret:Oc E P N b Q .ret sa h n=Q .ret sa h n:=by rw[JC];simp only[DO]
@[go_sem] theorem St:LD id Q .normal sa h n=Q .normal sa h n:=by rw[IG];simp only[FF]
@[go_sem] theorem Ui:LD id Q .ret sa h n=Q .ret sa h n:=by rw[IG];simp only[FF]
@[go_sem] theorem T7 (i:Nat):LD id Q (.exit i) sa h n=if i=id then Q .normal sa h n else Q (.exit i) sa h n:=by rw[IG];simp only[FF]
@[go_sem] theorem wlk_skip:JV E P N .skip Q sa h n=Q .normal sa h n:=by rw[EZ];simp only[FX]
@[go_sem] theorem wlk_seq:JV E P N (.seq a b) Q sa h n=JV E P N a (Oc E P N b Q) sa h n:=by rw[EZ,JC];simp only[FX]
@[go_sem] theorem wlk_cond (c:Operand):JV E P N (.cond c a b) Q sa h n=match Gf sa c with|.bool t=>if t=true then JV E P N a Q sa h n else JV E P N b Q sa h n|_=>False:=by rw[EZ];simp only[FX]<;>cases Gf sa c<;>rfl
@[go_sem] theorem wlk_block:JV E P N (.block id b) Q sa h n=JV E P N b (LD id Q) sa h n:=by rw[EZ,IG];simp only[FX]
@[go_sem] theorem wlk_exit:JV E P N (.exit id) Q sa h n=Q (.exit id) sa h n:=by rw[EZ];simp only[FX]
@[go_sem] theorem wlk_ret:JV E P N .ret Q sa h n=Q .ret sa h n:=by rw[EZ];simp only[FX]
@[go_sem] theorem VJ:JV E P N (.region id ops false) Q sa h n=Nr E P ops (Q .normal) ops.toList sa h n:=by rw[EZ,Ns];simp only[FX]
@[go_sem] theorem wlk_drawn:JV E P N (.region id ops true) Q sa h n=(Ex ops=true/\KN E P ops (Q .normal) ops.toList [] sa h n):=by rw[EZ,Lq];simp only[FX]
@[go_sem] theorem wlk_loop:JV E P N (.loop b) Q sa h n=Fk E P N (.loop b) Q sa h n:=by rw[EZ];simp only[FX]
@[go_sem] theorem wlk_range (g:Operand) (ps:Array Tmp):JV E P N (.rangeFunc g ps a b) Q sa h n=Fk E P N (.rangeFunc g ps a b) Q sa h n:=by rw[EZ];simp only[FX]
@[go_sem] theorem wops_nil:Nr E P ops K [] sa h n=K sa h n:=by rw[Ns];simp only[H3]
@[go_sem] theorem wops_cons (o:Oper) (rest:List Oper):Nr E P ops K (o::rest) sa h n =
 match DV ops sa o with|some b=>if b=true then KJ E P o sa h n (TP E P ops K rest sa o.dst)else Nr E P ops K rest (Dr sa o.dst (.tup [])) h n|none=>False:=by
 unfold TP;rw[Z5 (Bf λE P ops Q rest sa dst v h n=>Nr E P ops Q rest (Dr sa dst v) h n)]
 rw[Ns];simp only[H3];cases DV ops sa o<;>rfl
@[go_sem] theorem wdraw_nil (tr:List CL):KN E P ops K [] tr sa h n=K sa h n:=by rw[Lq];simp only[Ev]
end
def CE (ops:Array Oper) (i:Nat) (r:CL):Nat->List CL->Bool
 | _,[]=>true
 | j,q::qs=>(Eo ops j i||(C4 (Ap q.wr) r.foot&&C4 (Ap r.wr) q.foot&&C4 (Ap q.new) r.foot))&&CE ops i r (j+1) qs
theorem Mb (ops:Array Oper) (i:Nat) (r:CL):∀(l:List CL) (j:Nat),CE ops i r j l=HU ops i r j l
 | [],_=>rfl
 | q::qs,j=>by rw[CE,HU,Mb ops i r qs,Bool.or_comm]
noncomputable def JB:(E:Br)->(P:Program)->(ops:Array Oper)->(Q:SA->Hp->Nat->Prop)->List Oper->List CL->SA->CL->Hp->Nat->Prop:=
 Classical.choose (Bf λE P ops Q rest tr sa r h n=>CE ops tr.length r 0 tr=true/\KN E P ops Q rest (tr++[r]) (Dr sa r.dst r.val) h n)
section
variable (E : Br) (P : Program) (ops : Array Oper) (K : SA → Hp → Nat → Prop) (sa : SA) (h : Hp) (n : Nat)
@[go_sem] theorem R8 (rest:List Oper) (tr:List CL) (r:CL):JB E P ops K rest tr sa r h n=(CE ops tr.length r 0 tr=true/\KN E P ops K rest (tr++[r]) (Dr sa r.dst r.val) h n):=by
 unfold JB;rw[Z5 (Bf λE P ops Q rest tr sa r h n=>CE ops tr.length r 0 tr=true/\KN E P ops Q rest (tr++[r]) (Dr sa r.dst r.val) h n)]
def Bo (g:FuncId) (us:List SV) (rest:List Oper) (tr:List CL) (dst:Option Tmp):Prop:=
 ∃foot wr v,Km E P g us foot wr v h/\(∀k∈Ap wr,k∈foot)/\(∀k∈foot,k<n)/\JB E P ops K rest tr sa { dst:=dst,val:=v,foot:=foot,wr:=wr } (CH h wr) n
def Rl (o:Oper) (rest:List Oper) (tr:List CL):Prop:=
 match o.op with
 | .call { callee:=.value f,args,.. }=>
  match callee (Gf sa f) (args.toList.map (Gf sa))with
  | some (g,us)=>Bo E P ops K sa h n g us rest tr o.dst
  | none=>False
 | op =>
  match Cp P (Gf sa) h n op with
  | some out=>
   (∀k∈Ap out.upd.toList++Ec (Gf sa) op,k<n)/\JB E P ops K rest tr sa { dst:=o.dst,val:=out.val,foot:=Ap out.upd.toList++Ec (Gf sa) op,wr:=out.upd.toList,new:=(out.new.map λx=>(n,some x)).toList } (out.app h n) (if out.new.isSome then n+1 else n)
  | none=>∃v,QV P (Gf sa) o v/\JB E P ops K rest tr sa { dst:=o.dst,val:=v } h n
@[go_sem] theorem VI (o:Oper) (rest:List Oper) (tr:List CL):KN E P ops K (o::rest) tr sa h n =
 match DV ops sa o with|some b=>if b=true then Rl E P ops K sa h n o rest tr else KN E P ops K rest (tr++[{ dst:=o.dst,val:=.tup [] }]) (Dr sa o.dst (.tup [])) h n|none=>False:=by
 unfold Rl Bo
 simp only[R8,Mb]
 rw[Lq]
 conv=>lhs;unfold Ev
 cases DV ops sa o<;>rfl
variable {E}
theorem Bo.pure {g:FuncId} {us:List SV} {rest:List Oper} {tr:List CL} {dst:Option Tmp} {v:SV} (H:Fg P g us v) (hk:JB E P ops K rest tr sa { dst:=dst,val:=v } h n):Bo E P ops K sa h n g us rest tr dst:=
 ⟨[],[],v,H.u h,by simp[Ap],by simp,hk⟩
theorem Bo.lend {g:FuncId} {us bs:List SV} {rest:List Oper} {tr:List CL} {dst:Option Tmp} {v:SV} (k:Nat) (foot:List Nat) (H:Fg P g bs v) (hv:D7 v=true) (hf:∀j∈foot,j<n) (hw:∀h',(∀j∈foot,h' j=h j)->AZ (Fz h' (λ_=>none) k) us bs)
 (hk:JB E P ops K rest tr sa { dst:=dst,val:=v,foot:=foot } h n):Bo E P ops K sa h n g us rest tr dst:=
 ⟨foot,[],v,H.lendU k foot hv hw,by simp[Ap],hf,hk⟩
end
attribute [go_sem] Rl Ec Ap Op.operands Call.operands SV.ids YC Zo
attribute [go_sem] L8 L7 JJ
abbrev PC (f:FuncId) (args:List SV) (v:SV):Prop:=Fg Tryz.prog f args v
abbrev E4 (h:Hp) (n:Nat):Prop:=∀o x,h o=some x->o<n/\BN n x=true
theorem Au {h h':Hp} {n n':Nat} {v' v:SV} (ho:E4 h n) (hh:∀o x,h o=some x->h' o=some x) (e:v'=v) (hc:closed n v=true):Bz n h' n' v' (Is v h n):=by
 subst e;exact Bz.plain hc ho hh ⟨rfl,rfl,rfl⟩
theorem Dh {h h':Hp} {n n':Nat} {v' v:SV} (k:Nat) (ho:E4 h n) (hh:∀o x,h o=some x->h' o=some x) (e:Fz h' h k v' v) (hc:closed n v=true):Bz n h' n' v' (Is v h n):=
 .inr ⟨k,v,h,e,hc,λo x e=>⟨hh o x e,ho o x e⟩,rfl,rfl,rfl⟩
theorem A3 {h:Hp} {n n':Nat} {v' v:SV} (ho:E4 h n) (hc:closed n v=true) (e:v'=v):Bz n h n' v' (Is v h n):=Au ho (λ_ _ e=>e) e hc
theorem AP {h:Hp} {n o:Nat} {y:Option BT} (ho:E4 h n) (hn:n<=o) {h':Hp} (hh:∀o x,h o=some x->h' o=some x):∀o' x,h o'=some x->hset h' o y o'=some x:=by
 intro o' x e
 have:=(ho o' x e).1
 have ne:o'≠o:=by omega
 simp[hset,ne,hh _ _ e]
theorem AB {h:Hp}:∀o x,h o=some x->h o=some x:=λ_ _ e=>e
theorem go {E:Br} {f:FuncId} {fn:Func} {code:Code} {args:List SV} {h:Hp} {n:Nat} {K:SV->Hp->Nat->Prop} (hf:Tryz.prog.funcs[f]? = some fn) (hb:fn.body=some code)
 (hn:(fn.name != "runtime.NumGoroutine")=true) (hd:Code.dok fn.ntmps code=true) (hl:args.length<=fn.ntmps)
 (H:E4 h n->JV (E.call false 0) Tryz.prog fn.ntmps code (L8 Tryz.prog fn n K) (ET 0 args) h n):Ak E Tryz.prog f args h n K:=
 QU follows hf hb hn hd hl λ_ ho=>by rw[<-EZ];exact H ho
theorem gq {E:Br} {f:FuncId} {fn:Func} {code:Code} {args:List SV} {h:Hp} {n:Nat} {K:SV->Hp->Nat->Prop} (hf:Tryz.prog.funcs[f]? = some fn) (hb:fn.body=some code)
 (H:E4 h n->JV (E.call false 0) Tryz.prog fn.ntmps code (L8 Tryz.prog fn n K) (ET 0 args) h n)
 (hn:(fn.name != "runtime.NumGoroutine")=true:=by kernel_rfl) (hd:Code.dok fn.ntmps code=true:=by kernel_rfl) (hl:args.length<=fn.ntmps:=by simp[go_sem]):Ak E Tryz.prog f args h n K:=
 go hf hb hn hd hl H
theorem Am {E:Br} {N:Nat} {x:Code} {Q:Cc} {sa:SA} {h:Hp} {n:Nat} {α:Type} (k:Nat) (fr:α->SA) (hp:α->Hp) (I:α->Nat->Prop) (μ:α->Nat) (a0:α) (hI:I a0 n)
 (hfr:∀p∈fr a0,Fz h (hp a0) k (Aj sa p.1) p.2) (hhp:∀o y,hp a0 o=some y->h o=some y)
 (round:∀a n,I a n->JV E Tryz.prog N x (DO (λsa' h' n'=>∃a',μ a'<μ a/\I a' n'/\(∀p∈fr a',Fz h' (hp a') k (Aj sa' p.1) p.2)/\(∀o y,hp a' o=some y->h' o=some y)) Q) (fr a) (hp a) n):
 Fk E Tryz.prog N (.loop x) Q sa h n:=
 RB follows k fr hp I μ a0 hI hfr hhp λa n ha=>by rw[<-EZ];exact round a n ha
@[go_sem] theorem DZ (K:SA->Hp->Nat->Prop) (Q:Cc):DO K Q .normal=K:=rfl
@[go_sem] theorem VA (K:SA->Hp->Nat->Prop) (Q:Cc) (i:Nat):DO K Q (.exit i)=Q (.exit i):=rfl
@[go_sem] theorem thenQ_ret (K:SA->Hp->Nat->Prop) (Q:Cc):DO K Q .ret=Q .ret:=rfl
attribute [go_sem] closed closedL
theorem nd {ops:Array Oper} {i j:Nat} {r:CL} {l:List CL} {R:Prop} (h:CE ops i r j l=true) (hr:R):CE ops i r j l=true/\R:=⟨h,hr⟩
theorem sd {ops:Array Oper} {R:Prop} (h:Ex ops=true) (hr:R):Ex ops=true/\R:=⟨h,hr⟩
theorem DR {x:Int} (h0:-4611686018427387904<=x) (h1:x<=4611686018427387904):IntKind.i64.wrap x=x:=IntWalk.i64_in x (by omega)
theorem nq {ops:Array Oper} {i j:Nat} {r:CL} {l:List CL} {R:Prop} (hr:R) (h:CE ops i r j l=true:=by kernel_rfl):CE ops i r j l=true/\R:=⟨h,hr⟩
theorem sq {ops:Array Oper} {R:Prop} (hr:R) (h:Ex ops=true:=by kernel_rfl):Ex ops=true/\R:=⟨h,hr⟩
theorem aq {a R:Prop} (hr:R) (h:a:=by omega):a/\R:=⟨h,hr⟩
theorem wS (i:Nat) (h:i<4611686018427387904):IntKind.i64.wrap ((i:Int)+1)=((i+1:Nat):Int):=by rw[DR]<;>omega
theorem E4.lt {h:Hp} {n:Nat} (ho:E4 h n):∀j y,h j=some y->j<n:=λj y e=>(ho j y e).1
theorem PC.use {E:Br} {f:FuncId} {args:List SV} {v:SV} (H:PC f args v) {h:Hp} {n:Nat} {K:SV->Hp->Nat->Prop} (hk:K v h n):Ak E Tryz.prog f args h n K:=Fg.use H hk
theorem RX {s:ByteArray} {i:Nat} (h:i<s.size):s[i]? = some s[i]:=getElem?_pos s i h
set_option maxRecDepth 10000
def Kz (b:Int):Int:=if b=224 then 160 else if b=240 then 144 else 128
def Ia (b:Int):Int:=if b=237 then 159 else if b=244 then 143 else 191
def Em (b:Int):Int:=if b<128 then 1 else if b<194\/244<b then 0 else if b<224 then 2 else if b<240 then 3 else 4
theorem c287 (b:Int):PC 287 [.int .u8 b] (.tup [.int .u8 (Kz b),.int .u8 (Ia b),.int .i64 (Em b)]):=by
 intro h n
 refine gq Tryz.func287 rfl λho=>?_
 by_cases h1:b<128<;>by_cases h2:b<194<;>by_cases h3:244<b<;>by_cases h4:b<224<;>by_cases h5:b<240<;>by_cases h6:b=224<;>by_cases h7:b=237<;>by_cases h8:b=240<;>by_cases h9:b=244<;>try omega
 all_goals
  simp[go_sem,h1,h2,h3,h4,h5,h6,h7,h8,h9,Kz,Ia,Em]
  exact A3 ho rfl (by simp)
def BI (s:ByteArray) (i:Nat):Int:=match s[i]? with|some b=>b.toNat|none=>0
def GG (s:ByteArray) (a n:Nat):Nat->Int->Int->Nat->Nat×Bool
 | 0,_,_,k=>(k,true)
 | f+1,lo,hi,k=>if s.size<=a+k\/BI s (a+k)<lo\/hi<BI s (a+k)then(k,false)else GG s a n f 128 191 (k+1)
def CR (s:ByteArray) (a:Nat):Nat×Bool:=
 let b:=BI s a
 let n:=Em b
 if n=0 then(0,false)else if n=1 then(1,true)else GG s a n.toNat (n.toNat-1) (Kz b) (Ia b) 1
theorem Ea {s:ByteArray} {i:Nat} (h:i<s.size):s[i]? = some s[i]/\BI s i=s[i].toNat:=by
 have:=RX h
 simp[BI,this]
theorem MM (b:Int):0<=Em b/\Em b<=4:=by unfold Em;repeat' split<;>omega
theorem c252 (s:ByteArray) (a:Nat) (ha:a<s.size) (hs:s.size<=1099511627776):PC 252 [.str s,.int .i64 a] (.tup [.junk,.int .i64 (CR s a).1,.bool (CR s a).2]):=by
 intro h n
 refine gq Tryz.func252 rfl λho=>?_
 obtain⟨e1,e2⟩:=Ea ha
 simp[go_sem,e1,<-e2]
 refine(c287 _).use ?_
 obtain⟨hz0,hz1⟩:=MM (BI s a)
 simp[go_sem,hz0]
 by_cases h0:Em (BI s a)=0
 . simp[h0];exact Dh 3 ho AB (by simp[Fz,AZ,CR,h0]) rfl
 by_cases h1:Em (BI s a)=1
 . simp[h1];exact Dh 3 ho AB (by simp[Fz,AZ,CR,h1]) rfl
 have hD:CR s a=GG s a (Em (BI s a)).toNat ((Em (BI s a)).toNat-1) (Kz (BI s a)) (Ia (BI s a)) 1:=by simp[CR,h0,h1]
 obtain⟨z,hz⟩:∃z:Nat,Em (BI s a)=z:=⟨(Em (BI s a)).toNat,by omega⟩
 rw[hz]at hD h0 h1 hz0 hz1 ⊢
 simp only[h0,h1,if_false]
 rw[hD]
 simp only[Int.toNat_natCast]
 generalize IntKind.i64.wrap _=p0
 refine Am 3 (α:=Int×Int×Int×Nat) (λq=>[(0,.str s),(1,.int .i64 a),(4,.int .i64 q.1),(5,.int .i64 q.2.2.2),(8,.int .u8 q.2.1),(9,.int .u8 q.2.2.1),(10,.int .i64 z)]) (λ_=>h)
  (λq m=>n<=m/\1<=q.2.2.2/\q.2.2.2<=z/\GG s a z (z-1) (Kz (BI s a)) (Ia (BI s a)) 1=GG s a z (z-q.2.2.2) q.2.1 q.2.2.1 q.2.2.2) (λq=>z-q.2.2.2) (p0,Kz (BI s a),Ia (BI s a),1) ?_ ?_ AB ?_
 . exact⟨Y1 _,by simp,by simp;omega,rfl⟩
 . simp[Aj]
 rintro⟨p,lo,hi,k⟩ m ⟨hm,hk1,hkz,hJ⟩
 by_cases hlt:k<z
 . obtain⟨f,hf⟩:∃f,z-k=f+1:=⟨z-k-1,by omega⟩
   have hk:z-(k+1)=f:=by omega
   have w1:IntKind.i64.wrap ((a:Int)+k)=((a+k:Nat):Int):=by rw[DR]<;>omega
   have w2:=wS k (by omega)
   dsimp only at hJ hk1 hkz
   rw[hf,GG]at hJ
   by_cases hin:s.size<=a+k
   . simp[go_sem,hlt,w1,hin,-Int.natCast_add]
     exact Dh 3 ho AB (by simp[Fz,AZ,hJ,hin]) rfl
   obtain⟨g1,g2⟩:=Ea (ZL hin)
   by_cases hlo:BI s (a+k)<lo
   . simp[go_sem,hlt,w1,hin,g1,<-g2,hlo,-Int.natCast_add]
     exact Dh 3 ho AB (by simp[Fz,AZ,hJ,hlo]) rfl
   by_cases hhi:hi<BI s (a+k)
   . simp[go_sem,hlt,w1,hin,g1,<-g2,hlo,hhi,-Int.natCast_add]
     exact Dh 3 ho AB (by simp[Fz,AZ,hJ,hhi]) rfl
   simp[go_sem,hlt,w1,w2,hin,g1,<-g2,hlo,hhi,-Int.natCast_add]
   rw[if_neg (by simp only[not_or];exact⟨hin,hlo,hhi⟩)]at hJ
   refine⟨_,128,191,k+1,by omega,⟨hm,by omega,by omega,by rw[hk];exact hJ⟩,Y0,Y0,Y0,Y0⟩
 . have:k=z:=by dsimp only at hkz;omega
   subst this
   simp[go_sem]
   rw[Nat.sub_self,GG]at hJ
   exact Dh 3 ho AB (by simp[Fz,AZ,hJ]) rfl
theorem Jd (s:ByteArray) (a n:Nat):∀(f:Nat) (lo hi:Int) (k:Nat),k<=(GG s a n f lo hi k).1/\(GG s a n f lo hi k).1<=k+f
 | 0,_,_,k=>by simp[GG]
 | f+1,lo,hi,k=>by
  rw[GG]
  split
  . simp
  . have:=Jd s a n f 128 191 (k+1)
    omega
theorem I3 {s:ByteArray} {a:Nat} (h:(CR s a).2=true):1<=(CR s a).1:=by
 simp only[CR]at h ⊢
 split
 . rename_i e;simp[e]at h
 . split
   . exact Y1 _
   . exact(Jd _ _ _ _ _ _ _).1
theorem OC (s:ByteArray) (a:Nat):(CR s a).1<=4:=by
 simp only[CR]
 split
 . simp
 . split
   . simp
   . have:=(Jd s a (Em (BI s a)).toNat ((Em (BI s a)).toNat-1) (Kz (BI s a)) (Ia (BI s a)) 1).2
     have:=MM (BI s a)
     omega
def HD (s:ByteArray) (a:Nat):Int:=
 if _:a<s.size then if _:(CR s a).2=true then HD s (a+(CR s a).1)else a else -1
termination_by s.size-a
decreasing_by
 rename_i h2
 have:=I3 h2;omega
def CW (s:ByteArray):Bool:=decide (HD s 0<0)
theorem c182 (s:ByteArray) (hs:s.size<=1099511627776):PC 182 [.str s] (.int .i64 (HD s 0)):=by
 intro h n
 refine gq Tryz.func182 rfl λho=>?_
 simp[go_sem]
 refine Am 1 (α:=Nat) (λk=>[(0,.str s),(3,.int .i64 k)]) (λ_=>h) (λk m=>n<=m/\k<=s.size+4/\HD s 0=HD s k) (λk=>s.size+4-k) 0 ?_ ?_ AB ?_
 . exact⟨Y1 _,by omega,rfl⟩
 . simp[Aj]
 rintro k m ⟨hm,hk,hJ⟩
 by_cases hlt:k<s.size
 . simp[go_sem,hlt]
   refine(c252 s k hlt hs).use ?_
   have hp:=@I3 s k
   have hl:=OC s k
   have w:IntKind.i64.wrap ((k:Int)+((CR s k).1:Int))=((k+(CR s k).1:Nat):Int):=by rw[DR]<;>omega
   rw[HD.eq_def s k]at hJ
   by_cases hd:(CR s k).2=true
   . simp[hlt,hd]at hJ
     simp[go_sem,hd,w,-Int.natCast_add]
     have:=hp hd
     exact⟨k+(CR s k).1,by omega,⟨hm,by omega,hJ⟩,Y0⟩
   . simp[hlt,hd]at hJ
     simp[go_sem,hd]
     exact A3 ho rfl (by rw[hJ])
 . simp[go_sem,hlt]
   rw[HD.eq_def s k]at hJ
   simp[hlt]at hJ
   exact A3 ho rfl (by rw[hJ])
theorem PO (s:ByteArray) (hs:s.size<=1099511627776):PC 116 [.str s] (.bool (CW s)):=by
 intro h n
 refine gq Tryz.func116 rfl λho=>?_
 simp[go_sem]
 refine(c182 s hs).use ?_
 simp[go_sem]
 exact A3 ho rfl (by simp[CW])
def Ge (b:Int):Bool:=!(IntKind.u8.wrap (BitVec.ofInt 8 b &&& BitVec.ofInt 8 192).toNat==128)
def C9 (s:ByteArray):Nat->Nat
 | 0=>0
 | k+1=>C9 s k+if Ge (BI s k)then 1 else 0
theorem HE (s:ByteArray):∀k,C9 s k<=k
 | 0=>Y1 _
 | k+1=>by have:=HE s k;simp only[C9];split<;>omega
theorem c177 (s:ByteArray) (hs:s.size<=1099511627776):PC 177 [.str s] (.tup [.int .i64 (if CW s then C9 s s.size else 0),.int .i64 (if CW s then 0 else 12)]):=by
 intro h n
 refine gq Tryz.func177 rfl λho=>?_
 simp[go_sem]
 refine(PO s hs).use ?_
 by_cases hv:CW s=true
 . simp[go_sem,hv]
   refine Am 1 (α:=Nat) (λk=>[(0,.str s),(2,.int .i64 (C9 s k)),(9,.int .i64 s.size),(10,.int .i64 k)]) (λ_=>h) (λk m=>n<=m/\k<=s.size) (λk=>s.size-k) 0 ?_ ?_ AB ?_
   . exact⟨Y1 _,by omega⟩
   . simp[Aj,C9]
   rintro k m ⟨hm,hk⟩
   by_cases hlt:k<s.size
   . obtain⟨g1,g2⟩:=Ea hlt
     have hl:=HE s k
     have w1:=wS k (by omega)
     have w2:IntKind.i64.wrap ((C9 s k:Int)+1)=((C9 s k+1:Nat):Int):=by rw[DR]<;>omega
     simp[go_sem,hlt,<-g2,w1,w2,-Int.natCast_add]
     split
     . rename_i hh
       have hc:Ge (BI s k)=false:=by simp only[Ge,Bool.not_eq_false',beq_iff_eq];exact hh
       exact⟨k+1,by omega,⟨hm,by omega⟩,by simp[C9,hc],Y0⟩
     . rename_i hh
       have hc:Ge (BI s k)=true:=by simp only[Ge,Z1,beq_eq_false_iff_ne];exact hh
       exact⟨k+1,by omega,⟨hm,by omega⟩,by simp[C9,hc],Y0⟩
   . have:k=s.size:=by omega
     subst this
     simp[go_sem]
     exact A3 ho rfl (by simp)
 . simp[go_sem,hv]
   exact A3 ho rfl (by simp)
def AN (z:Nat) (o:Option Nat) (es:List SV):SV:=match o with|none=>.imm 0 [] true|some j=>.sl j 0 z es.length false
def AO (o:Option Nat) (es:List SV) (h:Hp):Hp:=match o with|none=>h|some j=>hset h j (some (.cells (es.flatMap SV.cells)))
structure A7 (n m z:Nat) (o:Option Nat) (es:List SV):Prop where
 none:o=Option.none->es=[]
 lt:∀j,o=some j->n<=j/\j<m
 size:∀e∈es,e.storable=true/\e.cells.length=z
theorem A7.nil (n m z:Nat):A7 n m z Option.none []:=⟨λ_=>rfl,by simp,by simp⟩
theorem BE {z:Nat}:∀{es:List SV},(∀e∈es,e.storable=true/\e.cells.length=z)->(es.flatMap SV.cells).length=es.length*z
 | [],_=>by simp
 | e::es,h=>by
  have:=BE (es:=es) (z:=z) λx hx=>h x (by simp[hx])
  simp[this,(h e (by simp)).2,Zg,Nat.add_comm]
theorem A7.push {n m m' z:Nat} {o:Option Nat} {es:List SV} {e:SV} {j:Nat} (H:A7 n m z o es) (hs:e.storable=true) (he:e.cells.length=z) (h1:n<=j) (h2:j<m'):A7 n m' z (some j) (es++[e]):=
 ⟨by simp,by rintro k e;cases e;exact⟨h1,h2⟩,by intro x hx;simp at hx;rcases hx with hx|rfl;exact H.size x hx;exact⟨hs,he⟩⟩
theorem A7.mono {n m m' z:Nat} {o:Option Nat} {es:List SV} (H:A7 n m z o es) (hm:m<=m'):A7 n m' z o es:=⟨H.none,λj e=>⟨(H.lt j e).1,ZN (H.lt j e).2 hm⟩,H.size⟩
theorem E4.none {h:Hp} {n j:Nat} (ho:E4 h n) (hj:n<=j):h j=none:=by
 cases e:h j with
 | none=>rfl
 | some x=>have:=(ho j x e).1;omega
theorem AO.old {h:Hp} {n m z:Nat} {o:Option Nat} {es:List SV} (ho:E4 h n) (H:A7 n m z o es):∀j x,h j=some x->AO o es h j=some x:=by
 cases o with
 | none=>exact λ_ _ e=>e
 | some k=>exact AP ho (H.lt k rfl).1 AB
theorem AC (h:Hp) (j:Nat) (x:Option BT):hset h j x j=x:=by simp[hset]
theorem AD (h:Hp) {j k:Nat} (x:Option BT) (e:k≠j):hset h j x k=h k:=by simp[hset,e]
theorem AN.fz {h:Hp} {n m z k:Nat} {o:Option Nat} {es:List SV} (ho:E4 h n) (H:A7 n m z o es) {h':Hp} (hh:∀j y,AO o es h j=some y->h' j=some y):Fz h' h (k+1) (AN z o es) (.imm z es false):=by
 cases o with
 | none=>rw[H.none rfl];exact .inr ⟨by simp,.inl rfl,trivial,by simp⟩
 | some j =>
  have hj:=hh j (.cells (es.flatMap SV.cells)) (by simp[AO,hset])
  refine .inr ⟨ho.none (H.lt j rfl).1,by simp,rfl,rfl,_,_,hj,by simp[Bk,BE H.size];rfl,H.size,?_⟩
  have:∀l:List SV,AZ (Fz h' h k) l l:=by
   intro l;induction l with
   | nil=>trivial
   | cons a l ih=>exact⟨Y0,ih⟩
  simp only[<-BE H.size,Ya]
  exact this _
theorem Te {h h':Hp} {n n' m z:Nat} {o:Option Nat} {es:List SV} {v:SV} (ho:E4 h n) (H:A7 n m z o es) (hh:∀j y,AO o es h j=some y->h' j=some y) (hv:v=AN z o es) (hc:∀e∈es,closed n e=true):Bz n h' n' v (Is (.imm z es false) h n):=by
 subst hv
 refine Dh 1 ho (λj x e=>hh j x (AO.old ho H j x e)) (AN.fz ho H hh) ?_
 rw[closed]
 exact DS.2 hc
section
variable {P : Program}
theorem app1 {h0:Hp} {n m z:Nat} {es:List SV} {e:SV} {o:Option Nat} {t t2 el:TypeId} (ht:A6 P t=some el) (ht2:(A6 P t2).isSome=true) (hz:Bh P el=z) (hz0:z≠0) (hst:(BH P el).storable=true) (hzl:(BH P el).cells.length=z)
 (hroom:es.length+1<=1073741824) (hb:Bg P el<=65536) (H:A7 n m z o es) (he:e.cells.length=z) (hrow:HM el=none:=by rfl):
 AS P (hset (AO o es h0) m (some (.cells e.cells))) (m+1) .append [t,t2] [AN z o es,.sl m 0 z 1 true] =
  some { val:=.sl (m+1) 0 z (es.length+1) false,upd:=o.map λj=>(j,none),new:=some (.cells (es.flatMap SV.cells++e.cells)) }:=by
 have hfl:flat (hset (AO o es h0) m (some (.cells e.cells))) (.sl m 0 z 1 true)=some e.cells:=by
  simp[flat,hset,Bk,he]
  exact Yl (by omega)
 have hr:DU (es.length+1) (Bg P el)=true:=by simp[DU];exact⟨by omega,hb⟩
 simp only[AS,ht2,if_true,Cw,ht,EF,hfl,hz,hzl,hst]
 cases o with
 | none=>
  have:=H.none rfl
  subst this
  simp[AN,Ha,hz0,hrow]
  have hr':DU 1 (Bg P el)=true:=by simpa using hr
  exact hr'
 | some j =>
  have hne:j≠m:=by have:=(H.lt j rfl).2;omega
  have hf:flat (hset (AO (some j) es h0) m (some (.cells e.cells))) (.sl j 0 z es.length false)=some (es.flatMap SV.cells):=by
   simp only[flat,AD _ _ hne,AO,AC,Bk,YW,BE H.size,Y1,if_true,ZV]
   rw[<-BE H.size,Ya]
  simp[AN,Ha,hz0,hf,hr,HS hrow]
theorem MJ {h0:Hp} {n m:Nat} {es:List SV} {e:SV} {o:Option Nat} {z:Nat} (ho:E4 h0 n) (hn:n<=m) (H:A7 n m z o es):
 ∀j y,AO (some (m+1)) (es++[e]) h0 j=some y->
  (Cs.app (hset (AO o es h0) m (some (.cells e.cells))) (m+1) { val:=.sl (m+1) 0 z (es.length+1) false,upd:=o.map λj=>(j,none),new:=some (.cells (es.flatMap SV.cells++e.cells)) }) j=some y:=by
 intro j y hj
 simp only[AO]at hj
 by_cases e1:j=m+1
 . subst e1
   rw[AC]at hj
   simp only[Cs.app,AC]
   rw[<-hj];simp
 . rw[AD _ _ e1]at hj
   have hlt:=(ho j y hj).1
   have hm:j≠m:=by omega
   cases o with
   | none=>simp[Cs.app,AD _ _ e1,AD _ _ hm,AO,hj]
   | some k=>
    have hk:j≠k:=by have:=(H.lt k rfl).1;omega
    simp[Cs.app,AD _ _ e1,AD _ _ hm,AD _ _ hk,AO,hj]
end
abbrev AA:Int->SV:=.int .i64
structure E8 where
 key:Int
 value:Int
 deriving DecidableEq
structure BO where
 rev:Int
 move:Int
 deriving DecidableEq
structure Ax where
 rev:Int
 key:Int
 before:Int
 had:Bool
 deriving DecidableEq
structure AF where
 props:List E8
 ins:Int
 move:Int
 dels:List BO
 layers:List Ax
 deriving DecidableEq
structure BD where
 id:Int
 author:ByteArray
 time:Int
 deriving DecidableEq
structure Az where
 id:Int
 kind:Int
 name:ByteArray
 base:Int
 next:Int
 props:List E8
 deriving DecidableEq
structure CV where
 format:Int
 start:Int
 template:ByteArray
 restart:Int
 deriving DecidableEq
structure FQ where
 id:Int
 levels:List CV
 deriving DecidableEq
structure As where
 id:Int
 parent:Int
 author:ByteArray
 time:Int
 text:ByteArray
 done:Bool
 deriving DecidableEq
structure Fa where
 name:ByteArray
 value:ByteArray
 deriving DecidableEq
structure AJ where
 styles:List Az
 lists:List FQ
 comments:List As
 vars:List Fa
 deriving DecidableEq
mutual
inductive AE where
 | mk (kind code id:Int) (text:ByteArray) (head:AF) (flow:List AE) (rows:List AW)
inductive AW where
 | mk (head:AF) (cells:List AL)
inductive AL where
 | mk (id:Int) (head:AF) (flow:List AE)
end
structure AH where
 flow:List AE
 «end» : AF
 revs:List BD
 settings:AJ
def E8.enc (p:E8):SV:=.agg [AA p.key,AA p.value]
def BO.enc (p:BO):SV:=.agg [AA p.rev,AA p.move]
def Ax.enc (p:Ax):SV:=.agg [AA p.rev,AA p.key,AA p.before,.bool p.had]
abbrev Af (l:List E8):SV:=.imm 2 (l.map E8.enc) false
abbrev Aa (l:List BO):SV:=.imm 2 (l.map BO.enc) false
abbrev AQ (l:List Ax):SV:=.imm 4 (l.map Ax.enc) false
def AF.flat (h:AF):List SV:=[Af h.props,AA h.ins,AA h.move,Aa h.dels,AQ h.layers]
def AF.enc (h:AF):SV:=.agg h.flat
def BD.enc (r:BD):SV:=.agg [AA r.id,.str r.author,AA r.time]
abbrev Aw (l:List BD):SV:=.imm 3 (l.map BD.enc) false
def Az.enc (s:Az):SV:=.agg [AA s.id,AA s.kind,.str s.name,AA s.base,AA s.next,Af s.props]
def CV.enc (l:CV):SV:=.agg [AA l.format,AA l.start,.str l.template,AA l.restart]
abbrev DC (l:List CV):SV:=.imm 4 (l.map CV.enc) false
def FQ.enc (l:FQ):SV:=.agg [AA l.id,DC l.levels]
def As.enc (c:As):SV:=.agg [AA c.id,AA c.parent,.str c.author,AA c.time,.str c.text,.bool c.done]
def Fa.enc (v:Fa):SV:=.agg [.str v.name,.str v.value]
abbrev Ad (l:List Az):SV:=.imm 6 (l.map Az.enc) false
abbrev DW (l:List FQ):SV:=.imm 2 (l.map FQ.enc) false
abbrev BW (l:List As):SV:=.imm 6 (l.map As.enc) false
abbrev FA (l:List Fa):SV:=.imm 2 (l.map Fa.enc) false
def AJ.flat (s:AJ):List SV:=[Ad s.styles,DW s.lists,BW s.comments,FA s.vars]
def AJ.enc (s:AJ):SV:=.agg s.flat
mutual
def AE.enc:AE->SV
 | .mk k c i t h f r=>.agg ([AA k,AA c,AA i,.str t]++h.flat++[.imm 11 (AE.encL f) false,.imm 6 (AW.encL r) false])
def AE.encL:List AE->List SV
 | []=>[]
 | x::l=>x.enc::AE.encL l
def AW.enc:AW->SV
 | .mk h c=>.agg (h.flat++[.imm 7 (AL.encL c) false])
def AW.encL:List AW->List SV
 | []=>[]
 | x::l=>x.enc::AW.encL l
def AL.enc:AL->SV
 | .mk i h f=>.agg ([AA i]++h.flat++[.imm 11 (AE.encL f) false])
def AL.encL:List AL->List SV
 | []=>[]
 | x::l=>x.enc::AL.encL l
end
theorem AE.encL_eq (l:List AE):AE.encL l=l.map AE.enc:=by induction l with|nil=>rfl|cons a l ih=>rw[AE.encL,ih];rfl
theorem AW.encL_eq (l:List AW):AW.encL l=l.map AW.enc:=by induction l with|nil=>rfl|cons a l ih=>rw[AW.encL,ih];rfl
theorem AL.encL_eq (l:List AL):AL.encL l=l.map AL.enc:=by induction l with|nil=>rfl|cons a l ih=>rw[AL.encL,ih];rfl
abbrev AG (l:List AE):SV:=.imm 11 (l.map AE.enc) false
abbrev Av (l:List AW):SV:=.imm 6 (l.map AW.enc) false
abbrev BQ (l:List AL):SV:=.imm 7 (l.map AL.enc) false
def AE.kind:AE->Int|.mk k _ _ _ _ _ _=>k
def AE.code:AE->Int|.mk _ c _ _ _ _ _=>c
def AE.id:AE->Int|.mk _ _ i _ _ _ _=>i
def AE.text:AE->ByteArray|.mk _ _ _ t _ _ _=>t
def AE.head:AE->AF|.mk _ _ _ _ h _ _=>h
def AE.flow:AE->List AE|.mk _ _ _ _ _ f _=>f
def AE.rows:AE->List AW|.mk _ _ _ _ _ _ r=>r
def AW.head:AW->AF|.mk h _=>h
def AW.cells:AW->List AL|.mk _ c=>c
def AL.id:AL->Int|.mk i _ _=>i
def AL.head:AL->AF|.mk _ h _=>h
def AL.flow:AL->List AE|.mk _ _ f=>f
theorem AE.enc_eq (x:AE):x.enc=.agg [AA x.kind,AA x.code,AA x.id,.str x.text,Af x.head.props,AA x.head.ins,AA x.head.move,Aa x.head.dels,AQ x.head.layers,AG x.flow,Av x.rows]:=by
 cases x;simp[AE.enc,AF.flat,AE.encL_eq,AW.encL_eq];exact⟨rfl,rfl,rfl,rfl,rfl,rfl,rfl,rfl,rfl,rfl,rfl⟩
theorem AW.enc_eq (x:AW):x.enc=.agg [Af x.head.props,AA x.head.ins,AA x.head.move,Aa x.head.dels,AQ x.head.layers,BQ x.cells]:=by
 cases x;simp[AW.enc,AF.flat,AL.encL_eq];exact⟨rfl,rfl,rfl,rfl,rfl,rfl⟩
theorem AL.enc_eq (x:AL):x.enc=.agg [AA x.id,Af x.head.props,AA x.head.ins,AA x.head.move,Aa x.head.dels,AQ x.head.layers,AG x.flow]:=by
 cases x;simp[AL.enc,AF.flat,AE.encL_eq];exact⟨rfl,rfl,rfl,rfl,rfl,rfl,rfl⟩
def Bj (s:ByteArray):Nat->List Int
 | 0=>[]
 | k+1=>if Ge (BI s k)then Bj s k++[(k:Int)]else Bj s k
theorem El (s:ByteArray):∀k,(Bj s k).length=C9 s k
 | 0=>rfl
 | k+1=>by simp only[Bj,C9];split<;>simp[El s k]
theorem c313 (s:ByteArray) (hs:s.size<=1048576):PC 313 [.str s] (.imm 1 ((Bj s s.size++[(s.size:Int)]).map AA) false):=by
 intro h n
 refine gq Tryz.func313 rfl λho=>?_
 simp[go_sem]
 refine Am 1 (α:=Nat×Option Nat) (λq=>[(0,.str s),(3,AN 1 q.2 ((Bj s q.1).map AA)),(6,.int .i64 s.size),(7,.int .i64 q.1)]) (λq=>AO q.2 ((Bj s q.1).map AA) h)
  (λq m=>n<=m/\q.1<=s.size/\A7 n m 1 q.2 ((Bj s q.1).map AA)) (λq=>s.size-q.1) (0,none) ?_ ?_ AB ?_
 . exact⟨Y1 _,by omega,A7.nil _ _ _⟩
 . simp[Aj,Bj,AN]
 rintro⟨k,o⟩ m ⟨hm,hk,hA⟩
 dsimp only at hk hA
 have hlen:=El s k
 have hle:=HE s k
 have w1:=wS k (by omega)
 by_cases hlt:k<s.size
 . obtain⟨g1,g2⟩:=Ea hlt
   have hap:=app1 (P:=Tryz.prog) (h0:=h) (e:=AA k) (t:=61) (t2:=61) (el:=3) (by simp[go_sem]) (by simp[go_sem]) (by simp[go_sem]) (by simp) (by simp[go_sem]) (by simp[go_sem]) (by simp;omega) (by simp[go_sem]) hA rfl
   simp only[SV.cells]at hap
   simp[go_sem,hlt,<-g2,w1,hap,-Int.natCast_add]
   split
   . rename_i hh
     have hc:Ge (BI s k)=false:=by simp only[Ge,Bool.not_eq_false',beq_iff_eq];exact hh
     have hb:Bj s (k+1)=Bj s k:=by simp[Bj,hc]
     exact⟨k+1,by omega,o,⟨⟨hm,by omega,by rw[hb];exact hA⟩,by rw[hb];exact⟨Y0,Y0⟩,by rw[hb];exact AB⟩⟩
   . rename_i hh
     have hc:Ge (BI s k)=true:=by simp only[Ge,Z1,beq_eq_false_iff_ne];exact hh
     have hb:Bj s (k+1)=Bj s k++[(k:Int)]:=by simp[Bj,hc]
     refine⟨k+1,by omega,some (m+1),⟨⟨by omega,by omega,?_⟩,⟨?_,Y0⟩,?_⟩⟩
     . rw[hb,Y3];exact hA.push rfl rfl (by omega) (by omega)
     . rw[hb];simp[AN]
     . rw[hb,Y3];exact MJ ho hm hA
 . have:k=s.size:=by omega
   subst this
   have hap:=app1 (P:=Tryz.prog) (h0:=h) (e:=AA s.size) (t:=61) (t2:=61) (el:=3) (by simp[go_sem]) (by simp[go_sem]) (by simp[go_sem]) (by simp) (by simp[go_sem]) (by simp[go_sem]) (by simp;omega) (by simp[go_sem]) hA rfl
   simp only[SV.cells]at hap
   simp[go_sem,hap]
   refine Te ho (hA.push (e:=AA s.size) rfl rfl (Nat.le_succ_of_le hm) (YD (m+1))) (MJ ho hm hA) (by simp[AN]) ?_
   intro e he;simp at he;rcases he with⟨_,_,rfl⟩|rfl<;>rfl
def Cl (s:ByteArray) (u:Int):Int×Int:=
 if CW s=false then(0,12)else if u<0\/C9 s s.size+1<=u then(0,2)else((Bj s s.size++[(s.size:Int)]).getD u.toNat 0,0)
theorem c286 (s:ByteArray) (u:Int) (hs:s.size<=1048576):PC 286 [.str s,.int .i64 u] (.tup [.int .i64 (Cl s u).1,.int .i64 (Cl s u).2]):=by
 intro h n
 refine gq Tryz.func286 rfl λho=>?_
 simp[go_sem]
 refine(PO s (by omega)).use ?_
 by_cases hv:CW s=true
 . simp[go_sem,hv]
   refine(c313 s hs).use ?_
   by_cases h1:u<0
   . simp[go_sem,h1]
     exact A3 ho rfl (by simp[Cl,hv,h1])
   . by_cases h2:C9 s s.size+1<=u
     . simp[go_sem,h1,h2,El]
       exact A3 ho rfl (by simp[Cl,hv,h1,h2])
     . have hl:u.toNat<(Bj s s.size++[(s.size:Int)]).length:=by simp[El];omega
       have hg:(List.map AA (Bj s s.size)++[AA s.size])[u.toNat]? = some (AA ((Bj s s.size++[(s.size:Int)]).getD u.toNat 0)):=by
        have:List.map AA (Bj s s.size)++[AA s.size]=(Bj s s.size++[(s.size:Int)]).map AA:=by simp
        rw[this,Yz,Yr hl,List.getD_eq_getElem?_getD,Yr hl];rfl
       simp[go_sem,h1,h2,El,hg,Int.not_lt.1 h1]
       exact A3 ho rfl (by simp[Cl,hv,h1,h2])
 . simp[go_sem,hv]
   exact A3 ho rfl (by simp[Cl,hv])
end Go.Proofs.YtgakninlhfkkmaaGreat.Sh
