/- A part of the proof (part 3 of 17). -/
import Derived.Test.YtgakninlhfkkmaaGreatN2
import Derived.Test.YtgakninlhfkkmaaGreatProg
import Derived.KernelRfl
import Derived.Tactics
import Derived.IntWalk
namespace Go.Proofs.YtgakninlhfkkmaaGreat.Sh
abbrev IO:=@Fz.same
abbrev kS:=@Ak.mono
abbrev ke:=@Fq.refl
section
variable {E : B6} {P : Program} {N : Nat} {ops : Array Oper} {f0 : Nat → SV} {h0 : Hp} {n0 n : Nat} {rs : List CR}
def UR (listed:Array Bool):Nat:=listed.toList.count false
theorem Jm {a:Array Bool} {i:Nat} (hi:i<a.size) (h:a.getD i false=false):UR (a.setIfInBounds i true)+1=UR a:=by
 have b:a.toList[i]'(by simpa using hi)=false:=by rw[Gc hi]at h;simpa using h
 have hpos:0<a.toList.count false:=List.count_pos_iff.2 (by rw[<-b];exact ql _);unfold UR;rw[Array.toList_setIfInBounds,List.count_set (h:=by simpa using hi),b];have c:(if(false==false)=true then 1 else 0)=1:=rfl;have d:(if(true==false)=true then 1 else 0)=0:=rfl;rw[c,d];omega
theorem P2 (d:FA ops=true) {a:Array Bool} (hs:a.size=ops.size) (g:Region.ready .any ops a=[]):∀i,i<ops.size->a.getD i false=true:=by
 intro i
 induction i using Nat.strongRecOn with
 | _ i ih =>
  intro hi;cases h:a.getD i false with
  | true=>rfl
  | false =>
   exfalso;have b:ops[i]? = some ops[i]:=by simp[hi]
   have:i∈Region.ready .any ops a:=mem_ready.2 ⟨by rw[Gc (by omega)]at h ⊢;exact h,ops[i],b,λe f hb=>by
    have c:=N9 d b e f hb;exact ih e.on c (by omega)⟩
   rw[g]at this;cases this
theorem N3 {a:Array Bool} (hs:a.size=ops.size) (h:UR a=0):Region.ready .any ops a=[]:=by
 cases e:Region.ready .any ops a with
 | nil=>rfl
 | cons i l=>
  exfalso;obtain⟨b,o,d,_⟩:=mem_ready.1 (show i∈Region.ready .any ops a by rw[e];simp);have hlt:=(qp.1 d).1;have c:a.getD i false=false:=by rw[Gc (by omega)]at b ⊢;exact b
  have:=Jm (by omega) c;omega
theorem TI (G:Qn E P N ops f0 h0 n0 n rs) {c0:Cx} {Qr:Exit->Act->World->Prop}
 (x:∀g a',Bn (EV (rs.map CR.hw) (λq=>decide (q<ops.size)) 0 h0) g->Sa E N (EV (rs.map CR.tw) (λq=>decide (q<ops.size)) 0 f0) g a'->Fr n g->DZ c0 g->(∀j,j<n0->g.ρ j=c0.ρ j)->Qr .normal a' g.w):
 ∀(d:Nat) (b:Array Bool) (c:Cx) (a:Act),At E P N ops f0 h0 n0 n rs c0 b c a->UR b=d->wpAnyIn E.fc 0 P .any ops Qr d b a c.w:=by
 have done:∀(b:Array Bool) (c:Cx) (a:Act),At E P N ops f0 h0 n0 n rs c0 b c a->Region.ready .any ops b=[]->Qr .normal a c.w:=by
  intro b c a A s;have h:=P2 G.stat A.size s;have e:∀{α:Type} (l:List (List (Nat×α))) (f:Nat->α),l.length=ops.size->EV l (λq=>b.getD q false) 0 f=EV l (λq=>decide (q<ops.size)) 0 f:=λl f hl=>by
   funext k;refine HE λq w _ hw p=>?_;have z:=(qo.1 hw).1;rw[kF]at z;rw[h q (by omega)]at p;simp[show q<ops.size by omega]at p
  have R:=A.rel;have F:=A.fr;rw[e _ _ (by simp[G.len])]at R F;exact x c a R F A.free A.ext A.same
 intro d
 induction d with
 | zero=>
  intro b c a A t;have s:=N3 A.size t;exact⟨s,done b c a A s⟩
 | succ d ih=>
  intro b c a A t;refine⟨done b c a A,λi hi=>?_⟩;obtain⟨r,o,y,_⟩:=mem_ready.1 hi;have m:=(qp.1 y).1;have v:b.getD i false=false:=by rw[Gc (by rw[A.size];exact m)]at r ⊢;exact r
  have hu:=Jm (by rw[A.size];exact m) v;exact Rl G A hi λg a' u=>ih _ g a' u (by omega)
theorem QH (G:Qn E P N ops f0 h0 n0 n rs) (x:P.follows .mixedOrders=true) {id:Nat} {c:Cx} {a:Act} {Qr:Exit->Act->World->Prop} (hn:n0<=n) (I:E.inv c) (R:Bn h0 c) (F:Fr n0 c) (A:Sa E N f0 c a)
 (u:∀d a',Bn (EV (rs.map CR.hw) (λq=>decide (q<ops.size)) 0 h0) d->Sa E N (EV (rs.map CR.tw) (λq=>decide (q<ops.size)) 0 f0) d a'->Fr n d->Fq n0 c n d->Qr .normal a' d.w):
 (Code.region id ops true).wpIn E.fc 0 P Qr a c.w:=by
 refine wpIn_region_any x ?_;have h:∀i,(Array.replicate ops.size false).getD i false=false:=λi=>by
  rw[qZ];by_cases hi:i<ops.size<;>simp[hi]
 have b:∀{α:Type} (l:List (List (Nat×α))) (f:Nat->α),EV l (λq=>(Array.replicate ops.size false).getD q false) 0 f=f:=λl f=>by
  funext k;exact RT λq w _ g=>by rw[h]at g;cases g
 have:=TI G (c0:=c) (Qr:=Qr) (λd a' p m e E' s=>u d a' p m e ⟨E',hn,s⟩) ops.size (Array.replicate ops.size false) c.drew a
  ⟨by simp,λi o _ hl=>(by rw[h]at hl;cases hl),E.ext c.drew_ext I,(by rw[b];exact R.drew),(by rw[b];exact⟨A.size,A.defers.mono c.drew_ext,λt=>kR c.drew_ext (A.val t)⟩),λj hj=>F j (by omega),c.drew_ext,λ_ _=>rfl,
   λi r y _ k v=>F k (G.newlo i r y k v).1⟩ (by simp[UR])
 exact this
def DG (a b:List Nat):Bool:=a.all λx=>!b.contains x
theorem I0 {a b:List Nat} (h:DG a b=true):∀k∈a,k∉b:=λk c hb=>by
 have:=jj.1 h k c;simp at this;exact this hb
def Hh (ops:Array Oper) (i:Nat) (r:CR):Nat->List CR->Bool
 | _,[]=>true
 | j,q::qs=>((DG (Aq q.wr) r.foot&&DG (Aq r.wr) q.foot&&DG (Aq q.new) r.foot)||Ex ops j i)&&Hh ops i r (j+1) qs
def E7 (E:B6) (P:Program) (ops:Array Oper) (Q:SA->Hp->Nat->Prop):List Oper->List CR->SA->Hp->Nat->Prop
 | [],_,sa,h,n=>Q sa h n
 | o :: rest, tr, sa, h, n =>
  match Dg ops sa o with
  | none=>False
  | some b =>
   if b=true then
   match o.op with
   | .call { callee := .value f, args, .. } =>
    match callee (Gp sa f) (args.toList.map (Gp sa))with
    | some (g,aS)=>∃foot wr v,K8 E P g aS foot wr v h/\(∀k∈Aq wr,k∈foot)/\(∀k∈foot,k<n)/\Hh ops tr.length { dst:=o.dst,val:=v,foot:=foot,wr:=wr } 0 tr=true/\
     E7 E P ops Q rest (tr++[{ dst:=o.dst,val:=v,foot:=foot,wr:=wr }]) (EB sa o.dst v) (CN h wr) n
    | none=>False
   | op =>
    match dV P (Gp sa) h n op with
    | some out=>
     (∀k∈Aq out.upd.toList++Ek (Gp sa) op,k<n)/\Hh ops tr.length { dst:=o.dst,val:=out.val,foot:=Aq out.upd.toList++Ek (Gp sa) op,wr:=out.upd.toList,new:=(out.new.map λx=>(n,some x)).toList } 0 tr=true/\
     E7 E P ops Q rest (tr++[{ dst:=o.dst,val:=out.val,foot:=Aq out.upd.toList++Ek (Gp sa) op,wr:=out.upd.toList,new:=(out.new.map λx=>(n,some x)).toList }]) (EB sa o.dst out.val) (out.app h n) (if out.new.isSome then n+1 else n)
    | none=>∃v,OU P (Gp sa) o v/\Hh ops tr.length { dst:=o.dst,val:=v } 0 tr=true/\E7 E P ops Q rest (tr++[{ dst:=o.dst,val:=v }]) (EB sa o.dst v) h n
   else E7 E P ops Q rest (tr++[{ dst:=o.dst,val:=.tup [] }]) (EB sa o.dst (.tup [])) h n
theorem JB {α:Type} {D:Nat->Bool} {b:List (List (Nat×α))}:∀{a:List (List (Nat×α))} {i:Nat} {f:Nat->α},EV (a++b) D i f=EV b D (i+a.length) (EV a D i f)
 | [],i,f=>rfl
 | w::a,i,f=>by
  simp only[qz,EV,qF];rw[JB,show i+1+a.length=i+(a.length+1)by omega]
theorem K6 {α:Type} {l:List (List (Nat×α))} {w:List (Nat×α)} {i:Nat} {f:Nat->α} (hi:i<=l.length):EV (l++[w]) (λq=>decide (q<i)) 0 f=EV l (λq=>decide (q<i)) 0 f:=by
 rw[JB];simp only[EV,jc];rw[if_neg (by simp;omega)]
theorem Pd {α:Type} {l:List (List (Nat×α))} {w:List (Nat×α)} {f:Nat->α}:EV (l++[w]) (λq=>decide (q<l.length+1)) 0 f=CN (EV l (λq=>decide (q<l.length)) 0 f) w:=by
 rw[JB];simp only[EV,jc];rw[if_pos (by simp)];congr 1;funext k;refine HE λq v _ c a=>?_;have b:=(qo.1 c).1;rw[kF]at b;simp[b,show q<l.length+1 by omega]at a
structure Vr (E:B6) (P:Program) (N:Nat) (ops:Array Oper) (f0:Nat->SV) (h0:Hp) (n0 n:Nat) (tr:List CR) (f:Nat->SV) (h:Hp):Prop where
 le:n0<=n
 fr:f=EV (tr.map CR.tw) (λq=>decide (q<tr.length)) 0 f0
 hp:h=EV (tr.map CR.hw) (λq=>decide (q<tr.length)) 0 h0
 ok:∀(i:Nat) (o:Oper) (r:CR),ops[i]? = some o->tr[i]? = some r->r.dst=o.dst/\(∀j∈Aq r.wr,j∈r.foot)/\
  ((Fu ops (EV (tr.map CR.tw) (λq=>decide (q<i)) 0 f0) o=some false/\r.val=.tup []/\r.foot=[]/\r.wr=[]/\r.new=[])\/
   (Fu ops (EV (tr.map CR.tw) (λq=>decide (q<i)) 0 f0) o=some true/\
    ∀m,n<=m->Ju E P N o (EV (tr.map CR.tw) (λq=>decide (q<i)) 0 f0) (EV (tr.map CR.hw) (λq=>decide (q<i)) 0 h0) m r))
 ind:∀(i j:Nat) (ri rj:CR),j<i->tr[i]? = some ri->tr[j]? = some rj->Ex ops j i=false->
  (∀k∈Aq rj.wr,k∉ri.foot)/\(∀k∈Aq ri.wr,k∉rj.foot)/\(∀k∈Aq rj.new,k∉ri.foot)
 newlo:∀(i:Nat) (r:CR),tr[i]? = some r->∀k∈Aq r.new,n0<=k/\k<n
 newne:∀(i j:Nat) (ri rj:CR),i≠j->tr[i]? = some ri->tr[j]? = some rj->∀k∈Aq ri.new,k∉Aq rj.new
 footlo:∀(i:Nat) (r:CR),tr[i]? = some r->∀k∈r.foot,k<n
 newfoot:∀(i j:Nat) (ri rj:CR),j<=i->tr[i]? = some ri->tr[j]? = some rj->∀k∈Aq ri.new,k∉rj.foot
theorem LZ {i:Nat} {r:CR}:∀{c:List CR} {a:Nat},Hh ops i r a c=true->∀(j:Nat) (q:CR),c[j]? = some q->Ex ops (a+j) i=false->
 (∀k∈Aq q.wr,k∉r.foot)/\(∀k∈Aq r.wr,k∉q.foot)/\(∀k∈Aq q.new,k∉r.foot)
 | [],_,_,j,q,hq,_=>by simp at hq
 | x :: c, a, h, j, q, hq, hd => by
  simp only[Hh,qq]at h;cases j with
  | zero=>
   simp only[jG,qh]at hq;subst hq;rw[jJ]at hd;have b:=h.1;rw[hd,Bool.or_false,qq,qq]at b;exact⟨I0 b.1.1,I0 b.1.2,I0 b.2⟩
  | succ j=>exact LZ h.2 j q (by simpa using hq) (by rw[show a+1+j=a+(j+1)by omega];exact hd)
theorem Vr.snoc {d:List CR} {f:Nat->SV} {h:Hp} {n n':Nat} (A:Vr E P N ops f0 h0 n0 n d f h) {o:Oper} (R:ops[d.length]? = some o) {r:CR} (hn:n<=n') (F:r.dst=o.dst) (K:∀k∈Aq r.wr,k∈r.foot)
 (v:∀k∈r.foot,k<n) (c:∀k∈Aq r.new,n<=k/\k<n') (H:Hh ops d.length r 0 d=true)
 (J:(Fu ops f o=some false/\r.val=.tup []/\r.foot=[]/\r.wr=[]/\r.new=[])\/(Fu ops f o=some true/\∀m,n'<=m->Ju E P N o f h m r)):
 Vr E P N ops f0 h0 n0 n' (d++[r]) (CN f r.tw) (CN h r.hw):=by
 have C:∀{α:Type} (g:CR->List (Nat×α)),(d++[r]).map g=d.map g++[g r]:=λg=>by simp
 have hl:∀{α:Type} (g:CR->List (Nat×α)),(d.map g).length=d.length:=λg=>by simp
 have get:∀{i:Nat} {q:CR},(d++[r])[i]? = some q->(i<d.length/\d[i]? = some q)\/(i=d.length/\q=r):=fun {i q} h=>by
  rw[List.getElem?_append]at h;split at h;exact .inl ⟨by assumption,h⟩;rename_i hi;have:=(qo.1 h).1;simp at this;have e:i=d.length:=by omega
  subst e;simp at h;exact .inr ⟨rfl,h.symm⟩
 refine⟨qr A.le hn,?_,?_,λi S u D a=>?_,λi j u z B a b L=>?_,λi u a k t=>?_,λi j u z G a b k t=>?_,λi u a k t=>?_,λi j u z B a b k t=>?_⟩;rw[C,qt,List.length_singleton];have:=Pd (l:=d.map CR.tw) (w:=r.tw) (f:=f0);rw[hl]at this;rw[this,<-A.fr];rw[C,qt,List.length_singleton];have:=Pd (l:=d.map CR.hw) (w:=r.hw) (f:=h0);rw[hl]at this;rw[this,<-A.hp];rcases get a with⟨hi,a⟩|⟨rfl,rfl⟩
 obtain⟨M,O,Q⟩:=A.ok i S u D a;rw[C,C,K6 (by rw[hl];omega),K6 (by rw[hl];omega)];refine⟨M,O,Q.imp id λ⟨x,y⟩=>⟨x,λm C=>y m (by omega)⟩⟩;rw[R]at D;cases D;rw[C,C,K6 (by rw[hl];omega),K6 (by rw[hl];omega),<-A.fr,<-A.hp];exact⟨F,K,J⟩;rcases get a with⟨hi,a⟩|⟨rfl,rfl⟩
 rcases get b with⟨I,b⟩|⟨rfl,rfl⟩
 exact A.ind i j u z B a b L;omega;rcases get b with⟨I,b⟩|⟨rfl,rfl⟩
 exact LZ H j z b (by rw[jc];exact L);omega;rcases get a with⟨hi,a⟩|⟨rfl,rfl⟩
 have:=A.newlo i u a k t;omega;have:=c k t;have:=A.le;omega;rcases get a with⟨hi,s⟩|⟨rfl,rfl⟩
 rcases get b with⟨I,p⟩|⟨rfl,rfl⟩
 exact A.newne i j u z G s p k t;intro h2;have:=A.newlo i u s k t;have:=c k h2;omega;rcases get b with⟨I,p⟩|⟨rfl,rfl⟩
 intro h2;have:=A.newlo j z p k h2;have:=c k t;omega;exact absurd rfl G;rcases get a with⟨hi,s⟩|⟨rfl,rfl⟩
 have:=A.footlo i u s k t;omega;have:=v k t;omega;rcases get a with⟨hi,s⟩|⟨rfl,rfl⟩
 rcases get b with⟨I,p⟩|⟨rfl,rfl⟩
 exact A.newfoot i j u z B s p k t;omega;rcases get b with⟨I,p⟩|⟨rfl,rfl⟩
 intro h2;have:=A.footlo j z p k h2;have:=c k t;omega;intro h2;have:=v k h2;have:=c k t;omega
end
section
variable {E : B6} {P : Program} {N : Nat} {ops : Array Oper} {f0 : Nat → SV} {h0 : Hp} {n0 n : Nat}
theorem Je (sa:SA) (dst:Option Tmp) (v:SV) (r:CR) (a:r.dst=dst) (b:r.val=v):Ai (EB sa dst v)=CN (Ai sa) r.tw:=by
 funext t;unfold CR.tw;rw[a,b];cases dst with
 | none=>rfl
 | some d=>
  show(if d=t then v else Ai sa t)=if t=d then v else Ai sa t
  by_cases e:d=t;rw[if_pos e,if_pos e.symm];rw[if_neg e,if_neg (Ne.symm e)]
theorem kA (h:Hp) (k:Nat) (out:dW) (r:CR) (hw:r.wr=out.upd.toList) (hn:r.new=(out.new.map λx=>(k,some x)).toList):out.app h k=CN h r.hw:=by
 unfold CR.hw dW.app;rw[hw,hn];cases out.upd with
 | none=>cases out.new<;>rfl
 | some p=>obtain⟨j,x⟩:=p;cases out.new<;>rfl
theorem Sa.ev {f:Nat->SV} {c:Cx} {a:Act} (F:Sa E N f c a) (x:Operand):V c (Nn f x) (a.eval x):=by
 cases x with
 | tmp t=>exact F.val t
 | const v=>exact C9 c v
 | global g=>simp[Nn,V]
 | func g=>simp[Nn,Act.eval,V,VL]
theorem Qd {ev:Operand->SV} {h:Hp} {k q:Nat} {i:Op} {out:dW} (a:dV P ev h k i=some out) (hn:out.new=none):dV P ev h q i=some out:=by
 cases i with
 | alloc e=>simp only[dV]at a;split at a<;>cases a;cases hn
 | box e x=>simp only[dV]at a;split at a<;>cases a;cases hn
 | buildSlice t l ps=>
  simp only[dV]at a;split at a<;>try cases a
  split at a<;>try cases a
  simp only[Option.bind_eq_some_iff]at a;obtain⟨cs,_,e⟩:=a;cases e;cases hn
 | makeMap t r=>simp only[dV]at a;split at a<;>cases a;cases hn
 | makeSlice t l c=>
  simp only[dV]at a;split at a<;>try cases a
  split at a<;>try cases a
  cases hn
 | call cl =>
  obtain⟨callee,args,ts⟩:=cl;cases callee with
  | value f=>exact a
  | invoke r m=>exact a
  | builtin b=>
   simp only[dV]at a ⊢;unfold AU at a ⊢;split at a<;>try exact a
   split at a
   rotate_left
   . exfalso;unfold FO at a;split at a<;>try cases a
     split at a<;>cases a;cases hn
   rename_i d;rw[if_pos d];unfold Cm at a ⊢;split at a<;>try cases a
   rename_i e he;simp only at a;split at a<;>try cases a
   rename_i m ys j g;simp only[];split at a<;>try cases a
   rename_i hc;rw[if_neg hc];split at a;rename_i h0;rw[if_pos h0];exact a
   . exfalso;split at a;split at a<;>cases a;cases hn
     . split at a<;>try cases a
       split at a<;>cases a;cases hn
     cases a
 | _=>exact a
theorem OA {o:Oper} {f:Nat->SV} {h:Hp} {out:dW} (w:dV P (Nn f) h n o.op=some out) {m:Nat} (G:(if out.new.isSome then n+1 else n)<=m):
 Ju E P N o f h m { dst:=o.dst,val:=out.val,foot:=Aq out.upd.toList++Ek (Nn f) o.op,wr:=out.upd.toList,new:=(out.new.map λx=>(n,some x)).toList }:=by
 intro f' h' c a Kr Qr v D I R F l A C;refine⟨λ_ _=>trivial,?_⟩;have g:out.app h' n=CN h' (CR.hw { dst:=o.dst,val:=out.val,foot:=Aq out.upd.toList++Ek (Nn f) o.op,wr:=out.upd.toList,new:=(out.new.map λx=>(n,some x)).toList }):=kA h' n out _ rfl rfl;have p:dV P (Nn f') h' n o.op=some out:=by
  rw[<-w];refine(SO (λx r=>(v x r).symm) λj i=>?_).symm;exact(D j (qe.2 (.inr i))).symm
 by_cases hn:out.new.isSome=true;obtain⟨x,r⟩:=jn.1 hn;have B:c.ρ n=none:=l n (by show n∈Aq ((out.new.map λx=>(n,some x)).toList);rw[r];simp[Aq]);obtain⟨u,t,d,z,s,X,hρ⟩:=KN (ev:=a.eval) p R B λx _=>A.ev x;have:=C t u z (g▸s) (λj i=>by
  rw[hρ j (.inr (by rw[if_pos hn]at G;omega))];exact F j i) X (λj i=>hρ j (.inr λe=>i (by subst e;show j∈Aq ((out.new.map λx=>(j,some x)).toList);rw[r];simp[Aq])))
 rw[Oper.semAt_eq _ _ _ (IK w)];rcases d with d|⟨rfl,d⟩<;>(rw[d];exact this)
 have b:out.new=none:=by cases h:out.new<;>simp[h]at hn ⊢
 have free:∃q,c.ρ q=none:=⟨m,F m (qa _)⟩
 obtain⟨q,H⟩:=free;have y:dV P (Nn f') h' q o.op=some out:=Qd p b;obtain⟨u,t,d,z,s,X,hρ⟩:=KN (ev:=a.eval) y R H λx _=>A.ev x;have k:out.app h' q=out.app h' n:=by unfold dW.app;rw[b]
 have:=C t u z (g▸k▸s) (λj i=>by
  rw[hρ j (.inl (by simp[b]))];exact F j i) X (λj i=>hρ j (.inl (by simp[b])))
 rw[Oper.semAt_eq _ _ _ (IK w)];rcases d with d|⟨rfl,d⟩<;>(rw[d];exact this)
theorem Pq {o:Oper} {f:Nat->SV} {h:Hp} {x:Operand} {args:Array Operand} {Z:Array TypeId} {g:FuncId} {aS:List SV} {foot:List Nat} {wr:List (Nat×Option BT)} {v:SV}
 (r:o.op=.call { callee:=.value x,args:=args,argTypes:=Z }) (hc:callee (Nn f x) (args.toList.map (Nn f))=some (g,aS)) (T:K8 E P g aS foot wr v h) {m:Nat}:
 Ju E P N o f h m { dst:=o.dst,val:=v,foot:=foot,wr:=wr }:=by
 intro f' h' c a Kr Qr n W I R F hnew A S;refine⟨λ_ _=>trivial,?_⟩;have s:Nn f' x=Nn f x:=n x (by rw[r];simp[Op.operands,Call.operands]);have t:args.toList.map (Nn f')=args.toList.map (Nn f):=jT λy Y=>n y (by rw[r];simp[Op.operands,Call.operands];exact .inr (by simpa using Y));have b:=T h' m W;have B:=A.ev x;rw[s]at B;unfold callee at hc;split at hc<;>try cases hc
 rename_i g' y z O;rw[O,V]at B;obtain⟨xs,ys,C,Q,h2⟩:=B;have i:AZ (V c) (y++args.toList.map (Nn f)++z) (xs++(args.map a.eval).toList++ys):=by
  rw[<-t];exact jS (jS (BN.1 Q) (Gg args λw _=>A.ev w)) (BN.1 h2)
 obtain⟨d,b⟩:=b;have hc:=b c _ I R F i;unfold Kk at d;cases k:P.funcs[g]? with
 | none=>simp[k]at d
 | some fn =>
  simp only[k,qq,bne_iff_ne,ne_eq]at d;have p:(execOp a.eval o).run P c.w=.ok (.enter g (xs.toArray++args.map a.eval++ys.toArray)) c.w:=by
   have hb:fn.body≠none:=by intro e;simp[e]at d
   simp[execOp,r,resolve,Deferred.ofValue,C,invoke,callFunc,k,d.2,hb]
  have l:xs.toArray++args.map a.eval++ys.toArray=(xs++(args.map a.eval).toList++ys).toArray:=by
   apply Array.ext';simp
  rw[Oper.semAt_eq _ _ _ (by rw[r];simp),p,Oper.uponIn_enter,l];refine⟨λh=>by simp[B6.fc,Fence.wide]at h,(callsIn_wide.2 (hc.mono λe w' ⟨u,v',h2',n',M,U,⟨H,D,G⟩,hw,X,L,K,J⟩=>?_):CallsIn Fence.wide _ P g _ c.w _)⟩;subst U;subst hw;subst H;subst D;subst G;refine S M u X (by simpa[CR.hw]using L) K J.ext λj _=>?_;rcases ji j n' with q|q;exact J.same j q;rw[F j q,K j q]
theorem Qg {o:Oper} {f:Nat->SV} {h:Hp} {v:SV} (H:OU P (Nn f) o v) {m:Nat}:Ju E P N o f h m { dst:=o.dst,val:=v }:=by
 intro f' h' c a Kr Qr b hh I R F hnew A d;refine⟨λ_ _=>trivial,?_⟩;rw[Oper.semAt_eq _ _ _ H.1];obtain⟨u,e,g⟩:=H.2 c a.eval (λ_=>rfl) λx i=>by rw[<-b x i];exact A.ev x
 rw[e];exact d c u g (by simpa[CR.hw,CN]using R) F (kZ c) λ_ _=>rfl
theorem Fj {Q:SA->Hp->Nat->Prop}:∀(rest:List Oper) (tr:List CR) (sa:SA) (h:Hp) (n:Nat),Vr E P N ops f0 h0 n0 n tr (Ai sa) h->ops.toList.drop tr.length=rest->tr.length<=ops.size->
 E7 E P ops Q rest tr sa h n->∃rs sa' h' n',Vr E P N ops f0 h0 n0 n' rs (Ai sa') h'/\rs.length=ops.size/\Q sa' h' n'
 | [],tr,sa,h,n,A,hd,hle,H=>⟨tr,sa,h,n,A,by have:=List.drop_eq_nil_iff.1 hd;simp at this;omega,H⟩
 | o :: rest, tr, sa, h, n, A, hd, hle, H => by
  have hlt:tr.length<ops.size:=by
   rcases ji tr.length ops.size with h|h;exact h;rw[kj (by simpa using h)]at hd;cases hd
  have ho:ops[tr.length]? = some o:=by
   have:(ops.toList.drop tr.length)[0]? = some o:=by rw[hd];rfl
   rw[qY]at this;simpa using this
  have hd':∀r:CR,ops.toList.drop (tr++[r]).length=rest:=λr=>by
   rw[qt,List.length_singleton,<-List.drop_drop,hd];rfl
  have hle':∀r:CR,(tr++[r]).length<=ops.size:=λr=>by simp;omega
  have plain:∀out,dV P (Gp sa) h n o.op=some out->
   ((∀k∈Aq out.upd.toList++Ek (Gp sa) o.op,k<n)/\Hh ops tr.length { dst:=o.dst,val:=out.val,foot:=Aq out.upd.toList++Ek (Gp sa) o.op,wr:=out.upd.toList,new:=(out.new.map λx=>(n,some x)).toList } 0 tr=true/\
     E7 E P ops Q rest (tr++[{ dst:=o.dst,val:=out.val,foot:=Aq out.upd.toList++Ek (Gp sa) o.op,wr:=out.upd.toList,new:=(out.new.map λx=>(n,some x)).toList }]) (EB sa o.dst out.val) (out.app h n) (if out.new.isSome then n+1 else n))->
   Dg ops sa o=some true->∃rs sa' h' n',Vr E P N ops f0 h0 n0 n' rs (Ai sa') h'/\rs.length=ops.size/\Q sa' h' n':=λout hs ⟨h1,h2,h3⟩ hg=>by
   refine Fj rest _ _ _ _ ?_ (hd' _) (hle' _) h3;have:=A.snoc (n':=if out.new.isSome then n+1 else n) ho (r:={ dst:=o.dst,val:=out.val,foot:=Aq out.upd.toList++Ek (Gp sa) o.op,wr:=out.upd.toList,new:=(out.new.map λx=>(n,some x)).toList })
    (by split<;>omega) rfl (λk hk=>qe.2 (.inl hk)) h1 (λk hk=>by
      cases hn:out.new with
      | none=>rw[hn]at hk;simp[Aq]at hk
      | some x=>rw[hn]at hk;simp[Aq]at hk;subst hk;simp) h2
    (.inr ⟨by rw[<-Id];exact hg,λm hm=>by rw[QI]at hs ⊢;exact OA hs hm⟩)
   rw[Je sa o.dst out.val { dst:=o.dst,val:=out.val,foot:=Aq out.upd.toList++Ek (Gp sa) o.op,wr:=out.upd.toList,new:=(out.new.map λx=>(n,some x)).toList } rfl rfl,
    kA h n out { dst:=o.dst,val:=out.val,foot:=Aq out.upd.toList++Ek (Gp sa) o.op,wr:=out.upd.toList,new:=(out.new.map λx=>(n,some x)).toList } rfl rfl]
   exact this
  simp only[E7]at H;split at H
  case h_1=>exact H.elim
  rename_i b hg;cases b
  case false=>
   simp only[qj,if_false]at H;refine Fj rest _ _ _ _ ?_ (hd' _) (hle' _) H;have:=A.snoc (n':=n) ho (r:={ dst:=o.dst,val:=.tup [] }) (qa _) rfl (by simp[Aq]) (by simp) (by simp[Aq]) (by
    have:∀(l:List CR) (j:Nat),Hh ops tr.length { dst:=o.dst,val:=.tup [] } j l=true:=by
     intro l
     induction l with
     | nil=>intro j;rfl
     | cons q l ih=>
      intro j;simp only[Hh,ih,Bool.and_true];have d1:∀a:List Nat,DG a []=true:=λa=>by simp[DG]
      rw[d1,d1];simp[DG,Aq]
    exact this tr 0) (.inl ⟨by rw[<-Id];exact hg,rfl,rfl,rfl,rfl⟩)
   rw[Je sa o.dst (.tup []) { dst:=o.dst,val:=.tup [] } rfl rfl];exact this
  case true=>
   rw[if_pos rfl]at H;split at H;rename_i f args ts hop;split at H;rename_i g aS hc;obtain⟨foot,wr,v,hU,hwf,hfoot,hind,hrest⟩:=H;refine Fj rest _ _ _ _ ?_ (hd' _) (hle' _) hrest;have:=A.snoc (n':=n) ho (r:={ dst:=o.dst,val:=v,foot:=foot,wr:=wr }) (qa _) rfl hwf hfoot (by simp[Aq]) hind
    (.inr ⟨by rw[<-Id];exact hg,λm _=>by rw[QI]at hc;exact Pq hop hc hU⟩)
   rw[Je sa o.dst v { dst:=o.dst,val:=v,foot:=foot,wr:=wr } rfl rfl];simpa[CR.hw]using this;exact H.elim;split at H;rename_i out hs;exact plain out hs H hg;obtain⟨v,hV,hind,hrest⟩:=H;refine Fj rest _ _ _ _ ?_ (hd' _) (hle' _) hrest;have:=A.snoc (n':=n) ho (r:={ dst:=o.dst,val:=v }) (qa _) rfl (by simp[Aq]) (by simp) (by simp[Aq]) hind
    (.inr ⟨by rw[<-Id];exact hg,λm _=>by rw[QI]at hV;exact Qg hV⟩)
   rw[Je sa o.dst v { dst:=o.dst,val:=v } rfl rfl];simpa[CR.hw,CN]using this
theorem Sm {id:Nat} {Q:dO} {sa:SA} {h:Hp} {n:Nat} (C:P.follows .mixedOrders=true) (m:FA ops=true) (H:E7 E P ops (Q .normal) ops.toList [] sa h n):Fs E P N (.region id ops true) Q sa h n:=by
 intro s c a I R F A;simp only[Code.dok,jj]at s;have k:∀(i:Nat) (o:Oper),ops[i]? = some o->∀d,o.dst=some d->d<N:=λi o l d e=>by
  have:=s o (by simpa using Array.mem_of_getElem? l);rw[e]at this;simpa using this
 have t:Vr E P N ops (Ai sa) h n n [] (Ai sa) h:=
  ⟨qa _,rfl,rfl,by simp,by simp,by simp,by simp,by simp,by simp⟩
 obtain⟨rs,p,h',n',f,b,D⟩:=Fj (N:=N) ops.toList [] sa h n t rfl (qg _) H;have G:Qn E P N ops (Ai sa) h n n' rs:=
  ⟨b,m,k,λi o r l J=>by
   obtain⟨v,w,B⟩:=f.ok i o r l J;exact⟨v,w,B.imp (λz=>z) λ⟨x,y⟩=>⟨x,y n' (qa _)⟩⟩,f.ind,f.newlo,f.newne,f.newfoot⟩
 refine QH G C f.le I R F ⟨A.size,A.defers,A.val⟩ λu a' q g j E'=>?_;rw[<-b,<-f.hp]at q;rw[<-b,<-f.fr]at g;exact⟨p,h',n',u,D,rfl,q,j,⟨g.size,g.defers,g.val⟩,E'⟩
end
def Fk (E:B6) (P:Program) (N:Nat):Code->dO->SA->Hp->Nat->Prop
 | .skip,Q,sa,h,n=>Q .normal sa h n
 | .seq a b,Q,sa,h,n=>Fk E P N a (DX (Fk E P N b Q) Q) sa h n
 | .cond c a b,Q,sa,h,n=>match Gp sa c with|.bool t=>if t=true then Fk E P N a Q sa h n else Fk E P N b Q sa h n|_=>False
 | .block id b,Q,sa,h,n=>Fk E P N b (FP id Q) sa h n
 | .exit id,Q,sa,h,n=>Q (.exit id) sa h n
 | .ret,Q,sa,h,n=>Q .ret sa h n
 | .region _ ops false,Q,sa,h,n=>IL E P ops (Q .normal) ops.toList sa h n
 | .region _ ops true,Q,sa,h,n=>FA ops=true/\E7 E P ops (Q .normal) ops.toList [] sa h n
 | .loop b,Q,sa,h,n=>Fs E P N (.loop b) Q sa h n
 | .rangeFunc g ps a b,Q,sa,h,n=>Fs E P N (.rangeFunc g ps a b) Q sa h n
 | _,_,_,_,_=>False
theorem FX {K a:SA->Hp->Nat->Prop} {Q:dO} (b:∀sa h n,K sa h n->a sa h n):∀e sa h n,DX K Q e sa h n->DX a Q e sa h n:=by
 intro e sa h n H;cases e<;>first|exact b _ _ _ H|exact H
theorem Eo {E:B6} {P:Program} {N:Nat} (d:P.follows .mixedOrders=true):∀(c:Code) (Q:dO) (sa:SA) (h:Hp) (n:Nat),Fk E P N c Q sa h n->Fs E P N c Q sa h n
 | .skip,Q,sa,h,n,H=>Gv H
 | .seq a b,Q,sa,h,n,H=>JJ (GJ (Eo d a _ sa h n H) (FX λsa h n=>Eo d b Q sa h n))
 | .cond c a b,Q,sa,h,n,H=>by
  simp only[Fk]at H;split at H;rename_i t ht;refine Ah ht ?_;split at H;rename_i e;rw[if_pos e];exact Eo d a Q sa h n H;rename_i e;rw[if_neg e];exact Eo d b Q sa h n H;exact H.elim
 | .block id b,Q,sa,h,n,H=>Mb (Eo d b _ sa h n H)
 | .exit id,Q,sa,h,n,H=>Sn H
 | .ret,Q,sa,h,n,H=>UU H
 | .region _ ops false,Q,sa,h,n,H=>Pz H
 | .region _ ops true,Q,sa,h,n,H=>Sm d H.1 H.2
 | .loop b,Q,sa,h,n,H=>H
 | .rangeFunc _ _ _ _,_,_,_,_,H=>H
 | .scope _,_,_,_,_,H=>H.elim
 | .label _,_,_,_,_,H=>H.elim
 | .goto _,_,_,_,_,H=>H.elim
 | .refuse _,_,_,_,_,H=>H.elim
def Is (v:SV) (h:Hp) (n:Nat):SV->Hp->Nat->Prop:=λv' h' n'=>v'=v/\h'=h/\n'=n
def Fy (P:Program) (f:FuncId) (args:List SV) (v:SV):Prop:=∀h n,BA P f args h n (Is v h n)
theorem Fy.use {E:B6} {P:Program} {f:FuncId} {args:List SV} {v:SV} (H:Fy P f args v) {h:Hp} {n:Nat} {K:SV->Hp->Nat->Prop} (d:K v h n):Ak E P f args h n K:=
 Ak.lift<|(H h n).mono λ_ _ _ ⟨a,b,c⟩=>by subst a;subst b;subst c;exact d
theorem Fy.u {E:B6} {P:Program} {f:FuncId} {args:List SV} {v:SV} (H:Fy P f args v) (h:Hp):K8 E P f args [] [] v h:=
 λh' n _=>Ak.lift<|(H h' n).mono λ_ _ _ ⟨a,b,c⟩=>⟨a,b,c⟩
theorem Ra {E:B6} {P:Program} (e:P.follows .mixedOrders=true) {f:FuncId} {fn:Func} {code:Code} {args:List SV} {h:Hp} {n:Nat} {K:SV->Hp->Nat->Prop} (d:P.funcs[f]? = some fn) (hb:fn.body=some code)
 (hn:(fn.name != "runtime.NumGoroutine")=true) (c:Code.dok fn.ntmps code=true) (hl:args.length<=fn.ntmps)
 (H:(∀a∈args,closed n a=true)->(∀o x,h o=some x->o<n/\BQ n x=true)->Fk (E.call false 0) P fn.ntmps code (MT P fn n K) (Ec 0 args) h n):Ak E P f args h n K:=
 Ma d hb hn c hl λb h2=>Eo e _ _ _ _ _ (H b h2)
theorem B8.plain {n:Nat} {h h':Hp} {n':Nat} {v:SV} {K:SV->Hp->Nat->Prop} (hc:closed n v=true) (c:∀o x,h o=some x->o<n/\BQ n x=true) (a:∀o x,h o=some x->h' o=some x) (b:K v h n):B8 n h' n' v K:=
 .inr ⟨0,v,h,rfl,hc,λo x e=>⟨a o x e,c o x e⟩,b⟩
abbrev swp:=Fk B6.plain
abbrev TY (k sz b:Nat) (ag:Option Bool) (sl:Option TypeId) (ar:Option (Nat×TypeId)) (mp:Option (TypeId×TypeId)) (st:Bool) (i:Option IntKind) (bo pt:Bool) (ze:SV):Prop:=
 Bh Tryz.prog k=sz/\BY Tryz.prog k=b/\Fm Tryz.prog k=ag/\A9 Tryz.prog k=sl/\JF Tryz.prog k=ar/\Ko Tryz.prog k=mp/\FC Tryz.prog k=st/\Jl Tryz.prog k=i/\MA Tryz.prog k=bo/\UF Tryz.prog k=pt/\BH Tryz.prog k=ze
abbrev TF (k i o t:Nat):Prop:=IR Tryz.prog k i=some (o,t)
@[go_sem] theorem ty3:TY 3 1 8 (some false) none none none false (some .i64) false false (.int .i64 0):=by(repeat' apply And.intro)<;>kernel_rfl
@[go_sem] theorem ty4:TY 4 1 1 (some false) none none none false none true false (.bool false):=by(repeat' apply And.intro)<;>kernel_rfl
@[go_sem] theorem ty5:TY 5 1 1 (some false) none none none false (some .u8) false false (.int .u8 0):=by(repeat' apply And.intro)<;>kernel_rfl
@[go_sem] theorem ty9:TY 9 1 16 (some false) none none none true none false false (.str .empty):=by(repeat' apply And.intro)<;>kernel_rfl
@[go_sem] theorem ty22:TY 22 1 24 (some false) (some 70) none none false none false false (.imm 0 [] true):=by(repeat' apply And.intro)<;>kernel_rfl
@[go_sem] theorem ty23:TY 23 1 24 (some false) (some 193) none none false none false false (.imm 0 [] true):=by(repeat' apply And.intro)<;>kernel_rfl
@[go_sem] theorem ty24:TY 24 1 24 (some false) (some 166) none none false none false false (.imm 0 [] true):=by(repeat' apply And.intro)<;>kernel_rfl
@[go_sem] theorem ty25:TY 25 1 24 (some false) (some 164) none none false none false false (.imm 0 [] true):=by(repeat' apply And.intro)<;>kernel_rfl
@[go_sem] theorem ty27:TY 27 4 64 (some true) none none none false none false false (.agg [.int .i64 0,.int .i64 0,.imm 0 [] true,.imm 0 [] true])/\Bb Tryz.prog 27=some [(0,1),(1,1),(2,1),(3,1)]/\TF 27 0 0 3/\TF 27 1 1 3/\TF 27 2 2 24/\TF 27 3 3 25:=by(repeat' first|apply And.intro|unfold TF)<;>kernel_rfl
@[go_sem] theorem ty29:TY 29 5 88 (some true) none none none false none false false (.agg [.imm 0 [] true,.int .i64 0,.int .i64 0,.imm 0 [] true,.imm 0 [] true])/\Bb Tryz.prog 29=some [(0,1),(1,4)]/\TF 29 0 0 23/\TF 29 1 1 27:=by(repeat' first|apply And.intro|unfold TF)<;>kernel_rfl
@[go_sem] theorem ty30:TY 30 1 24 (some false) (some 42) none none false none false false (.imm 0 [] true):=by(repeat' apply And.intro)<;>kernel_rfl
@[go_sem] theorem ty31:TY 31 1 24 (some false) (some 198) none none false none false false (.imm 0 [] true):=by(repeat' apply And.intro)<;>kernel_rfl
@[go_sem] theorem ty32:TY 32 1 24 (some false) (some 103) none none false none false false (.imm 0 [] true):=by(repeat' apply And.intro)<;>kernel_rfl
@[go_sem] theorem ty33:TY 33 1 24 (some false) (some 115) none none false none false false (.imm 0 [] true):=by(repeat' apply And.intro)<;>kernel_rfl
@[go_sem] theorem ty34:TY 34 1 24 (some false) (some 118) none none false none false false (.imm 0 [] true):=by(repeat' apply And.intro)<;>kernel_rfl
@[go_sem] theorem ty36:TY 36 4 96 (some true) none none none false none false false (.agg [.imm 0 [] true,.imm 0 [] true,.imm 0 [] true,.imm 0 [] true])/\Bb Tryz.prog 36=some [(0,1),(1,1),(2,1),(3,1)]/\TF 36 0 0 31/\TF 36 1 1 32/\TF 36 2 2 33/\TF 36 3 3 34:=by(repeat' first|apply And.intro|unfold TF)<;>kernel_rfl
@[go_sem] theorem ty38:TY 38 11 232 (some true) none none none false none false false (.agg [.imm 0 [] true,.imm 0 [] true,.int .i64 0,.int .i64 0,.imm 0 [] true,.imm 0 [] true,.imm 0 [] true,.imm 0 [] true,.imm 0 [] true,.imm 0 [] true,.imm 0 [] true])/\Bb Tryz.prog 38=some [(0,1),(1,5),(6,1),(7,4)]/\TF 38 0 0 22/\TF 38 1 1 29/\TF 38 2 6 30/\TF 38 3 7 36:=by(repeat' first|apply And.intro|unfold TF)<;>kernel_rfl
@[go_sem] theorem ty40:TY 40 3 24 (some true) none none none false none false false (.agg [.int .i64 0,.int .i64 0,.int .i64 0])/\Bb Tryz.prog 40=some [(0,1),(1,1),(2,1)]/\TF 40 0 0 3/\TF 40 1 1 3/\TF 40 2 2 3:=by(repeat' first|apply And.intro|unfold TF)<;>kernel_rfl
@[go_sem] theorem ty42:TY 42 3 32 (some true) none none none false none false false (.agg [.int .i64 0,.str .empty,.int .i64 0])/\Bb Tryz.prog 42=some [(0,1),(1,1),(2,1)]/\TF 42 0 0 3/\TF 42 1 1 9/\TF 42 2 2 3:=by(repeat' first|apply And.intro|unfold TF)<;>kernel_rfl
@[go_sem] theorem ty44:TY 44 7 64 (some true) none none none false none false false (.agg [.int .i64 0,.int .i64 0,.int .i64 0,.int .i64 0,.int .i64 0,.str .empty,.int .i64 0])/\Bb Tryz.prog 44=some [(0,1),(1,3),(4,3)]/\TF 44 0 0 3/\TF 44 1 1 40/\TF 44 2 4 42:=by(repeat' first|apply And.intro|unfold TF)<;>kernel_rfl
@[go_sem] theorem ty47:TY 47 1 8 (some false) none none none false (some .i64) false false (.int .i64 0):=by(repeat' apply And.intro)<;>kernel_rfl
@[go_sem] theorem ty61:TY 61 1 24 (some false) (some 3) none none false none false false (.imm 0 [] true):=by(repeat' apply And.intro)<;>kernel_rfl
@[go_sem] theorem ty68:TY 68 1 24 (some false) (some 169) none none false none false false (.imm 0 [] true):=by(repeat' apply And.intro)<;>kernel_rfl
@[go_sem] theorem ty70:TY 70 11 176 (some true) none none none false none false false (.agg [.int .i64 0,.int .i64 0,.int .i64 0,.str .empty,.imm 0 [] true,.int .i64 0,.int .i64 0,.imm 0 [] true,.imm 0 [] true,.imm 0 [] true,.imm 0 [] true])/\Bb Tryz.prog 70=some [(0,1),(1,1),(2,1),(3,1),(4,5),(9,1),(10,1)]/\TF 70 0 0 3/\TF 70 1 1 3/\TF 70 2 2 3/\TF 70 3 3 9/\TF 70 4 4 29/\TF 70 5 9 22/\TF 70 6 10 68:=by(repeat' first|apply And.intro|unfold TF)<;>kernel_rfl
@[go_sem] theorem ty72:TY 72 1 8 (some false) none none none false none false true .nilp:=by(repeat' apply And.intro)<;>kernel_rfl
@[go_sem] theorem ty79:TY 79 7 104 (some true) none none none false none false false (.agg [.imm 0 [] true,.int .i64 0,.int .i64 0,.imm 0 [] true,.imm 0 [] true,.bool false,.int .i64 0])/\Bb Tryz.prog 79=some [(0,5),(5,1),(6,1)]/\TF 79 0 0 29/\TF 79 1 5 4/\TF 79 2 6 3:=by(repeat' first|apply And.intro|unfold TF)<;>kernel_rfl
@[go_sem] theorem ty81:TY 81 1 8 (some false) none none none false none false false .nilf:=by(repeat' apply And.intro)<;>kernel_rfl
@[go_sem] theorem ty85:TY 85 1 8 (some false) none none (some (89,90)) false none false false .nilm:=by(repeat' apply And.intro)<;>kernel_rfl
@[go_sem] theorem ty86:TY 86 1 24 (some false) (some 89) none none false none false false (.imm 0 [] true):=by(repeat' apply And.intro)<;>kernel_rfl
@[go_sem] theorem ty89:TY 89 2 16 (some true) none none none false none false false (.agg [.int .i64 0,.int .i64 0])/\Bb Tryz.prog 89=some [(0,1),(1,1)]/\TF 89 0 0 3/\TF 89 1 1 3:=by(repeat' first|apply And.intro|unfold TF)<;>kernel_rfl
@[go_sem] theorem ty90:TY 90 2 2 (some true) none (some (2,4)) none false none false false (.agg [.bool false,.bool false])/\Bb Tryz.prog 90=some [(0,1),(1,1)]:=by(repeat' apply And.intro)<;>kernel_rfl
@[go_sem] theorem ty94:TY 94 1 8 (some false) none none none false none false false .nilf:=by(repeat' apply And.intro)<;>kernel_rfl
@[go_sem] theorem ty96:TY 96 1 8 (some false) none none none false none false false .nilf:=by(repeat' apply And.intro)<;>kernel_rfl
@[go_sem] theorem ty101:TY 101 1 24 (some false) (some 106) none none false none false false (.imm 0 [] true):=by(repeat' apply And.intro)<;>kernel_rfl
@[go_sem] theorem ty103:TY 103 2 32 (some true) none none none false none false false (.agg [.int .i64 0,.imm 0 [] true])/\Bb Tryz.prog 103=some [(0,1),(1,1)]/\TF 103 0 0 3/\TF 103 1 1 101:=by(repeat' first|apply And.intro|unfold TF)<;>kernel_rfl
@[go_sem] theorem ty106:TY 106 4 40 (some true) none none none false none false false (.agg [.int .i64 0,.int .i64 0,.str .empty,.int .i64 0])/\Bb Tryz.prog 106=some [(0,1),(1,1),(2,1),(3,1)]/\TF 106 0 0 3/\TF 106 1 1 3/\TF 106 2 2 9/\TF 106 3 3 3:=by(repeat' first|apply And.intro|unfold TF)<;>kernel_rfl
@[go_sem] theorem ty107:TY 107 1 8 (some false) none none none false none false false .nilf:=by(repeat' apply And.intro)<;>kernel_rfl
@[go_sem] theorem ty115:TY 115 6 64 (some true) none none none false none false false (.agg [.int .i64 0,.int .i64 0,.str .empty,.int .i64 0,.str .empty,.bool false])/\Bb Tryz.prog 115=some [(0,1),(1,1),(2,1),(3,1),(4,1),(5,1)]/\TF 115 0 0 3/\TF 115 1 1 3/\TF 115 2 2 9/\TF 115 3 3 3/\TF 115 4 4 9/\TF 115 5 5 4:=by(repeat' first|apply And.intro|unfold TF)<;>kernel_rfl
@[go_sem] theorem ty118:TY 118 2 32 (some true) none none none false none false false (.agg [.str .empty,.str .empty])/\Bb Tryz.prog 118=some [(0,1),(1,1)]/\TF 118 0 0 9/\TF 118 1 1 9:=by(repeat' first|apply And.intro|unfold TF)<;>kernel_rfl
@[go_sem] theorem ty130:TY 130 1 8 (some false) none none none false none false false .nilf:=by(repeat' apply And.intro)<;>kernel_rfl
@[go_sem] theorem ty134:TY 134 1 8 (some false) none none none false none false true .nilp:=by(repeat' apply And.intro)<;>kernel_rfl
@[go_sem] theorem ty140:TY 140 3 16 (some true) none none none false none false false (.agg [.bool false,.bool false,.int .i64 0])/\Bb Tryz.prog 140=some [(0,1),(1,1),(2,1)]/\TF 140 0 0 4/\TF 140 1 1 4/\TF 140 2 2 3:=by(repeat' first|apply And.intro|unfold TF)<;>kernel_rfl
@[go_sem] theorem ty141:TY 141 1 8 (some false) none none (some (3,3)) false none false false .nilm:=by(repeat' apply And.intro)<;>kernel_rfl
@[go_sem] theorem ty142:TY 142 1 8 (some false) none none (some (3,4)) false none false false .nilm:=by(repeat' apply And.intro)<;>kernel_rfl
@[go_sem] theorem ty144:TY 144 6 48 (some true) none none none false none false false (.agg [.nilm,.nilm,.nilm,.nilm,.nilm,.int .i64 0])/\Bb Tryz.prog 144=some [(0,1),(1,1),(2,1),(3,1),(4,1),(5,1)]/\TF 144 0 0 141/\TF 144 1 1 142/\TF 144 2 2 142/\TF 144 3 3 142/\TF 144 4 4 142/\TF 144 5 5 3:=by(repeat' first|apply And.intro|unfold TF)<;>kernel_rfl
@[go_sem] theorem ty146:TY 146 1 8 (some false) none none none false none false false .nilf:=by(repeat' apply And.intro)<;>kernel_rfl
@[go_sem] theorem ty147:TY 147 1 24 (some false) (some 3) none none false none false false (.imm 0 [] true):=by(repeat' apply And.intro)<;>kernel_rfl
@[go_sem] theorem ty150:TY 150 1 8 (some false) none none none false none false false .nilf:=by(repeat' apply And.intro)<;>kernel_rfl
@[go_sem] theorem ty154:TY 154 1 8 (some false) none none none false none false false .nilf:=by(repeat' apply And.intro)<;>kernel_rfl
@[go_sem] theorem ty155:TY 155 1 8 (some false) none none (some (89,3)) false none false false .nilm:=by(repeat' apply And.intro)<;>kernel_rfl
@[go_sem] theorem ty159:TY 159 1 24 (some false) (some 239) none none false none false false (.imm 0 [] true):=by(repeat' apply And.intro)<;>kernel_rfl
@[go_sem] theorem ty164:TY 164 4 32 (some true) none none none false none false false (.agg [.int .i64 0,.int .i64 0,.int .i64 0,.bool false])/\Bb Tryz.prog 164=some [(0,1),(1,1),(2,1),(3,1)]/\TF 164 0 0 3/\TF 164 1 1 3/\TF 164 2 2 3/\TF 164 3 3 4:=by(repeat' first|apply And.intro|unfold TF)<;>kernel_rfl
@[go_sem] theorem ty166:TY 166 2 16 (some true) none none none false none false false (.agg [.int .i64 0,.int .i64 0])/\Bb Tryz.prog 166=some [(0,1),(1,1)]/\TF 166 0 0 3/\TF 166 1 1 3:=by(repeat' first|apply And.intro|unfold TF)<;>kernel_rfl
@[go_sem] theorem ty167:TY 167 1 24 (some false) (some 171) none none false none false false (.imm 0 [] true):=by(repeat' apply And.intro)<;>kernel_rfl
@[go_sem] theorem ty169:TY 169 6 112 (some true) none none none false none false false (.agg [.imm 0 [] true,.int .i64 0,.int .i64 0,.imm 0 [] true,.imm 0 [] true,.imm 0 [] true])/\Bb Tryz.prog 169=some [(0,5),(5,1)]/\TF 169 0 0 29/\TF 169 1 5 167:=by(repeat' first|apply And.intro|unfold TF)<;>kernel_rfl
@[go_sem] theorem ty171:TY 171 7 120 (some true) none none none false none false false (.agg [.int .i64 0,.imm 0 [] true,.int .i64 0,.int .i64 0,.imm 0 [] true,.imm 0 [] true,.imm 0 [] true])/\Bb Tryz.prog 171=some [(0,1),(1,5),(6,1)]/\TF 171 0 0 3/\TF 171 1 1 29/\TF 171 2 6 22:=by(repeat' first|apply And.intro|unfold TF)<;>kernel_rfl
@[go_sem] theorem ty176:TY 176 4 40 (some true) none none none false none false false (.agg [.imm 0 [] true,.bool false,.bool false,.int .i64 0])/\Bb Tryz.prog 176=some [(0,1),(1,3)]/\TF 176 0 0 22/\TF 176 1 1 140:=by(repeat' first|apply And.intro|unfold TF)<;>kernel_rfl
@[go_sem] theorem ty179:TY 179 1 8 (some false) none none none false none false false .nilf:=by(repeat' apply And.intro)<;>kernel_rfl
@[go_sem] theorem ty186:TY 186 1 8 (some false) none none none false none false false .nilf:=by(repeat' apply And.intro)<;>kernel_rfl
@[go_sem] theorem ty190:TY 190 1 8 (some false) none none none false none false false .nilf:=by(repeat' apply And.intro)<;>kernel_rfl
@[go_sem] theorem ty193:TY 193 2 16 (some true) none none none false none false false (.agg [.int .i64 0,.int .i64 0])/\Bb Tryz.prog 193=some [(0,1),(1,1)]/\TF 193 0 0 3/\TF 193 1 1 3:=by(repeat' first|apply And.intro|unfold TF)<;>kernel_rfl
@[go_sem] theorem ty198:TY 198 6 72 (some true) none none none false none false false (.agg [.int .i64 0,.int .i64 0,.str .empty,.int .i64 0,.int .i64 0,.imm 0 [] true])/\Bb Tryz.prog 198=some [(0,1),(1,1),(2,1),(3,1),(4,1),(5,1)]/\TF 198 0 0 3/\TF 198 1 1 3/\TF 198 2 2 9/\TF 198 3 3 3/\TF 198 4 4 3/\TF 198 5 5 23:=by(repeat' first|apply And.intro|unfold TF)<;>kernel_rfl
@[go_sem] theorem ty199:TY 199 1 8 (some false) none none none false none false false .nilf:=by(repeat' apply And.intro)<;>kernel_rfl
@[go_sem] theorem ty201:TY 201 1 8 (some false) none none none false none false false .nilf:=by(repeat' apply And.intro)<;>kernel_rfl
@[go_sem] theorem ty204:TY 204 1 8 (some false) none none none false none false false .nilf:=by(repeat' apply And.intro)<;>kernel_rfl
@[go_sem] theorem ty205:TY 205 1 8 (some false) none none none false none false false .nilf:=by(repeat' apply And.intro)<;>kernel_rfl
@[go_sem] theorem ty206:TY 206 1 8 (some false) none none none false none false false .nilf:=by(repeat' apply And.intro)<;>kernel_rfl
@[go_sem] theorem ty210:TY 210 1 8 (some false) none none none false none false false .nilf:=by(repeat' apply And.intro)<;>kernel_rfl
@[go_sem] theorem ty213:TY 213 1 8 (some false) none none none false (some .u64) false false (.int .u64 0):=by(repeat' apply And.intro)<;>kernel_rfl
@[go_sem] theorem ty218:TY 218 2 48 (some true) none none none false none false false (.agg [.imm 0 [] true,.imm 0 [] true])/\Bb Tryz.prog 218=some [(0,1),(1,1)]/\TF 218 0 0 61/\TF 218 1 1 61:=by(repeat' first|apply And.intro|unfold TF)<;>kernel_rfl
@[go_sem] theorem ty219:TY 219 1 24 (some false) (some 47) none none false none false false (.imm 0 [] true):=by(repeat' apply And.intro)<;>kernel_rfl
@[go_sem] theorem ty226:TY 226 1 8 (some false) none none none false none false false .nilf:=by(repeat' apply And.intro)<;>kernel_rfl
@[go_sem] theorem ty228:TY 228 1 8 (some false) none none none false none false false .nilf:=by(repeat' apply And.intro)<;>kernel_rfl
@[go_sem] theorem ty239:TY 239 2 16 (some true) none (some (2,3)) none false none false false (.agg [.int .i64 0,.int .i64 0])/\Bb Tryz.prog 239=some [(0,1),(1,1)]:=by(repeat' apply And.intro)<;>kernel_rfl
@[go_sem] theorem ty243:TY 243 1 8 (some false) none none none false none false false .nilf:=by(repeat' apply And.intro)<;>kernel_rfl
@[go_sem] theorem ty259:TY 259 1 8 (some false) none none none false none false false .nilf:=by(repeat' apply And.intro)<;>kernel_rfl
@[go_sem] theorem ty262:TY 262 1 8 (some false) none none none false none false false .nilf:=by(repeat' apply And.intro)<;>kernel_rfl
@[go_sem] theorem ty278:TY 278 1 8 (some false) none none none false none false false .nilf:=by(repeat' apply And.intro)<;>kernel_rfl
@[go_sem] theorem ty282:TY 282 1 8 (some false) none none none false none false false .nilf:=by(repeat' apply And.intro)<;>kernel_rfl
@[go_sem] theorem ty285:TY 285 1 8 (some false) none none none false none false false .nilf:=by(repeat' apply And.intro)<;>kernel_rfl
@[go_sem] theorem ty289:TY 289 1 24 (some false) (some 291) none none false none false false (.imm 0 [] true):=by(repeat' apply And.intro)<;>kernel_rfl
@[go_sem] theorem ty291:TY 291 2 16 (some true) none none none false none false false (.agg [.int .i64 0,.bool false])/\Bb Tryz.prog 291=some [(0,1),(1,1)]/\TF 291 0 0 3/\TF 291 1 1 4:=by(repeat' first|apply And.intro|unfold TF)<;>kernel_rfl
@[go_sem] theorem ty299:TY 299 1 8 (some false) none none none false (some .i64) false false (.int .i64 0):=by(repeat' apply And.intro)<;>kernel_rfl
@[go_sem] theorem ty306:TY 306 1 4 (some false) none none none false (some .u32) false false (.int .u32 0):=by(repeat' apply And.intro)<;>kernel_rfl
@[go_sem] theorem ty308:TY 308 1 8 (some false) none none none false (some .u64) false false (.int .u64 0):=by(repeat' apply And.intro)<;>kernel_rfl
@[go_sem] theorem ty309:TY 309 1 8 (some false) none none none false none false false .nilf:=by(repeat' apply And.intro)<;>kernel_rfl
@[go_sem] theorem ty311:TY 311 1 24 (some false) (some 61) none none false none false false (.imm 0 [] true):=by(repeat' apply And.intro)<;>kernel_rfl
@[go_sem] theorem ty319:TY 319 1 24 (some false) (some 22) none none false none false false (.imm 0 [] true):=by(repeat' apply And.intro)<;>kernel_rfl
@[go_sem] theorem ty323:TY 323 1 8 (some false) none none none false none false false .nilf:=by(repeat' apply And.intro)<;>kernel_rfl
@[go_sem] theorem ty329:TY 329 1 8 (some false) none none none false none false false .nilf:=by(repeat' apply And.intro)<;>kernel_rfl
@[go_sem] theorem ty333:TY 333 6 56 (some true) none none none false none false false (.agg [.int .i64 0,.int .i64 0,.int .i64 0,.int .i64 0,.int .i64 0,.str .empty])/\Bb Tryz.prog 333=some [(0,1),(1,1),(2,1),(3,1),(4,1),(5,1)]/\TF 333 0 0 3/\TF 333 1 1 3/\TF 333 2 2 3/\TF 333 3 3 3/\TF 333 4 4 3/\TF 333 5 5 9:=by(repeat' first|apply And.intro|unfold TF)<;>kernel_rfl
@[go_sem] theorem ty342:TY 342 1 8 (some false) none none none false (some .u64) false false (.int .u64 0):=by(repeat' apply And.intro)<;>kernel_rfl
@[go_sem] theorem ty361:TY 361 1 24 (some false) (some 366) none none false none false false (.imm 0 [] true):=by(repeat' apply And.intro)<;>kernel_rfl
@[go_sem] theorem ty366:TY 366 3 32 (some true) none none none false none false false (.agg [.str .empty,.int .i64 0,.bool false])/\Bb Tryz.prog 366=some [(0,1),(1,1),(2,1)]/\TF 366 0 0 9/\TF 366 1 1 3/\TF 366 2 2 4:=by(repeat' first|apply And.intro|unfold TF)<;>kernel_rfl
@[go_sem] theorem ty367:TY 367 1 8 (some false) none none none false none false false .nilf:=by(repeat' apply And.intro)<;>kernel_rfl
@[go_sem] theorem ty368:TY 368 1 24 (some false) (some 333) none none false none false false (.imm 0 [] true):=by(repeat' apply And.intro)<;>kernel_rfl
@[go_sem] theorem ty371:TY 371 1 8 (some false) none none none false none false false .nilf:=by(repeat' apply And.intro)<;>kernel_rfl
@[go_sem] theorem ty381:TY 381 1 24 (some false) (some 5) none none false none false false (.imm 0 [] true):=by(repeat' apply And.intro)<;>kernel_rfl
@[go_sem] theorem ty382:TY 382 1 8 (some false) none none none false none false false .nilf:=by(repeat' apply And.intro)<;>kernel_rfl
@[go_sem] theorem ty383:TY 383 1 8 (some false) none none none false none false true .nilp:=by(repeat' apply And.intro)<;>kernel_rfl
@[go_sem] theorem ty384:TY 384 1 8 (some false) none none none false none false true .nilp:=by(repeat' apply And.intro)<;>kernel_rfl
@[go_sem] theorem ty386:TY 386 2 32 (some true) none none none false none false false (.agg [.nilp,.imm 0 [] true])/\Bb Tryz.prog 386=some [(0,1),(1,1)]/\TF 386 0 0 384/\TF 386 1 1 381:=by(repeat' first|apply And.intro|unfold TF)<;>kernel_rfl
@[go_sem] theorem ty388:TY 388 7 96 (some true) none none none false none false false (.agg [.str .empty,.int .i64 0,.nilp,.imm 0 [] true,.imm 0 [] true,.int .i64 0,.int .i64 0])/\Bb Tryz.prog 388=some [(0,1),(1,1),(2,2),(4,1),(5,1),(6,1)]/\TF 388 0 0 9/\TF 388 1 1 3/\TF 388 2 2 386/\TF 388 3 4 361/\TF 388 4 5 3/\TF 388 5 6 47:=by(repeat' first|apply And.intro|unfold TF)<;>kernel_rfl
@[go_sem] theorem ty391:TY 391 1 8 (some false) none none none false none false false .nilf:=by(repeat' apply And.intro)<;>kernel_rfl
@[go_sem] theorem ty403:TY 403 1 8 (some false) none none none false none false false .nilp:=by(repeat' apply And.intro)<;>kernel_rfl
@[go_sem] theorem ty405:TY 405 1 8 (some false) none none none false none false true .nilp:=by(repeat' apply And.intro)<;>kernel_rfl
attribute [go_sem] Gq Ke Nh Dg dV EH Gp Ai EB Ec callee ofValue G9 P4 Bg GC JS J7 OC UZ YO G5 DH HF flat Dw Hd Oi LI Tl Tj Jd OB Gx G2 Sw JE KX dW.app FO
 SV.cells SV.storable
section
variable (P : Program) (h : Hp) (n : Nat) (t t2 : TypeId)
@[go_sem] theorem Zj (x:SV):AU P h n .len [t] [x]=match x with
 | .str s=>if FC P t then EH (.int .i64 s.size)else none
 | .imm _ es _=>if(A9 P t).isSome then EH (.int .i64 es.length)else none
 | .sl _ _ _ len _=>if(A9 P t).isSome then EH (.int .i64 len)else none
 | .map o=>match h o with|some (.map es)=>if(Ko P t).isSome then EH (.int .i64 es.length)else none|_=>none
 | _=>none:=by cases x<;>rfl
@[go_sem] theorem Zi (x:SV):AU P h n .cap [t] [x]=match x with
 | .imm _ es true=>if(A9 P t).isSome then EH (.int .i64 es.length)else none
 | .sl _ _ _ len true=>if(A9 P t).isSome then EH (.int .i64 len)else none
 | _=>none:=by cases x<;>rfl
@[go_sem] theorem ZM (d x:SV):AU P h n .copy [t,t2] [d,x]=Oi P h t d x:=rfl
@[go_sem] theorem XQ (d:SV):AU P h n .clear [t] [d]=LI P h t d:=rfl
@[go_sem] theorem Zl (ts:List TypeId) (l:List SV):AU P h n .min ts l=(Tl l).bind EH:=by simp[AU]
@[go_sem] theorem Zk (ts:List TypeId) (l:List SV):AU P h n .max ts l=(Tj l).bind EH:=by simp[AU]
@[go_sem] theorem W8 (o:Nat) (k:SV):AU P h n .delete [t,t2] [.map o,k]=match Ko P t,h o with
 | some (kt,_),some (.map es)=>
  if !CK P kt k then none else
  match DH k es 0 with
  | some (some (i,_))=>some { val:=.tup [],upd:=some (o,some (.map (es.eraseIdx i))) }
  | some none=>some { val:=.tup [],upd:=some (o,some (.map es)) }
  | none=>none
 | _,_=>none:=rfl
end
theorem follows:Proofs.Tryz.prog.follows .mixedOrders=true:=by kernel_rfl
section
variable {E : B6} {P : Program} {N : Nat}
end
attribute [simp] IO
theorem Fz.any {h h2:Hp}:∀(k:Nat) {v r:SV},Fz (λ_=>none) (λ_=>none) k v r->Fz h h2 k v r
 | 0,_,_,H=>H
 | k+1,v,r,H=>by
  have a:∀{us bs:List SV},AZ (Fz (λ_=>none) (λ_=>none) k) us bs->AZ (Fz h h2 k) us bs:=λH=>H.mono λ_ _=>Fz.any k;rcases H with H|H;exact .inl H;refine .inr ?_;split at H;trivial;obtain⟨_,_,_,_,_,_,b,_⟩:=H;cases b;obtain⟨_,_,b,_⟩:=H;cases b;exact a H;exact a H;exact⟨H.1,a H.2.1,a H.2.2⟩;exact a H;exact⟨H.1,H.2.1,a H.2.2.1,H.2.2.2⟩;exact H;exact H.elim
section
variable {E : B6} {P : Program} {N : Nat}
theorem FR.fz {sa b:SA} {h h2:Hp} {c:Cx} {a:Act} (k:Nat) (R:Bn h c) (d:∀o x,h2 o=some x->h o=some x) (A:FR E N sa c a) (hw:∀p∈b,Fz h h2 k (Ai sa p.1) p.2):FR E N b (c.less h2) a:=by
 refine⟨A.size,A.defers.mono (DU R d),λt=>?_⟩;have key:∀l:SA,(∀p∈l,Fz h h2 k (Ai sa p.1) p.2)->Ai l t=.junk\/Fz h h2 k (Ai sa t) (Ai l t):=by
  intro l
  induction l with
  | nil=>intro _;exact .inl rfl
  | cons p l ih=>
   intro hl;obtain⟨j,x⟩:=p;simp only[Ai];by_cases e:j=t;subst e;simp only[if_true];exact .inr (hl (j,x) (by simp));simp only[e,if_false];exact ih λq f=>hl q (by simp[f])
 rcases key b hw with e|e;rw[e];simp[V];exact Fz.sound R d k e (A.val t)
theorem Nc {code:Code} {Q:dO} {sa l:SA} {h h2:Hp} {n m:Nat} (k:Nat) (b:∀o x,h2 o=some x->h o=some x) (g:n<=m) (hw:∀p∈l,Fz h h2 k (Ai sa p.1) p.2) (H:Fs E P N code Q l h2 m):Fs E P N code Q sa h n:=by
 intro v c a I R F A;have s:Fr m (c.less h2):=λj f=>F j (qr g f);refine wpIn_mono (H v (c.less h2) a (E.ext (DU R b) I) (R.less b) s (A.fz k R b hw)) ?_;rintro e a' w' ⟨i,h',n',u,q,hw,t,d,r,X⟩;refine⟨i,h',n',u,q,hw,t,d,r,⟨(DU R b).trans X.ext,qr g X.le,λj f=>?_⟩⟩;exact X.same j (kq f g)
theorem Ak.fz {f:FuncId} {us bs:List SV} {h h2:Hp} {n:Nat} {K:SV->Hp->Nat->Prop} (k:Nat) (d:∀o x,h2 o=some x->h o=some x) (hw:AZ (Fz h h2 k) us bs) (H:Ak E P f bs h2 n K):Ak E P f us h n K:=by
 refine⟨H.1,λc vs I R F A=>?_⟩;have i:AZ (V (c.less h2)) bs vs:=AZ.trans3 (R:=V c) (S:=Fz h h2 k) (T:=V (c.less h2)) (λa b g p h2=>Fz.sound R d k h2 p) A hw;refine(H.2 (c.less h2) vs (E.ext (DU R d) I) (R.less d) F i).mono ?_;rintro e w' ⟨u,v,h',n',m,r,q,hw,s,l,j,X⟩;exact⟨u,v,h',n',m,r,q,hw,s,l,j,⟨(DU R d).trans X.ext,X.le,X.same⟩⟩
theorem Fy.wk {f:FuncId} {us bs:List SV} {v:SV} (k:Nat) (H:Fy P f bs v) (hw:AZ (Fz (λ_=>none) (λ_=>none) k) us bs):Fy P f us v:=λh n=>
 Ak.fz k (λ_ _ e=>e) (hw.mono λ_ _=>Fz.any k) (H h n)
mutual
def Ee:SV->Bool
 | .bool _|.int _ _|.str _|.nilp|.nilf|.nilm|.junk=>true
 | .agg cs=>Lu cs
 | .tup cs=>Lu cs
 | _=>false
def Lu:List SV->Bool
 | []=>true
 | s::ss=>Ee s&&Lu ss
end
mutual
theorem V.plain {c a:Cx}:∀{s:SV} {v:Value},Ee s=true->V c s v->V a s v
 | .bool _,_,_,h=>h
 | .int _ _,_,_,h=>h
 | .str _,_,_,h=>h
 | .nilp,_,_,h=>h
 | .nilf,_,_,h=>h
 | .nilm,_,_,h=>h
 | .junk,_,_,_=>trivial
 | .agg cs,v,hp,h=>by rw[V]at *;rw[Ee]at hp;obtain⟨vs,e,hl,b⟩:=h;exact⟨vs,e,VL.plain hp hl,b⟩
 | .tup cs,v,hp,h=>by rw[V]at *;rw[Ee]at hp;obtain⟨vs,e,hl⟩:=h;exact⟨vs,e,VL.plain hp hl⟩
 | .fn _ _ _,_,hp,_=>by simp[Ee]at hp
 | .ptr _ _,_,hp,_=>by simp[Ee]at hp
 | .iptr _,_,hp,_=>by simp[Ee]at hp
 | .sl _ _ _ _ _,_,hp,_=>by simp[Ee]at hp
 | .slc _ _ _ _ _,_,hp,_=>by simp[Ee]at hp
 | .imm _ _ _,_,hp,_=>by simp[Ee]at hp
 | .map _,_,hp,_=>by simp[Ee]at hp
theorem VL.plain {c a:Cx}:∀{s:List SV} {v:List Value},Lu s=true->VL c s v->VL a s v
 | [],_,_,h=>by rw[VL]at *;exact h
 | s::ss,v,hp,h=>by rw[VL]at *;rw[Lu,qq]at hp;obtain⟨u,r,e,b,h2⟩:=h;exact⟨u,r,e,V.plain hp.1 b,VL.plain hp.2 h2⟩
end
theorem Fy.lend {f:FuncId} {us bs:List SV} {v:SV} {h:Hp} {n:Nat} {K:SV->Hp->Nat->Prop} (k:Nat) (H:Fy P f bs v) (C:Ee v=true) (hw:AZ (Fz h (λ_=>none) k) us bs) (B:K v h n):Ak E P f us h n K:=by
 refine⟨(H h n).1,λc vs _ R F A=>?_⟩;have r:∀o x,(λ_=>none:Hp) o=some x->h o=some x:=λ_ _ e=>by cases e
 have s:AZ (V (c.less λ_=>none)) bs vs:=AZ.trans3 (R:=V c) (S:=Fz h (λ_=>none) k) (T:=V (c.less λ_=>none)) (λa b g y h2=>Fz.sound R r k h2 y) A hw;refine((H (λ_=>none) n).2 (c.less λ_=>none) vs trivial (R.less r) F s).mono ?_;rintro e w' ⟨u,D,h',n',p,z,⟨rfl,rfl,rfl⟩,rfl,q,R',t,d⟩;have i:∀b,¬(c.less λ_=>none).own b:=λb ⟨o,x,e,_⟩=>by cases e
 have hρ:∀j,p.ρ j=c.ρ j:=λj=>by
  rcases ji j n' with l|l;exact d.same j l;rw[t j l,F j l]
 have X:DZ c { c with w:=p.w }:=⟨λ_ _ e=>e,d.ext.size,λb hb m=>⟨m,(d.ext.keep b hb (i b)).2⟩,d.ext.room,d.ext.os,d.ext.out,d.ext.td⟩
 refine⟨u,D,h,n',{ c with w:=p.w },z,B,rfl,q.plain C,⟨λo x m=>?_,R.inj2,R.own2⟩,F,⟨X,qa _,λ_ _=>rfl⟩⟩;refine(R.obj o x m).mono X λb hb=>?_;exact(d.ext.keep b ((R.obj o x m).hold_lt hb) (i b)).2
theorem Fy.lendU {f:FuncId} {us bs:List SV} {v:SV} {h:Hp} (k:Nat) (foot:List Nat) (H:Fy P f bs v) (b:Ee v=true) (hw:∀h',(∀j∈foot,h' j=h j)->AZ (Fz h' (λ_=>none) k) us bs):K8 E P f us foot [] v h:=λh' _n a=>
 Fy.lend k H b (hw h' a) ⟨rfl,rfl,rfl⟩
theorem SW (j:P.follows .mixedOrders=true) {x:Code} {Q:dO} {sa:SA} {h:Hp} {n:Nat} {α:Type} (k:Nat) (fr:α->SA) (hp:α->Hp) (I:α->Nat->Prop) (μ:α->Nat) (a0:α) (hI:I a0 n)
 (b:∀p∈fr a0,Fz h (hp a0) k (Ai sa p.1) p.2) (c:∀o y,hp a0 o=some y->h o=some y)
 (d:∀a n,I a n->Fk E P N x (DX (λe h' n'=>∃a',μ a'<μ a/\I a' n'/\(∀p∈fr a',Fz h' (hp a') k (Ai e p.1) p.2)/\(∀o y,hp a' o=some y->h' o=some y)) Q) (fr a) (hp a) n):
 Fs E P N (.loop x) Q sa h n:=by
 refine OQ (μ a0) (λm sa h n=>∃a,m=μ a/\I a n/\(∀p∈fr a,Fz h (hp a) k (Ai sa p.1) p.2)/\(∀o y,hp a o=some y->h o=some y)) ⟨a0,rfl,hI,b,c⟩ ?_;rintro m sa h n ⟨a,rfl,hI,b,c⟩;refine Nc k c (qa _) b (GJ (Eo j _ _ _ _ _ (d a n hI)) ?_);refine FX λe h' n' ⟨a',f,h2,g,i⟩=>⟨μ a',f,a',rfl,h2,g,i⟩
end
open Proofs
abbrev FN (f:Func) (n:Nat) (r:List ResultVar):Prop:=f.results.toList=r/\f.ntmps=n
@[go_sem] theorem fr9:FN Tryz.f9 83 [.tmp 4]:=⟨rfl,rfl⟩
@[go_sem] theorem fr11:FN Tryz.f11 60 [.tmp 0]:=⟨rfl,rfl⟩
@[go_sem] theorem fr12:FN Tryz.f12 45 [.tmp 2]:=⟨rfl,rfl⟩
@[go_sem] theorem fr13:FN Tryz.f13 60 [.cell 6 3,.cell 7 3,.tmp 8]:=⟨rfl,rfl⟩
@[go_sem] theorem fr15:FN Tryz.f15 105 [.cell 8 38,.tmp 9]:=⟨rfl,rfl⟩
@[go_sem] theorem fr17:FN Tryz.f17 60 [.tmp 4]:=⟨rfl,rfl⟩
@[go_sem] theorem fr20:FN Tryz.f20 38 [.cell 4 42,.tmp 5]:=⟨rfl,rfl⟩
@[go_sem] theorem fr21:FN Tryz.f21 18 [.cell 2 38]:=⟨rfl,rfl⟩
@[go_sem] theorem fr23:FN Tryz.f23 13 [.tmp 4]:=⟨rfl,rfl⟩
@[go_sem] theorem fr24:FN Tryz.f24 62 [.tmp 2]:=⟨rfl,rfl⟩
@[go_sem] theorem fr27:FN Tryz.f27 141 [.cell 6 38,.tmp 7]:=⟨rfl,rfl⟩
@[go_sem] theorem fr29:FN Tryz.f29 9 [.tmp 2]:=⟨rfl,rfl⟩
@[go_sem] theorem fr30:FN Tryz.f30 11 [.tmp 4]:=⟨rfl,rfl⟩
@[go_sem] theorem fr31:FN Tryz.f31 11 [.tmp 4]:=⟨rfl,rfl⟩
@[go_sem] theorem fr32:FN Tryz.f32 9 [.cell 0 38]:=⟨rfl,rfl⟩
@[go_sem] theorem fr33:FN Tryz.f33 133 [.tmp 6]:=⟨rfl,rfl⟩
@[go_sem] theorem fr34:FN Tryz.f34 18 [.cell 4 22,.cell 5 4]:=⟨rfl,rfl⟩
@[go_sem] theorem fr35:FN Tryz.f35 27 [.tmp 2,.tmp 3]:=⟨rfl,rfl⟩
@[go_sem] theorem fr36:FN Tryz.f36 12 []:=⟨rfl,rfl⟩
@[go_sem] theorem fr37:FN Tryz.f37 22 []:=⟨rfl,rfl⟩
@[go_sem] theorem fr38:FN Tryz.f38 9 [.tmp 4]:=⟨rfl,rfl⟩
@[go_sem] theorem fr39:FN Tryz.f39 27 [.cell 8 38]:=⟨rfl,rfl⟩
@[go_sem] theorem fr42:FN Tryz.f42 35 [.tmp 2]:=⟨rfl,rfl⟩
@[go_sem] theorem fr43:FN Tryz.f43 36 []:=⟨rfl,rfl⟩
@[go_sem] theorem fr44:FN Tryz.f44 41 [.tmp 2]:=⟨rfl,rfl⟩
@[go_sem] theorem fr45:FN Tryz.f45 39 [.tmp 4,.tmp 5]:=⟨rfl,rfl⟩
@[go_sem] theorem fr46:FN Tryz.f46 17 [.cell 4 29,.tmp 5]:=⟨rfl,rfl⟩
@[go_sem] theorem fr47:FN Tryz.f47 90 [.cell 6 29]:=⟨rfl,rfl⟩
@[go_sem] theorem fr48:FN Tryz.f48 7 [.tmp 3]:=⟨rfl,rfl⟩
@[go_sem] theorem fr49:FN Tryz.f49 28 [.cell 8 38]:=⟨rfl,rfl⟩
@[go_sem] theorem fr51:FN Tryz.f51 54 [.tmp 4]:=⟨rfl,rfl⟩
@[go_sem] theorem fr55:FN Tryz.f55 17 [.tmp 4]:=⟨rfl,rfl⟩
@[go_sem] theorem fr56:FN Tryz.f56 26 [.tmp 4]:=⟨rfl,rfl⟩
@[go_sem] theorem fr57:FN Tryz.f57 8 [.tmp 4]:=⟨rfl,rfl⟩
@[go_sem] theorem fr58:FN Tryz.f58 46 [.tmp 4]:=⟨rfl,rfl⟩
@[go_sem] theorem fr59:FN Tryz.f59 26 [.tmp 4]:=⟨rfl,rfl⟩
@[go_sem] theorem fr60:FN Tryz.f60 8 [.tmp 4]:=⟨rfl,rfl⟩
@[go_sem] theorem fr61:FN Tryz.f61 32 [.tmp 6]:=⟨rfl,rfl⟩
@[go_sem] theorem fr62:FN Tryz.f62 26 [.tmp 4]:=⟨rfl,rfl⟩
@[go_sem] theorem fr63:FN Tryz.f63 26 [.tmp 4]:=⟨rfl,rfl⟩
@[go_sem] theorem fr64:FN Tryz.f64 25 [.tmp 4]:=⟨rfl,rfl⟩
@[go_sem] theorem fr67:FN Tryz.f67 2 [.cell 0 40]:=⟨rfl,rfl⟩
@[go_sem] theorem fr69:FN Tryz.f69 2 [.cell 0 40]:=⟨rfl,rfl⟩
@[go_sem] theorem fr71:FN Tryz.f71 37 [.tmp 2]:=⟨rfl,rfl⟩
@[go_sem] theorem fr72:FN Tryz.f72 11 [.tmp 4,.tmp 5]:=⟨rfl,rfl⟩
@[go_sem] theorem fr73:FN Tryz.f73 93 [.tmp 2]:=⟨rfl,rfl⟩
@[go_sem] theorem fr74:FN Tryz.f74 19 [.tmp 2]:=⟨rfl,rfl⟩
@[go_sem] theorem fr75:FN Tryz.f75 42 [.tmp 4]:=⟨rfl,rfl⟩
@[go_sem] theorem fr76:FN Tryz.f76 8 [.tmp 2]:=⟨rfl,rfl⟩
@[go_sem] theorem fr77:FN Tryz.f77 15 [.tmp 3]:=⟨rfl,rfl⟩
@[go_sem] theorem fr78:FN Tryz.f78 54 [.tmp 4,.tmp 5]:=⟨rfl,rfl⟩
@[go_sem] theorem fr79:FN Tryz.f79 16 [.cell 2 38]:=⟨rfl,rfl⟩
@[go_sem] theorem fr82:FN Tryz.f82 15 [.tmp 2]:=⟨rfl,rfl⟩
@[go_sem] theorem fr83:FN Tryz.f83 17 [.tmp 2]:=⟨rfl,rfl⟩
@[go_sem] theorem fr84:FN Tryz.f84 14 [.tmp 2]:=⟨rfl,rfl⟩
@[go_sem] theorem fr85:FN Tryz.f85 64 [.tmp 2]:=⟨rfl,rfl⟩
@[go_sem] theorem fr86:FN Tryz.f86 121 [.tmp 6]:=⟨rfl,rfl⟩
@[go_sem] theorem fr87:FN Tryz.f87 7 [.tmp 4]:=⟨rfl,rfl⟩
@[go_sem] theorem fr88:FN Tryz.f88 11 [.tmp 6]:=⟨rfl,rfl⟩
@[go_sem] theorem fr92:FN Tryz.f92 12 [.tmp 4]:=⟨rfl,rfl⟩
@[go_sem] theorem fr93:FN Tryz.f93 17 []:=⟨rfl,rfl⟩
@[go_sem] theorem fr94:FN Tryz.f94 44 [.tmp 4]:=⟨rfl,rfl⟩
@[go_sem] theorem fr95:FN Tryz.f95 42 [.tmp 4]:=⟨rfl,rfl⟩
@[go_sem] theorem fr96:FN Tryz.f96 9 [.tmp 3]:=⟨rfl,rfl⟩
@[go_sem] theorem fr97:FN Tryz.f97 14 []:=⟨rfl,rfl⟩
@[go_sem] theorem fr98:FN Tryz.f98 17 [.tmp 4]:=⟨rfl,rfl⟩
@[go_sem] theorem fr99:FN Tryz.f99 18 [.tmp 2]:=⟨rfl,rfl⟩
@[go_sem] theorem fr100:FN Tryz.f100 20 [.tmp 4]:=⟨rfl,rfl⟩
@[go_sem] theorem fr101:FN Tryz.f101 61 [.tmp 2]:=⟨rfl,rfl⟩
@[go_sem] theorem fr102:FN Tryz.f102 16 [.cell 5 29,.tmp 6]:=⟨rfl,rfl⟩
@[go_sem] theorem fr103:FN Tryz.f103 140 [.cell 8 29,.tmp 9]:=⟨rfl,rfl⟩
@[go_sem] theorem fr104:FN Tryz.f104 64 [.tmp 4]:=⟨rfl,rfl⟩
@[go_sem] theorem fr107:FN Tryz.f107 50 [.cell 7 29,.tmp 8]:=⟨rfl,rfl⟩
@[go_sem] theorem fr108:FN Tryz.f108 39 [.cell 8 29,.tmp 9]:=⟨rfl,rfl⟩
@[go_sem] theorem fr109:FN Tryz.f109 7 [.tmp 2]:=⟨rfl,rfl⟩
@[go_sem] theorem fr110:FN Tryz.f110 5 [.tmp 2]:=⟨rfl,rfl⟩
@[go_sem] theorem fr111:FN Tryz.f111 12 [.tmp 2,.tmp 3]:=⟨rfl,rfl⟩
@[go_sem] theorem fr112:FN Tryz.f112 10 [.cell 3 29,.tmp 4]:=⟨rfl,rfl⟩
@[go_sem] theorem fr113:FN Tryz.f113 9 [.tmp 4]:=⟨rfl,rfl⟩
@[go_sem] theorem fr114:FN Tryz.f114 49 [.tmp 2]:=⟨rfl,rfl⟩
@[go_sem] theorem fr115:FN Tryz.f115 168 [.tmp 10]:=⟨rfl,rfl⟩
@[go_sem] theorem fr116:FN Tryz.f116 6 [.tmp 2]:=⟨rfl,rfl⟩
@[go_sem] theorem fr117:FN Tryz.f117 95 [.tmp 6]:=⟨rfl,rfl⟩
@[go_sem] theorem fr118:FN Tryz.f118 20 [.cell 2 29]:=⟨rfl,rfl⟩
@[go_sem] theorem fr119:FN Tryz.f119 9 []:=⟨rfl,rfl⟩
@[go_sem] theorem fr120:FN Tryz.f120 10 [.tmp 4]:=⟨rfl,rfl⟩
@[go_sem] theorem fr121:FN Tryz.f121 91 [.tmp 10]:=⟨rfl,rfl⟩
@[go_sem] theorem fr123:FN Tryz.f123 32 [.tmp 6]:=⟨rfl,rfl⟩
@[go_sem] theorem fr124:FN Tryz.f124 52 [.tmp 4]:=⟨rfl,rfl⟩
@[go_sem] theorem fr125:FN Tryz.f125 26 [.tmp 4]:=⟨rfl,rfl⟩
@[go_sem] theorem fr126:FN Tryz.f126 26 [.tmp 4]:=⟨rfl,rfl⟩
@[go_sem] theorem fr127:FN Tryz.f127 26 [.tmp 4]:=⟨rfl,rfl⟩
@[go_sem] theorem fr128:FN Tryz.f128 32 [.tmp 6]:=⟨rfl,rfl⟩
@[go_sem] theorem fr129:FN Tryz.f129 45 [.tmp 4]:=⟨rfl,rfl⟩
@[go_sem] theorem fr130:FN Tryz.f130 8 [.tmp 4]:=⟨rfl,rfl⟩
@[go_sem] theorem fr131:FN Tryz.f131 49 [.tmp 6,.tmp 7]:=⟨rfl,rfl⟩
@[go_sem] theorem fr132:FN Tryz.f132 9 [.tmp 4]:=⟨rfl,rfl⟩
@[go_sem] theorem fr133:FN Tryz.f133 42 [.tmp 4]:=⟨rfl,rfl⟩
@[go_sem] theorem fr134:FN Tryz.f134 22 [.tmp 4]:=⟨rfl,rfl⟩
@[go_sem] theorem fr135:FN Tryz.f135 10 [.cell 2 169]:=⟨rfl,rfl⟩
@[go_sem] theorem fr136:FN Tryz.f136 7 [.tmp 2]:=⟨rfl,rfl⟩
@[go_sem] theorem fr137:FN Tryz.f137 35 []:=⟨rfl,rfl⟩
@[go_sem] theorem fr138:FN Tryz.f138 59 []:=⟨rfl,rfl⟩
@[go_sem] theorem fr139:FN Tryz.f139 9 [.tmp 2]:=⟨rfl,rfl⟩
@[go_sem] theorem fr140:FN Tryz.f140 4 [.tmp 2]:=⟨rfl,rfl⟩
@[go_sem] theorem fr141:FN Tryz.f141 19 [.tmp 4]:=⟨rfl,rfl⟩
@[go_sem] theorem fr142:FN Tryz.f142 17 [.tmp 4]:=⟨rfl,rfl⟩
@[go_sem] theorem fr143:FN Tryz.f143 6 [.tmp 2]:=⟨rfl,rfl⟩
@[go_sem] theorem fr144:FN Tryz.f144 58 [.cell 2 36]:=⟨rfl,rfl⟩
@[go_sem] theorem fr146:FN Tryz.f146 79 [.cell 2 47]:=⟨rfl,rfl⟩
@[go_sem] theorem fr147:FN Tryz.f147 14 [.tmp 2]:=⟨rfl,rfl⟩
@[go_sem] theorem fr148:FN Tryz.f148 14 [.tmp 2]:=⟨rfl,rfl⟩
@[go_sem] theorem fr149:FN Tryz.f149 14 [.tmp 2]:=⟨rfl,rfl⟩
@[go_sem] theorem fr150:FN Tryz.f150 18 [.tmp 4]:=⟨rfl,rfl⟩
@[go_sem] theorem fr151:FN Tryz.f151 25 [.tmp 3]:=⟨rfl,rfl⟩
@[go_sem] theorem fr152:FN Tryz.f152 37 [.tmp 4]:=⟨rfl,rfl⟩
@[go_sem] theorem fr153:FN Tryz.f153 9 [.tmp 3]:=⟨rfl,rfl⟩
@[go_sem] theorem fr154:FN Tryz.f154 15 [.tmp 2]:=⟨rfl,rfl⟩
@[go_sem] theorem fr155:FN Tryz.f155 15 [.tmp 6]:=⟨rfl,rfl⟩
@[go_sem] theorem fr156:FN Tryz.f156 64 [.tmp 4]:=⟨rfl,rfl⟩
@[go_sem] theorem fr157:FN Tryz.f157 41 [.tmp 6]:=⟨rfl,rfl⟩
@[go_sem] theorem fr158:FN Tryz.f158 12 [.tmp 5]:=⟨rfl,rfl⟩
@[go_sem] theorem fr159:FN Tryz.f159 64 [.tmp 8]:=⟨rfl,rfl⟩
@[go_sem] theorem fr160:FN Tryz.f160 13 [.tmp 5]:=⟨rfl,rfl⟩
@[go_sem] theorem fr161:FN Tryz.f161 117 [.tmp 6]:=⟨rfl,rfl⟩
@[go_sem] theorem fr166:FN Tryz.f166 9 [.tmp 4]:=⟨rfl,rfl⟩
@[go_sem] theorem fr167:FN Tryz.f167 19 [.tmp 4]:=⟨rfl,rfl⟩
@[go_sem] theorem fr168:FN Tryz.f168 148 []:=⟨rfl,rfl⟩
@[go_sem] theorem fr169:FN Tryz.f169 8 [.tmp 2]:=⟨rfl,rfl⟩
@[go_sem] theorem fr170:FN Tryz.f170 6 [.tmp 2]:=⟨rfl,rfl⟩
@[go_sem] theorem fr171:FN Tryz.f171 20 [.cell 9 29,.tmp 10]:=⟨rfl,rfl⟩
@[go_sem] theorem fr173:FN Tryz.f173 8 [.tmp 6]:=⟨rfl,rfl⟩
@[go_sem] theorem fr174:FN Tryz.f174 22 [.tmp 4]:=⟨rfl,rfl⟩
@[go_sem] theorem fr175:FN Tryz.f175 16 [.cell 2 70]:=⟨rfl,rfl⟩
@[go_sem] theorem fr176:FN Tryz.f176 10 [.cell 2 169]:=⟨rfl,rfl⟩
@[go_sem] theorem fr177:FN Tryz.f177 22 [.tmp 2,.tmp 3]:=⟨rfl,rfl⟩
@[go_sem] theorem fr178:FN Tryz.f178 19 [.tmp 4]:=⟨rfl,rfl⟩
@[go_sem] theorem fr179:FN Tryz.f179 37 [.tmp 2]:=⟨rfl,rfl⟩
@[go_sem] theorem fr180:FN Tryz.f180 34 [.tmp 6,.tmp 7]:=⟨rfl,rfl⟩
@[go_sem] theorem fr181:FN Tryz.f181 73 [.cell 8 169,.tmp 9]:=⟨rfl,rfl⟩
@[go_sem] theorem fr182:FN Tryz.f182 24 [.tmp 2]:=⟨rfl,rfl⟩
@[go_sem] theorem fr185:FN Tryz.f185 8 [.tmp 2]:=⟨rfl,rfl⟩
@[go_sem] theorem fr186:FN Tryz.f186 8 [.tmp 2]:=⟨rfl,rfl⟩
@[go_sem] theorem fr187:FN Tryz.f187 8 [.tmp 2]:=⟨rfl,rfl⟩
@[go_sem] theorem fr188:FN Tryz.f188 63 []:=⟨rfl,rfl⟩
@[go_sem] theorem fr189:FN Tryz.f189 36 [.tmp 2]:=⟨rfl,rfl⟩
@[go_sem] theorem fr190:FN Tryz.f190 74 [.tmp 8]:=⟨rfl,rfl⟩
@[go_sem] theorem fr191:FN Tryz.f191 32 [.tmp 6]:=⟨rfl,rfl⟩
@[go_sem] theorem fr192:FN Tryz.f192 17 [.tmp 4]:=⟨rfl,rfl⟩
@[go_sem] theorem fr193:FN Tryz.f193 19 [.tmp 4]:=⟨rfl,rfl⟩
@[go_sem] theorem fr194:FN Tryz.f194 22 [.tmp 4]:=⟨rfl,rfl⟩
@[go_sem] theorem fr195:FN Tryz.f195 12 [.cell 2 171]:=⟨rfl,rfl⟩
@[go_sem] theorem fr196:FN Tryz.f196 5 [.tmp 2]:=⟨rfl,rfl⟩
@[go_sem] theorem fr197:FN Tryz.f197 11 []:=⟨rfl,rfl⟩
@[go_sem] theorem fr198:FN Tryz.f198 14 []:=⟨rfl,rfl⟩
@[go_sem] theorem fr199:FN Tryz.f199 8 [.tmp 2]:=⟨rfl,rfl⟩
@[go_sem] theorem fr200:FN Tryz.f200 8 [.tmp 2]:=⟨rfl,rfl⟩
@[go_sem] theorem fr201:FN Tryz.f201 8 [.tmp 2]:=⟨rfl,rfl⟩
@[go_sem] theorem fr202:FN Tryz.f202 8 [.tmp 2]:=⟨rfl,rfl⟩
@[go_sem] theorem fr203:FN Tryz.f203 8 [.tmp 2]:=⟨rfl,rfl⟩
@[go_sem] theorem fr207:FN Tryz.f207 99 [.tmp 4]:=⟨rfl,rfl⟩
@[go_sem] theorem fr208:FN Tryz.f208 25 [.tmp 6]:=⟨rfl,rfl⟩
@[go_sem] theorem fr209:FN Tryz.f209 6 [.tmp 4]:=⟨rfl,rfl⟩
@[go_sem] theorem fr210:FN Tryz.f210 15 [.tmp 3]:=⟨rfl,rfl⟩
@[go_sem] theorem fr211:FN Tryz.f211 9 [.tmp 3]:=⟨rfl,rfl⟩
@[go_sem] theorem fr212:FN Tryz.f212 57 [.tmp 2]:=⟨rfl,rfl⟩
@[go_sem] theorem fr213:FN Tryz.f213 41 [.tmp 3]:=⟨rfl,rfl⟩
@[go_sem] theorem fr214:FN Tryz.f214 9 [.tmp 4]:=⟨rfl,rfl⟩
@[go_sem] theorem fr215:FN Tryz.f215 9 [.tmp 3]:=⟨rfl,rfl⟩
@[go_sem] theorem fr216:FN Tryz.f216 9 [.tmp 3]:=⟨rfl,rfl⟩
@[go_sem] theorem fr217:FN Tryz.f217 13 [.tmp 2]:=⟨rfl,rfl⟩
@[go_sem] theorem fr218:FN Tryz.f218 56 [.tmp 3]:=⟨rfl,rfl⟩
@[go_sem] theorem fr219:FN Tryz.f219 63 [.tmp 2]:=⟨rfl,rfl⟩
@[go_sem] theorem fr220:FN Tryz.f220 20 [.tmp 4]:=⟨rfl,rfl⟩
@[go_sem] theorem fr221:FN Tryz.f221 26 [.tmp 4]:=⟨rfl,rfl⟩
@[go_sem] theorem fr222:FN Tryz.f222 164 [.tmp 2]:=⟨rfl,rfl⟩
@[go_sem] theorem fr223:FN Tryz.f223 29 [.tmp 4]:=⟨rfl,rfl⟩
@[go_sem] theorem fr224:FN Tryz.f224 77 [.tmp 6]:=⟨rfl,rfl⟩
@[go_sem] theorem fr236:FN Tryz.f236 19 [.tmp 4]:=⟨rfl,rfl⟩
@[go_sem] theorem fr237:FN Tryz.f237 53 []:=⟨rfl,rfl⟩
@[go_sem] theorem fr238:FN Tryz.f238 60 []:=⟨rfl,rfl⟩
@[go_sem] theorem fr239:FN Tryz.f239 67 []:=⟨rfl,rfl⟩
@[go_sem] theorem fr240:FN Tryz.f240 63 [.tmp 8,.tmp 9]:=⟨rfl,rfl⟩
@[go_sem] theorem fr241:FN Tryz.f241 34 []:=⟨rfl,rfl⟩
@[go_sem] theorem fr242:FN Tryz.f242 141 [.tmp 8]:=⟨rfl,rfl⟩
@[go_sem] theorem fr243:FN Tryz.f243 90 [.tmp 10]:=⟨rfl,rfl⟩
@[go_sem] theorem fr244:FN Tryz.f244 178 [.tmp 10,.tmp 11]:=⟨rfl,rfl⟩
@[go_sem] theorem fr245:FN Tryz.f245 19 [.tmp 2]:=⟨rfl,rfl⟩
@[go_sem] theorem fr246:FN Tryz.f246 25 [.tmp 2]:=⟨rfl,rfl⟩
@[go_sem] theorem fr247:FN Tryz.f247 10 []:=⟨rfl,rfl⟩
@[go_sem] theorem fr248:FN Tryz.f248 74 [.tmp 8]:=⟨rfl,rfl⟩
@[go_sem] theorem fr249:FN Tryz.f249 12 [.cell 2 171]:=⟨rfl,rfl⟩
@[go_sem] theorem fr250:FN Tryz.f250 31 [.tmp 6]:=⟨rfl,rfl⟩
@[go_sem] theorem fr251:FN Tryz.f251 74 [.cell 4 22,.cell 5 22]:=⟨rfl,rfl⟩
@[go_sem] theorem fr252:FN Tryz.f252 74 [.tmp 4,.tmp 5,.tmp 6]:=⟨rfl,rfl⟩
@[go_sem] theorem fr254:FN Tryz.f254 53 []:=⟨rfl,rfl⟩
@[go_sem] theorem fr256:FN Tryz.f256 27 [.tmp 4]:=⟨rfl,rfl⟩
@[go_sem] theorem fr257:FN Tryz.f257 77 [.tmp 8]:=⟨rfl,rfl⟩
@[go_sem] theorem fr258:FN Tryz.f258 32 [.tmp 6]:=⟨rfl,rfl⟩
@[go_sem] theorem fr259:FN Tryz.f259 24 [.tmp 4]:=⟨rfl,rfl⟩
@[go_sem] theorem fr260:FN Tryz.f260 13 [.tmp 4]:=⟨rfl,rfl⟩
@[go_sem] theorem fr261:FN Tryz.f261 134 []:=⟨rfl,rfl⟩
@[go_sem] theorem fr266:FN Tryz.f266 41 [.tmp 2]:=⟨rfl,rfl⟩
@[go_sem] theorem fr267:FN Tryz.f267 16 [.tmp 6,.tmp 7]:=⟨rfl,rfl⟩
@[go_sem] theorem fr268:FN Tryz.f268 5 [.tmp 2]:=⟨rfl,rfl⟩
@[go_sem] theorem fr269:FN Tryz.f269 14 [.tmp 4,.tmp 5]:=⟨rfl,rfl⟩
@[go_sem] theorem fr270:FN Tryz.f270 46 []:=⟨rfl,rfl⟩
@[go_sem] theorem fr271:FN Tryz.f271 26 [.tmp 4]:=⟨rfl,rfl⟩
@[go_sem] theorem fr272:FN Tryz.f272 19 [.tmp 4]:=⟨rfl,rfl⟩
@[go_sem] theorem fr273:FN Tryz.f273 21 [.cell 2 333,.tmp 3]:=⟨rfl,rfl⟩
@[go_sem] theorem fr274:FN Tryz.f274 25 [.tmp 2]:=⟨rfl,rfl⟩
@[go_sem] theorem fr280:FN Tryz.f280 82 []:=⟨rfl,rfl⟩
@[go_sem] theorem fr281:FN Tryz.f281 7 [.tmp 2]:=⟨rfl,rfl⟩
@[go_sem] theorem fr282:FN Tryz.f282 33 [.tmp 2]:=⟨rfl,rfl⟩
@[go_sem] theorem fr283:FN Tryz.f283 18 [.tmp 8]:=⟨rfl,rfl⟩
@[go_sem] theorem fr284:FN Tryz.f284 41 [.tmp 12]:=⟨rfl,rfl⟩
@[go_sem] theorem fr285:FN Tryz.f285 4 [.tmp 2]:=⟨rfl,rfl⟩
@[go_sem] theorem fr286:FN Tryz.f286 24 [.tmp 4,.tmp 5]:=⟨rfl,rfl⟩
@[go_sem] theorem fr287:FN Tryz.f287 33 [.tmp 2,.tmp 3,.tmp 4]:=⟨rfl,rfl⟩
@[go_sem] theorem fr290:FN Tryz.f290 49 []:=⟨rfl,rfl⟩
@[go_sem] theorem fr291:FN Tryz.f291 56 []:=⟨rfl,rfl⟩
@[go_sem] theorem fr292:FN Tryz.f292 65 []:=⟨rfl,rfl⟩
@[go_sem] theorem fr293:FN Tryz.f293 57 [.tmp 6,.tmp 7]:=⟨rfl,rfl⟩
@[go_sem] theorem fr294:FN Tryz.f294 32 []:=⟨rfl,rfl⟩
@[go_sem] theorem fr295:FN Tryz.f295 133 [.tmp 6]:=⟨rfl,rfl⟩
@[go_sem] theorem fr296:FN Tryz.f296 84 [.tmp 8]:=⟨rfl,rfl⟩
@[go_sem] theorem fr297:FN Tryz.f297 168 [.tmp 8,.tmp 9]:=⟨rfl,rfl⟩
@[go_sem] theorem fr299:FN Tryz.f299 19 [.tmp 4]:=⟨rfl,rfl⟩
@[go_sem] theorem fr300:FN Tryz.f300 15 [.tmp 4]:=⟨rfl,rfl⟩
@[go_sem] theorem fr301:FN Tryz.f301 8 [.tmp 3]:=⟨rfl,rfl⟩
@[go_sem] theorem fr302:FN Tryz.f302 35 [.tmp 2,.tmp 3]:=⟨rfl,rfl⟩
@[go_sem] theorem fr303:FN Tryz.f303 9 [.tmp 4]:=⟨rfl,rfl⟩
@[go_sem] theorem fr304:FN Tryz.f304 8 [.tmp 3]:=⟨rfl,rfl⟩
@[go_sem] theorem fr305:FN Tryz.f305 47 [.tmp 0]:=⟨rfl,rfl⟩
@[go_sem] theorem fr306:FN Tryz.f306 49 [.tmp 6,.tmp 7]:=⟨rfl,rfl⟩
@[go_sem] theorem fr307:FN Tryz.f307 9 [.tmp 4]:=⟨rfl,rfl⟩
@[go_sem] theorem fr311:FN Tryz.f311 32 [.tmp 10,.tmp 11]:=⟨rfl,rfl⟩
@[go_sem] theorem fr312:FN Tryz.f312 28 []:=⟨rfl,rfl⟩
@[go_sem] theorem fr313:FN Tryz.f313 25 [.tmp 2]:=⟨rfl,rfl⟩
@[go_sem] theorem fr315:FN Tryz.f315 76 []:=⟨rfl,rfl⟩
@[go_sem] theorem fr316:FN Tryz.f316 15 [.tmp 6]:=⟨rfl,rfl⟩
@[go_sem] theorem fr317:FN Tryz.f317 36 [.tmp 10]:=⟨rfl,rfl⟩
@[go_sem] theorem fr318:FN Tryz.f318 9 [.tmp 4]:=⟨rfl,rfl⟩
@[go_sem] theorem fr319:FN Tryz.f319 9 [.tmp 2]:=⟨rfl,rfl⟩
@[go_sem] theorem fr320:FN Tryz.f320 68 []:=⟨rfl,rfl⟩
@[go_sem] theorem fr321:FN Tryz.f321 19 [.tmp 4]:=⟨rfl,rfl⟩
@[go_sem] theorem fr326:FN Tryz.f326 28 [.tmp 8,.tmp 9]:=⟨rfl,rfl⟩
@[go_sem] theorem fr327:FN Tryz.f327 19 [.tmp 4]:=⟨rfl,rfl⟩
@[go_sem] theorem fr328:FN Tryz.f328 93 []:=⟨rfl,rfl⟩
@[go_sem] theorem fr329:FN Tryz.f329 17 [.tmp 4]:=⟨rfl,rfl⟩
@[go_sem] theorem fr330:FN Tryz.f330 25 []:=⟨rfl,rfl⟩
@[go_sem] theorem fr332:FN Tryz.f332 8 [.tmp 4]:=⟨rfl,rfl⟩
@[go_sem] theorem fr333:FN Tryz.f333 30 [.tmp 4]:=⟨rfl,rfl⟩
@[go_sem] theorem fr334:FN Tryz.f334 29 []:=⟨rfl,rfl⟩
@[go_sem] theorem fr335:FN Tryz.f335 20 []:=⟨rfl,rfl⟩
@[go_sem] theorem fr336:FN Tryz.f336 8 [.tmp 2]:=⟨rfl,rfl⟩
@[go_sem] theorem fr337:FN Tryz.f337 14 [.tmp 2]:=⟨rfl,rfl⟩
@[go_sem] theorem fr338:FN Tryz.f338 8 []:=⟨rfl,rfl⟩
@[go_sem] theorem fr340:FN Tryz.f340 18 [.tmp 4]:=⟨rfl,rfl⟩
theorem Bf {α:Type} (a:α):∃b,b=a:=⟨a,rfl⟩
noncomputable def OH:(E:B6)->(P:Program)->(ops:Array Oper)->(Q:SA->Hp->Nat->Prop)->List Oper->SA->Hp->Nat->Prop:=Classical.choose (Bf IL)
theorem OI:OH=IL:=jv (Bf IL)
noncomputable def Kj:(E:B6)->(P:Program)->(ops:Array Oper)->(Q:SA->Hp->Nat->Prop)->List Oper->List CR->SA->Hp->Nat->Prop:=Classical.choose (Bf E7)
theorem MH:Kj=E7:=jv (Bf E7)
noncomputable def Jr:(E:B6)->(P:Program)->(N:Nat)->Code->dO->SA->Hp->Nat->Prop:=Classical.choose (Bf Fk)
theorem Eg:Jr=Fk:=jv (Bf Fk)
noncomputable def Up:(E:B6)->(P:Program)->(ops:Array Oper)->(Q:SA->Hp->Nat->Prop)->List Oper->SA->Option Tmp->SV->Hp->Nat->Prop:=
 Classical.choose (Bf λE P ops Q rest sa dst v h n=>OH E P ops Q rest (EB sa dst v) h n)
@[go_sem] theorem ZR (E:B6) (P:Program) (ops:Array Oper) (Q:SA->Hp->Nat->Prop) (rest:List Oper) (sa:SA) (dst:Option Tmp) (v:SV) (h:Hp) (n:Nat):
 Up E P ops Q rest sa dst v h n=OH E P ops Q rest (EB sa dst v) h n:=by
 unfold Up;rw[jv (Bf λE P ops Q rest sa dst v h n=>OH E P ops Q rest (EB sa dst v) h n)]
noncomputable def O9:(E:B6)->(P:Program)->(N:Nat)->Code->dO->dO:=Classical.choose (Bf λE P N b Q=>DX (Fk E P N b Q) Q)
theorem Jb:O9=λE P N b Q=>DX (Fk E P N b Q) Q:=jv (Bf λE P N b Q=>DX (Fk E P N b Q) Q)
noncomputable def Le:Nat->dO->dO:=Classical.choose (Bf FP)
theorem Ie:Le=FP:=jv (Bf FP)
section
variable (E : B6) (P : Program) (N : Nat) (ops : Array Oper) (a b : Code) (id : Nat) (Q : dO) (K : SA → Hp → Nat → Prop) (sa : SA) (h : Hp) (n : Nat)
@[go_sem] theorem Uq:O9 E P N b Q .normal sa h n=Jr E P N b Q sa h n:=by rw[Jb,Eg];simp only[DX]
@[go_sem] theorem lL:O9 E P N b Q (.exit id) sa h n=Q (.exit id) sa h n:=by rw[Jb];simp only[DX]
@[go_sem] theorem XB:O9 E P N b Q .ret sa h n=Q .ret sa h n:=by rw[Jb];simp only[DX]
@[go_sem] theorem UO:Le id Q .normal sa h n=Q .normal sa h n:=by rw[Ie];simp only[FP]
@[go_sem] theorem WN:Le id Q .ret sa h n=Q .ret sa h n:=by rw[Ie];simp only[FP]
@[go_sem] theorem Ve (i:Nat):Le id Q (.exit i) sa h n=if i=id then Q .normal sa h n else Q (.exit i) sa h n:=by rw[Ie];simp only[FP]
@[go_sem] theorem ZB:Jr E P N .skip Q sa h n=Q .normal sa h n:=by rw[Eg];simp only[Fk]
@[go_sem] theorem Za:Jr E P N (.seq a b) Q sa h n=Jr E P N a (O9 E P N b Q) sa h n:=by rw[Eg,Jb];simp only[Fk]
@[go_sem] theorem Y8 (c:Operand):Jr E P N (.cond c a b) Q sa h n=match Gp sa c with|.bool t=>if t=true then Jr E P N a Q sa h n else Jr E P N b Q sa h n|_=>False:=by rw[Eg];simp only[Fk]<;>cases Gp sa c<;>rfl
@[go_sem] theorem XG:Jr E P N (.block id b) Q sa h n=Jr E P N b (Le id Q) sa h n:=by rw[Eg,Ie];simp only[Fk]
@[go_sem] theorem Y9:Jr E P N (.exit id) Q sa h n=Q (.exit id) sa h n:=by rw[Eg];simp only[Fk]
@[go_sem] theorem ZY:Jr E P N .ret Q sa h n=Q .ret sa h n:=by rw[Eg];simp only[Fk]
@[go_sem] theorem W6:Jr E P N (.region id ops false) Q sa h n=OH E P ops (Q .normal) ops.toList sa h n:=by rw[Eg,OI];simp only[Fk]
@[go_sem] theorem XH:Jr E P N (.region id ops true) Q sa h n=(FA ops=true/\Kj E P ops (Q .normal) ops.toList [] sa h n):=by rw[Eg,MH];simp only[Fk]
@[go_sem] theorem ZA:Jr E P N (.loop b) Q sa h n=Fs E P N (.loop b) Q sa h n:=by rw[Eg];simp only[Fk]
@[go_sem] theorem XI (g:Operand) (ps:Array Tmp):Jr E P N (.rangeFunc g ps a b) Q sa h n=Fs E P N (.rangeFunc g ps a b) Q sa h n:=by rw[Eg];simp only[Fk]
@[go_sem] theorem ZC:OH E P ops K [] sa h n=K sa h n:=by rw[OI];simp only[IL]
@[go_sem] theorem XJ (o:Oper) (rest:List Oper):OH E P ops K (o::rest) sa h n =
 match Dg ops sa o with|some b=>if b=true then Ke E P o sa h n (Up E P ops K rest sa o.dst)else OH E P ops K rest (EB sa o.dst (.tup [])) h n|none=>False:=by
 unfold Up;rw[jv (Bf λE P ops Q rest sa dst v h n=>OH E P ops Q rest (EB sa dst v) h n)];rw[OI];simp only[IL];cases Dg ops sa o<;>rfl
@[go_sem] theorem XF (tr:List CR):Kj E P ops K [] tr sa h n=K sa h n:=by rw[MH];simp only[E7]
end
def CM (ops:Array Oper) (i:Nat) (r:CR):Nat->List CR->Bool
 | _,[]=>true
 | j,q::qs=>(Ex ops j i||(DG (Aq q.wr) r.foot&&DG (Aq r.wr) q.foot&&DG (Aq q.new) r.foot))&&CM ops i r (j+1) qs
theorem Ms (ops:Array Oper) (i:Nat) (r:CR):∀(l:List CR) (j:Nat),CM ops i r j l=Hh ops i r j l
 | [],_=>rfl
 | q::qs,j=>by rw[CM,Hh,Ms ops i r qs,Bool.or_comm]
noncomputable def Ja:(E:B6)->(P:Program)->(ops:Array Oper)->(Q:SA->Hp->Nat->Prop)->List Oper->List CR->SA->CR->Hp->Nat->Prop:=
 Classical.choose (Bf λE P ops Q rest tr sa r h n=>CM ops tr.length r 0 tr=true/\Kj E P ops Q rest (tr++[r]) (EB sa r.dst r.val) h n)
section
variable (E : B6) (P : Program) (ops : Array Oper) (K : SA → Hp → Nat → Prop) (sa : SA) (h : Hp) (n : Nat)
@[go_sem] theorem Ta (rest:List Oper) (tr:List CR) (r:CR):Ja E P ops K rest tr sa r h n=(CM ops tr.length r 0 tr=true/\Kj E P ops K rest (tr++[r]) (EB sa r.dst r.val) h n):=by
 unfold Ja;rw[jv (Bf λE P ops Q rest tr sa r h n=>CM ops tr.length r 0 tr=true/\Kj E P ops Q rest (tr++[r]) (EB sa r.dst r.val) h n)]
def Bs (g:FuncId) (us:List SV) (rest:List Oper) (tr:List CR) (dst:Option Tmp):Prop:=
 ∃foot wr v,K8 E P g us foot wr v h/\(∀k∈Aq wr,k∈foot)/\(∀k∈foot,k<n)/\Ja E P ops K rest tr sa { dst:=dst,val:=v,foot:=foot,wr:=wr } (CN h wr) n
def TH (o:Oper) (rest:List Oper) (tr:List CR):Prop:=
 match o.op with
 | .call { callee:=.value f,args,.. }=>
  match callee (Gp sa f) (args.toList.map (Gp sa))with
  | some (g,us)=>Bs E P ops K sa h n g us rest tr o.dst
  | none=>False
 | op =>
  match dV P (Gp sa) h n op with
  | some out=>
   (∀k∈Aq out.upd.toList++Ek (Gp sa) op,k<n)/\Ja E P ops K rest tr sa { dst:=o.dst,val:=out.val,foot:=Aq out.upd.toList++Ek (Gp sa) op,wr:=out.upd.toList,new:=(out.new.map λx=>(n,some x)).toList } (out.app h n) (if out.new.isSome then n+1 else n)
  | none=>∃v,OU P (Gp sa) o v/\Ja E P ops K rest tr sa { dst:=o.dst,val:=v } h n
@[go_sem] theorem lU (o:Oper) (rest:List Oper) (tr:List CR):Kj E P ops K (o::rest) tr sa h n =
 match Dg ops sa o with|some b=>if b=true then TH E P ops K sa h n o rest tr else Kj E P ops K rest (tr++[{ dst:=o.dst,val:=.tup [] }]) (EB sa o.dst (.tup [])) h n|none=>False:=by
 unfold TH Bs;simp only[Ta,Ms];rw[MH]
 conv=>lhs;unfold E7
 cases Dg ops sa o<;>rfl
variable {E}
theorem Bs.pure {g:FuncId} {us:List SV} {a:List Oper} {b:List CR} {dst:Option Tmp} {v:SV} (H:Fy P g us v) (c:Ja E P ops K a b sa { dst:=dst,val:=v } h n):Bs E P ops K sa h n g us a b dst:=
 ⟨[],[],v,H.u h,by simp[Aq],by simp,c⟩
theorem Bs.lend {g:FuncId} {us bs:List SV} {a:List Oper} {b:List CR} {dst:Option Tmp} {v:SV} (k:Nat) (foot:List Nat) (H:Fy P g bs v) (e:Ee v=true) (c:∀j∈foot,j<n) (hw:∀h',(∀j∈foot,h' j=h j)->AZ (Fz h' (λ_=>none) k) us bs)
 (d:Ja E P ops K a b sa { dst:=dst,val:=v,foot:=foot } h n):Bs E P ops K sa h n g us a b dst:=
 ⟨foot,[],v,H.lendU k foot e hw,by simp[Aq],c,d⟩
end
attribute [go_sem] TH Ek Aq Op.operands Call.operands SV.ids qK jY
attribute [go_sem] MT MS Jh
abbrev PC (f:FuncId) (args:List SV) (v:SV):Prop:=Fy Tryz.prog f args v
abbrev Es (h:Hp) (n:Nat):Prop:=∀o x,h o=some x->o<n/\BQ n x=true
theorem Ay {h h':Hp} {n n':Nat} {a v:SV} (c:Es h n) (b:∀o x,h o=some x->h' o=some x) (e:a=v) (hc:closed n v=true):B8 n h' n' a (Is v h n):=by
 subst e;exact B8.plain hc c b ⟨rfl,rfl,rfl⟩
theorem Dy {h h':Hp} {n n':Nat} {a v:SV} (k:Nat) (c:Es h n) (b:∀o x,h o=some x->h' o=some x) (e:Fz h' h k a v) (hc:closed n v=true):B8 n h' n' a (Is v h n):=
 .inr ⟨k,v,h,e,hc,λo x e=>⟨b o x e,c o x e⟩,rfl,rfl,rfl⟩
theorem As {h:Hp} {n n':Nat} {a v:SV} (b:Es h n) (hc:closed n v=true) (e:a=v):B8 n h n' a (Is v h n):=Ay b (λ_ _ e=>e) e hc
theorem AQ {h:Hp} {n o:Nat} {y:Option BT} (c:Es h n) (hn:n<=o) {h':Hp} (b:∀o x,h o=some x->h' o=some x):∀a x,h a=some x->hset h' o y a=some x:=by
 intro a x e;have:=(c a x e).1;have ne:a≠o:=by omega
 simp[hset,ne,b _ _ e]
theorem AB {h:Hp}:∀o x,h o=some x->h o=some x:=λ_ _ e=>e
theorem go {E:B6} {f:FuncId} {fn:Func} {code:Code} {args:List SV} {h:Hp} {n:Nat} {K:SV->Hp->Nat->Prop} (b:Tryz.prog.funcs[f]? = some fn) (hb:fn.body=some code)
 (hn:(fn.name != "runtime.NumGoroutine")=true) (a:Code.dok fn.ntmps code=true) (hl:args.length<=fn.ntmps)
 (H:Es h n->Jr (E.call false 0) Tryz.prog fn.ntmps code (MT Tryz.prog fn n K) (Ec 0 args) h n):Ak E Tryz.prog f args h n K:=
 Ra follows b hb hn a hl λ_ c=>by rw[<-Eg];exact H c
theorem gq {E:B6} {f:FuncId} {fn:Func} {code:Code} {args:List SV} {h:Hp} {n:Nat} {K:SV->Hp->Nat->Prop} (b:Tryz.prog.funcs[f]? = some fn) (hb:fn.body=some code)
 (H:Es h n->Jr (E.call false 0) Tryz.prog fn.ntmps code (MT Tryz.prog fn n K) (Ec 0 args) h n)
 (hn:(fn.name != "runtime.NumGoroutine")=true:=by kernel_rfl) (a:Code.dok fn.ntmps code=true:=by kernel_rfl) (hl:args.length<=fn.ntmps:=by simp[go_sem]):Ak E Tryz.prog f args h n K:=
 go b hb hn a hl H
theorem An {E:B6} {N:Nat} {x:Code} {Q:dO} {sa:SA} {h:Hp} {n:Nat} {α:Type} (k:Nat) (fr:α->SA) (hp:α->Hp) (I:α->Nat->Prop) (μ:α->Nat) (a0:α) (hI:I a0 n)
 (c:∀p∈fr a0,Fz h (hp a0) k (Ai sa p.1) p.2) (d:∀o y,hp a0 o=some y->h o=some y)
 (b:∀a n,I a n->Jr E Tryz.prog N x (DX (λe h' n'=>∃a',μ a'<μ a/\I a' n'/\(∀p∈fr a',Fz h' (hp a') k (Ai e p.1) p.2)/\(∀o y,hp a' o=some y->h' o=some y)) Q) (fr a) (hp a) n):
 Fs E Tryz.prog N (.loop x) Q sa h n:=
 SW follows k fr hp I μ a0 hI c d λa n f=>by rw[<-Eg];exact b a n f
@[go_sem] theorem FB (K:SA->Hp->Nat->Prop) (Q:dO):DX K Q .normal=K:=rfl
@[go_sem] theorem Wv (K:SA->Hp->Nat->Prop) (Q:dO) (i:Nat):DX K Q (.exit i)=Q (.exit i):=rfl
@[go_sem] theorem XD (K:SA->Hp->Nat->Prop) (Q:dO):DX K Q .ret=Q .ret:=rfl
attribute [go_sem] closed closedL
theorem nd {ops:Array Oper} {i j:Nat} {r:CR} {l:List CR} {R:Prop} (h:CM ops i r j l=true) (a:R):CM ops i r j l=true/\R:=⟨h,a⟩
theorem sd {ops:Array Oper} {R:Prop} (h:FA ops=true) (a:R):FA ops=true/\R:=⟨h,a⟩
theorem Cl {x:Int} (h0:-4611686018427387904<=x) (h1:x<=4611686018427387904):IntKind.i64.wrap x=x:=IntWalk.i64_in x (by omega)
theorem nq {ops:Array Oper} {i j:Nat} {r:CR} {l:List CR} {R:Prop} (a:R) (h:CM ops i r j l=true:=by kernel_rfl):CM ops i r j l=true/\R:=⟨h,a⟩
theorem sq {ops:Array Oper} {R:Prop} (a:R) (h:FA ops=true:=by kernel_rfl):FA ops=true/\R:=⟨h,a⟩
theorem aq {a R:Prop} (b:R) (h:a:=by omega):a/\R:=⟨h,b⟩
theorem wS (i:Nat) (h:i<4611686018427387904):IntKind.i64.wrap ((i:Int)+1)=((i+1:Nat):Int):=by rw[Cl]<;>omega
theorem Es.lt {h:Hp} {n:Nat} (a:Es h n):∀j y,h j=some y->j<n:=λj y e=>(a j y e).1
theorem PC.use {E:B6} {f:FuncId} {args:List SV} {v:SV} (H:PC f args v) {h:Hp} {n:Nat} {K:SV->Hp->Nat->Prop} (a:K v h n):Ak E Tryz.prog f args h n K:=Fy.use H a
theorem Sv {s:ByteArray} {i:Nat} (h:i<s.size):s[i]? = some s[i]:=getElem?_pos s i h
set_option maxRecDepth 10000
def LK (b:Int):Int:=if b=224 then 160 else if b=240 then 144 else 128
def Iy (b:Int):Int:=if b=237 then 159 else if b=244 then 143 else 191
def Ew (b:Int):Int:=if b<128 then 1 else if b<194\/244<b then 0 else if b<224 then 2 else if b<240 then 3 else 4
theorem al (b:Int):PC 287 [.int .u8 b] (.tup [.int .u8 (LK b),.int .u8 (Iy b),.int .i64 (Ew b)]):=by
 intro h n;refine gq Tryz.func287 rfl λk=>?_;by_cases a:b<128<;>by_cases h2:b<194<;>by_cases c:244<b<;>by_cases d:b<224<;>by_cases e:b<240<;>by_cases f:b=224<;>by_cases g:b=237<;>by_cases i:b=240<;>by_cases j:b=244<;>try omega
 all_goals
  simp[go_sem,a,h2,c,d,e,f,g,i,j,LK,Iy,Ew];exact As k rfl (by simp)
def BO (s:ByteArray) (i:Nat):Int:=match s[i]? with|some b=>b.toNat|none=>0
def GM (s:ByteArray) (a n:Nat):Nat->Int->Int->Nat->Nat×Bool
 | 0,_,_,k=>(k,true)
 | f+1,lo,hi,k=>if s.size<=a+k\/BO s (a+k)<lo\/hi<BO s (a+k)then(k,false)else GM s a n f 128 191 (k+1)
def CV (s:ByteArray) (a:Nat):Nat×Bool:=
 let b:=BO s a
 let n:=Ew b
 if n=0 then(0,false)else if n=1 then(1,true)else GM s a n.toNat (n.toNat-1) (LK b) (Iy b) 1
theorem Ei {s:ByteArray} {i:Nat} (h:i<s.size):s[i]? = some s[i]/\BO s i=s[i].toNat:=by
 have:=Sv h;simp[BO,this]
theorem Mf (b:Int):0<=Ew b/\Ew b<=4:=by unfold Ew;repeat' split<;>omega
theorem aY (s:ByteArray) (a:Nat) (A:a<s.size) (hs:s.size<=1099511627776):PC 252 [.str s,.int .i64 a] (.tup [.junk,.int .i64 (CV s a).1,.bool (CV s a).2]):=by
 intro h n;refine gq Tryz.func252 rfl λi=>?_;obtain⟨x,y⟩:=Ei A;simp[go_sem,x,<-y];refine(al _).use ?_;obtain⟨o,v⟩:=Mf (BO s a);simp[go_sem,o];by_cases h0:Ew (BO s a)=0;simp[h0];exact Dy 3 i AB (by simp[Fz,AZ,CV,h0]) rfl;by_cases j:Ew (BO s a)=1;simp[j];exact Dy 3 i AB (by simp[Fz,AZ,CV,j]) rfl;have w:CV s a=GM s a (Ew (BO s a)).toNat ((Ew (BO s a)).toNat-1) (LK (BO s a)) (Iy (BO s a)) 1:=by simp[CV,h0,j]
 obtain⟨z,E⟩:∃z:Nat,Ew (BO s a)=z:=⟨(Ew (BO s a)).toNat,by omega⟩
 rw[E]at w h0 j o v ⊢;simp only[h0,j,if_false];rw[w];simp only[Int.toNat_natCast];generalize IntKind.i64.wrap _=p0;refine An 3 (α:=Int×Int×Int×Nat) (λq=>[(0,.str s),(1,.int .i64 a),(4,.int .i64 q.1),(5,.int .i64 q.2.2.2),(8,.int .u8 q.2.1),(9,.int .u8 q.2.2.1),(10,.int .i64 z)]) (λ_=>h)
  (λq m=>n<=m/\1<=q.2.2.2/\q.2.2.2<=z/\GM s a z (z-1) (LK (BO s a)) (Iy (BO s a)) 1=GM s a z (z-q.2.2.2) q.2.1 q.2.2.1 q.2.2.2) (λq=>z-q.2.2.2) (p0,LK (BO s a),Iy (BO s a),1) ?_ ?_ AB ?_
 exact⟨qa _,by simp,by simp;omega,rfl⟩;simp[Ai];rintro⟨p,lo,hi,k⟩ m ⟨D,u,l,d⟩;by_cases g:k<z;obtain⟨f,B⟩:∃f,z-k=f+1:=⟨z-k-1,by omega⟩
 have C:z-(k+1)=f:=by omega
 have w1:IntKind.i64.wrap ((a:Int)+k)=((a+k:Nat):Int):=by rw[Cl]<;>omega
 have w2:=wS k (by omega);dsimp only at d u l;rw[B,GM]at d;by_cases b:s.size<=a+k;simp[go_sem,g,w1,b,-Int.natCast_add];exact Dy 3 i AB (by simp[Fz,AZ,d,b]) rfl;obtain⟨r,t⟩:=Ei (kC b);by_cases c:BO s (a+k)<lo;simp[go_sem,g,w1,b,r,<-t,c,-Int.natCast_add];exact Dy 3 i AB (by simp[Fz,AZ,d,c]) rfl;by_cases e:hi<BO s (a+k);simp[go_sem,g,w1,b,r,<-t,c,e,-Int.natCast_add];exact Dy 3 i AB (by simp[Fz,AZ,d,e]) rfl;simp[go_sem,g,w1,w2,b,r,<-t,c,e,-Int.natCast_add];rw[if_neg (by simp only[not_or];exact⟨b,c,e⟩)]at d;refine⟨_,128,191,k+1,by omega,⟨D,by omega,by omega,by rw[C];exact d⟩,IO,IO,IO,IO⟩;have:k=z:=by dsimp only at l;omega
 subst this;simp[go_sem];rw[Nat.sub_self,GM]at d;exact Dy 3 i AB (by simp[Fz,AZ,d]) rfl
theorem J0 (s:ByteArray) (a n:Nat):∀(f:Nat) (lo hi:Int) (k:Nat),k<=(GM s a n f lo hi k).1/\(GM s a n f lo hi k).1<=k+f
 | 0,_,_,k=>by simp[GM]
 | f+1,lo,hi,k=>by
  rw[GM];split;simp;have:=J0 s a n f 128 191 (k+1);omega
theorem JO {s:ByteArray} {a:Nat} (h:(CV s a).2=true):1<=(CV s a).1:=by
 simp only[CV]at h ⊢;split;rename_i e;simp[e]at h;split;exact qa _;exact(J0 _ _ _ _ _ _ _).1
theorem Oj (s:ByteArray) (a:Nat):(CV s a).1<=4:=by
 simp only[CV];split;simp;split;simp;have:=(J0 s a (Ew (BO s a)).toNat ((Ew (BO s a)).toNat-1) (LK (BO s a)) (Iy (BO s a)) 1).2;have:=Mf (BO s a);omega
def HR (s:ByteArray) (a:Nat):Int:=
 if _:a<s.size then if _:(CV s a).2=true then HR s (a+(CV s a).1)else a else -1
termination_by s.size-a
decreasing_by
 rename_i h2
 have:=JO h2;omega
def CZ (s:ByteArray):Bool:=decide (HR s 0<0)
theorem aB (s:ByteArray) (f:s.size<=1099511627776):PC 182 [.str s] (.int .i64 (HR s 0)):=by
 intro h n;refine gq Tryz.func182 rfl λd=>?_;simp[go_sem];refine An 1 (α:=Nat) (λk=>[(0,.str s),(3,.int .i64 k)]) (λ_=>h) (λk m=>n<=m/\k<=s.size+4/\HR s 0=HR s k) (λk=>s.size+4-k) 0 ?_ ?_ AB ?_;exact⟨qa _,by omega,rfl⟩;simp[Ai];rintro k m ⟨e,hk,b⟩;by_cases a:k<s.size;simp[go_sem,a];refine(aY s k a f).use ?_;have hp:=@JO s k;have hl:=Oj s k;have w:IntKind.i64.wrap ((k:Int)+((CV s k).1:Int))=((k+(CV s k).1:Nat):Int):=by rw[Cl]<;>omega
 rw[HR.eq_def s k]at b;by_cases c:(CV s k).2=true;simp[a,c]at b;simp[go_sem,c,w,-Int.natCast_add];have:=hp c;exact⟨k+(CV s k).1,by omega,⟨e,by omega,b⟩,IO⟩;simp[a,c]at b;simp[go_sem,c];exact As d rfl (by rw[b]);simp[go_sem,a];rw[HR.eq_def s k]at b;simp[a]at b;exact As d rfl (by rw[b])
theorem P7 (s:ByteArray) (b:s.size<=1099511627776):PC 116 [.str s] (.bool (CZ s)):=by
 intro h n;refine gq Tryz.func116 rfl λa=>?_;simp[go_sem];refine(aB s b).use ?_;simp[go_sem];exact As a rfl (by simp[CZ])
def Gn (b:Int):Bool:=!(IntKind.u8.wrap (BitVec.ofInt 8 b &&& BitVec.ofInt 8 192).toNat==128)
def DK (s:ByteArray):Nat->Nat
 | 0=>0
 | k+1=>DK s k+if Gn (BO s k)then 1 else 0
theorem HS (s:ByteArray):∀k,DK s k<=k
 | 0=>qa _
 | k+1=>by have:=HS s k;simp only[DK];split<;>omega
theorem Xb (s:ByteArray) (i:s.size<=1099511627776):PC 177 [.str s] (.tup [.int .i64 (if CZ s then DK s s.size else 0),.int .i64 (if CZ s then 0 else 12)]):=by
 intro h n;refine gq Tryz.func177 rfl λd=>?_;simp[go_sem];refine(P7 s i).use ?_;by_cases e:CZ s=true;simp[go_sem,e];refine An 1 (α:=Nat) (λk=>[(0,.str s),(2,.int .i64 (DK s k)),(9,.int .i64 s.size),(10,.int .i64 k)]) (λ_=>h) (λk m=>n<=m/\k<=s.size) (λk=>s.size-k) 0 ?_ ?_ AB ?_;exact⟨qa _,by omega⟩;simp[Ai,DK];rintro k m ⟨c,hk⟩;by_cases a:k<s.size;obtain⟨f,g⟩:=Ei a;have hl:=HS s k;have w1:=wS k (by omega);have w2:IntKind.i64.wrap ((DK s k:Int)+1)=((DK s k+1:Nat):Int):=by rw[Cl]<;>omega
 simp[go_sem,a,<-g,w1,w2,-Int.natCast_add];split;rename_i b;have hc:Gn (BO s k)=false:=by simp only[Gn,Bool.not_eq_false',beq_iff_eq];exact b
 exact⟨k+1,by omega,⟨c,by omega⟩,by simp[DK,hc],IO⟩;rename_i b;have hc:Gn (BO s k)=true:=by simp only[Gn,js,beq_eq_false_iff_ne];exact b
 exact⟨k+1,by omega,⟨c,by omega⟩,by simp[DK,hc],IO⟩;have:k=s.size:=by omega
 subst this;simp[go_sem];exact As d rfl (by simp);simp[go_sem,e];exact As d rfl (by simp)
def AM (z:Nat) (o:Option Nat) (es:List SV):SV:=match o with|none=>.imm 0 [] true|some j=>.sl j 0 z es.length false
def AN (o:Option Nat) (es:List SV) (h:Hp):Hp:=match o with|none=>h|some j=>hset h j (some (.cells (es.flatMap SV.cells)))
structure Ar (n m z:Nat) (o:Option Nat) (es:List SV):Prop where
 none:o=Option.none->es=[]
 lt:∀j,o=some j->n<=j/\j<m
 size:∀e∈es,e.storable=true/\e.cells.length=z
theorem Ar.nil (n m z:Nat):Ar n m z Option.none []:=⟨λ_=>rfl,by simp,by simp⟩
theorem A7 {z:Nat}:∀{es:List SV},(∀e∈es,e.storable=true/\e.cells.length=z)->(es.flatMap SV.cells).length=es.length*z
 | [],_=>by simp
 | e::es,h=>by
  have:=A7 (es:=es) (z:=z) λx a=>h x (by simp[a]);simp[this,(h e (by simp)).2,jB,Nat.add_comm]
theorem Ar.push {n m m' z:Nat} {o:Option Nat} {es:List SV} {e:SV} {j:Nat} (H:Ar n m z o es) (d:e.storable=true) (c:e.cells.length=z) (b:n<=j) (h2:j<m'):Ar n m' z (some j) (es++[e]):=
 ⟨by simp,by rintro k e;cases e;exact⟨b,h2⟩,by intro x a;simp at a;rcases a with a|rfl;exact H.size x a;exact⟨d,c⟩⟩
theorem Ar.mono {n m m' z:Nat} {o:Option Nat} {es:List SV} (H:Ar n m z o es) (a:m<=m'):Ar n m' z o es:=⟨H.none,λj e=>⟨(H.lt j e).1,kq (H.lt j e).2 a⟩,H.size⟩
theorem Es.none {h:Hp} {n j:Nat} (a:Es h n) (hj:n<=j):h j=none:=by
 cases e:h j with
 | none=>rfl
 | some x=>have:=(a j x e).1;omega
theorem AN.old {h:Hp} {n m z:Nat} {o:Option Nat} {es:List SV} (a:Es h n) (H:Ar n m z o es):∀j x,h j=some x->AN o es h j=some x:=by
 cases o with
 | none=>exact λ_ _ e=>e
 | some k=>exact AQ a (H.lt k rfl).1 AB
theorem AC (h:Hp) (j:Nat) (x:Option BT):hset h j x j=x:=by simp[hset]
theorem AD (h:Hp) {j k:Nat} (x:Option BT) (e:k≠j):hset h j x k=h k:=by simp[hset,e]
theorem AM.fz {h:Hp} {n m z k:Nat} {o:Option Nat} {es:List SV} (d:Es h n) (H:Ar n m z o es) {h':Hp} (b:∀j y,AN o es h j=some y->h' j=some y):Fz h' h (k+1) (AM z o es) (.imm z es false):=by
 cases o with
 | none=>rw[H.none rfl];exact .inr ⟨by simp,.inl rfl,trivial,by simp⟩
 | some j =>
  have c:=b j (.cells (es.flatMap SV.cells)) (by simp[AN,hset]);refine .inr ⟨d.none (H.lt j rfl).1,by simp,rfl,rfl,_,_,c,by simp[Bg,A7 H.size];rfl,H.size,?_⟩;have:∀l:List SV,AZ (Fz h' h k) l l:=by
   intro l;induction l with
   | nil=>trivial
   | cons a l ih=>exact⟨IO,ih⟩
  simp only[<-A7 H.size,qi];exact this _
theorem U7 {h h':Hp} {n n' m z:Nat} {o:Option Nat} {es:List SV} {v:SV} (a:Es h n) (H:Ar n m z o es) (b:∀j y,AN o es h j=some y->h' j=some y) (c:v=AM z o es) (hc:∀e∈es,closed n e=true):B8 n h' n' v (Is (.imm z es false) h n):=by
 subst c;refine Dy 1 a (λj x e=>b j x (AN.old a H j x e)) (AM.fz a H b) ?_;rw[closed];exact BU.2 hc
section
variable {P : Program}
theorem XO {h0:Hp} {n m z:Nat} {es:List SV} {e:SV} {o:Option Nat} {t t2 el:TypeId} (ht:A9 P t=some el) (h:(A9 P t2).isSome=true) (q:Bh P el=z) (b:z≠0) (g:(BH P el).storable=true) (i:(BH P el).cells.length=z)
 (hroom:es.length+1<=1073741824) (hb:BY P el<=65536) (H:Ar n m z o es) (l:e.cells.length=z) (a:Gq el=none:=by rfl):
 AU P (hset (AN o es h0) m (some (.cells e.cells))) (m+1) .append [t,t2] [AM z o es,.sl m 0 z 1 true] =
  some { val:=.sl (m+1) 0 z (es.length+1) false,upd:=o.map λj=>(j,none),new:=some (.cells (es.flatMap SV.cells++e.cells)) }:=by
 have c:flat (hset (AN o es h0) m (some (.cells e.cells))) (.sl m 0 z 1 true)=some e.cells:=by
  simp[flat,hset,Bg,l];exact qB (by omega)
 have k:dY (es.length+1) (BY P el)=true:=by simp[dY];exact⟨by omega,hb⟩
 simp only[AU,h,if_true,Cm,ht,Dw,c,q,i,g];cases o with
 | none=>
  have:=H.none rfl;subst this;simp[AM,Hd,b,a];have f:dY 1 (BY P el)=true:=by simpa using k
  exact f
 | some j =>
  have d:j≠m:=by have:=(H.lt j rfl).2;omega
  have p:flat (hset (AN (some j) es h0) m (some (.cells e.cells))) (.sl j 0 z es.length false)=some (es.flatMap SV.cells):=by
   simp only[flat,AD _ _ d,AN,AC,Bg,jc,A7 H.size,qa,if_true,kn];rw[<-A7 H.size,qi]
  simp[AM,Hd,b,p,k,GX a]
theorem Mc {h0:Hp} {n m:Nat} {es:List SV} {e:SV} {o:Option Nat} {z:Nat} (f:Es h0 n) (hn:n<=m) (H:Ar n m z o es):
 ∀j y,AN (some (m+1)) (es++[e]) h0 j=some y->
  (dW.app (hset (AN o es h0) m (some (.cells e.cells))) (m+1) { val:=.sl (m+1) 0 z (es.length+1) false,upd:=o.map λj=>(j,none),new:=some (.cells (es.flatMap SV.cells++e.cells)) }) j=some y:=by
 intro j y a;simp only[AN]at a;by_cases b:j=m+1;subst b;rw[AC]at a;simp only[dW.app,AC];rw[<-a];simp;rw[AD _ _ b]at a;have hlt:=(f j y a).1;have c:j≠m:=by omega
 cases o with
 | none=>simp[dW.app,AD _ _ b,AD _ _ c,AN,a]
 | some k=>
  have d:j≠k:=by have:=(H.lt k rfl).1;omega
  simp[dW.app,AD _ _ b,AD _ _ c,AD _ _ d,AN,a]
end
abbrev AA:Int->SV:=.int .i64
structure Er where
 key:Int
 value:Int
 deriving DecidableEq
structure Az where
 rev:Int
 move:Int
 deriving DecidableEq
structure Am where
 rev:Int
 key:Int
 before:Int
 had:Bool
 deriving DecidableEq
structure AF where
 props:List Er
 ins:Int
 move:Int
 dels:List Az
 layers:List Am
 deriving DecidableEq
structure Ax where
 id:Int
 author:ByteArray
 time:Int
 deriving DecidableEq
structure A6 where
 id:Int
 kind:Int
 name:ByteArray
 base:Int
 next:Int
 props:List Er
 deriving DecidableEq
structure CX where
 format:Int
 start:Int
 template:ByteArray
 restart:Int
 deriving DecidableEq
structure Fb where
 id:Int
 levels:List CX
 deriving DecidableEq
structure Au where
 id:Int
 parent:Int
 author:ByteArray
 time:Int
 text:ByteArray
 done:Bool
 deriving DecidableEq
structure Ft where
 name:ByteArray
 value:ByteArray
 deriving DecidableEq
structure AK where
 styles:List A6
 lists:List Fb
 comments:List Au
 vars:List Ft
 deriving DecidableEq
mutual
inductive AE where
 | mk (kind code id:Int) (text:ByteArray) (head:AF) (flow:List AE) (rows:List Aa)
inductive Aa where
 | mk (head:AF) (cells:List Wl)
inductive Wl where
 | mk (id:Int) (head:AF) (flow:List AE)
end
structure AI where
 flow:List AE
 «end» : AF
 revs:List Ax
 settings:AK
def Er.enc (p:Er):SV:=.agg [AA p.key,AA p.value]
def Az.enc (p:Az):SV:=.agg [AA p.rev,AA p.move]
def Am.enc (p:Am):SV:=.agg [AA p.rev,AA p.key,AA p.before,.bool p.had]
abbrev Af (l:List Er):SV:=.imm 2 (l.map Er.enc) false
abbrev AP (l:List Az):SV:=.imm 2 (l.map Az.enc) false
abbrev AL (l:List Am):SV:=.imm 4 (l.map Am.enc) false
def AF.flat (h:AF):List SV:=[Af h.props,AA h.ins,AA h.move,AP h.dels,AL h.layers]
def AF.enc (h:AF):SV:=.agg h.flat
def Ax.enc (r:Ax):SV:=.agg [AA r.id,.str r.author,AA r.time]
abbrev Ao (l:List Ax):SV:=.imm 3 (l.map Ax.enc) false
def A6.enc (s:A6):SV:=.agg [AA s.id,AA s.kind,.str s.name,AA s.base,AA s.next,Af s.props]
def CX.enc (l:CX):SV:=.agg [AA l.format,AA l.start,.str l.template,AA l.restart]
abbrev DL (l:List CX):SV:=.imm 4 (l.map CX.enc) false
def Fb.enc (l:Fb):SV:=.agg [AA l.id,DL l.levels]
def Au.enc (c:Au):SV:=.agg [AA c.id,AA c.parent,.str c.author,AA c.time,.str c.text,.bool c.done]
def Ft.enc (v:Ft):SV:=.agg [.str v.name,.str v.value]
abbrev Ae (l:List A6):SV:=.imm 6 (l.map A6.enc) false
abbrev Di (l:List Fb):SV:=.imm 2 (l.map Fb.enc) false
abbrev BZ (l:List Au):SV:=.imm 6 (l.map Au.enc) false
abbrev FI (l:List Ft):SV:=.imm 2 (l.map Ft.enc) false
def AK.flat (s:AK):List SV:=[Ae s.styles,Di s.lists,BZ s.comments,FI s.vars]
def AK.enc (s:AK):SV:=.agg s.flat
mutual
def AE.enc:AE->SV
 | .mk k c i t h f r=>.agg ([AA k,AA c,AA i,.str t]++h.flat++[.imm 11 (AE.encL f) false,.imm 6 (Aa.encL r) false])
def AE.encL:List AE->List SV
 | []=>[]
 | x::l=>x.enc::AE.encL l
def Aa.enc:Aa->SV
 | .mk h c=>.agg (h.flat++[.imm 7 (Wl.encL c) false])
def Aa.encL:List Aa->List SV
 | []=>[]
 | x::l=>x.enc::Aa.encL l
def Wl.enc:Wl->SV
 | .mk i h f=>.agg ([AA i]++h.flat++[.imm 11 (AE.encL f) false])
def Wl.encL:List Wl->List SV
 | []=>[]
 | x::l=>x.enc::Wl.encL l
end
theorem AE.encL_eq (l:List AE):AE.encL l=l.map AE.enc:=by induction l with|nil=>rfl|cons a l ih=>rw[AE.encL,ih];rfl
theorem Aa.encL_eq (l:List Aa):Aa.encL l=l.map Aa.enc:=by induction l with|nil=>rfl|cons a l ih=>rw[Aa.encL,ih];rfl
theorem Wl.encL_eq (l:List Wl):Wl.encL l=l.map Wl.enc:=by induction l with|nil=>rfl|cons a l ih=>rw[Wl.encL,ih];rfl
abbrev AG (l:List AE):SV:=.imm 11 (l.map AE.enc) false
abbrev A3 (l:List Aa):SV:=.imm 6 (l.map Aa.enc) false
abbrev BS (l:List Wl):SV:=.imm 7 (l.map Wl.enc) false
def AE.kind:AE->Int|.mk k _ _ _ _ _ _=>k
def AE.code:AE->Int|.mk _ c _ _ _ _ _=>c
def AE.id:AE->Int|.mk _ _ i _ _ _ _=>i
def AE.text:AE->ByteArray|.mk _ _ _ t _ _ _=>t
def AE.head:AE->AF|.mk _ _ _ _ h _ _=>h
def AE.flow:AE->List AE|.mk _ _ _ _ _ f _=>f
def AE.rows:AE->List Aa|.mk _ _ _ _ _ _ r=>r
def Aa.head:Aa->AF|.mk h _=>h
def Aa.cells:Aa->List Wl|.mk _ c=>c
def Wl.id:Wl->Int|.mk i _ _=>i
def Wl.head:Wl->AF|.mk _ h _=>h
def Wl.flow:Wl->List AE|.mk _ _ f=>f
theorem AE.enc_eq (x:AE):x.enc=.agg [AA x.kind,AA x.code,AA x.id,.str x.text,Af x.head.props,AA x.head.ins,AA x.head.move,AP x.head.dels,AL x.head.layers,AG x.flow,A3 x.rows]:=by
 cases x;simp[AE.enc,AF.flat,AE.encL_eq,Aa.encL_eq];exact⟨rfl,rfl,rfl,rfl,rfl,rfl,rfl,rfl,rfl,rfl,rfl⟩
theorem Aa.enc_eq (x:Aa):x.enc=.agg [Af x.head.props,AA x.head.ins,AA x.head.move,AP x.head.dels,AL x.head.layers,BS x.cells]:=by
 cases x;simp[Aa.enc,AF.flat,Wl.encL_eq];exact⟨rfl,rfl,rfl,rfl,rfl,rfl⟩
theorem Wl.enc_eq (x:Wl):x.enc=.agg [AA x.id,Af x.head.props,AA x.head.ins,AA x.head.move,AP x.head.dels,AL x.head.layers,AG x.flow]:=by
 cases x;simp[Wl.enc,AF.flat,AE.encL_eq];exact⟨rfl,rfl,rfl,rfl,rfl,rfl,rfl⟩
def Bm (s:ByteArray):Nat->List Int
 | 0=>[]
 | k+1=>if Gn (BO s k)then Bm s k++[(k:Int)]else Bm s k
theorem Ev (s:ByteArray):∀k,(Bm s k).length=DK s k
 | 0=>rfl
 | k+1=>by simp only[Bm,DK];split<;>simp[Ev s k]
theorem lp (s:ByteArray) (hs:s.size<=1048576):PC 313 [.str s] (.imm 1 ((Bm s s.size++[(s.size:Int)]).map AA) false):=by
 intro h n;refine gq Tryz.func313 rfl λg=>?_;simp[go_sem];refine An 1 (α:=Nat×Option Nat) (λq=>[(0,.str s),(3,AM 1 q.2 ((Bm s q.1).map AA)),(6,.int .i64 s.size),(7,.int .i64 q.1)]) (λq=>AN q.2 ((Bm s q.1).map AA) h)
  (λq m=>n<=m/\q.1<=s.size/\Ar n m 1 q.2 ((Bm s q.1).map AA)) (λq=>s.size-q.1) (0,none) ?_ ?_ AB ?_
 exact⟨qa _,by omega,Ar.nil _ _ _⟩;simp[Ai,Bm,AM];rintro⟨k,o⟩ m ⟨d,p,b⟩;dsimp only at p b;have hlen:=Ev s k;have hle:=HS s k;have w1:=wS k (by omega);by_cases c:k<s.size;obtain⟨j,l⟩:=Ei c;have a:=XO (P:=Tryz.prog) (h0:=h) (e:=AA k) (t:=61) (t2:=61) (el:=3) (by simp[go_sem]) (by simp[go_sem]) (by simp[go_sem]) (by simp) (by simp[go_sem]) (by simp[go_sem]) (by simp;omega) (by simp[go_sem]) b rfl;simp only[SV.cells]at a;simp[go_sem,c,<-l,w1,a,-Int.natCast_add];split;rename_i f;have hc:Gn (BO s k)=false:=by simp only[Gn,Bool.not_eq_false',beq_iff_eq];exact f
 have hb:Bm s (k+1)=Bm s k:=by simp[Bm,hc]
 exact⟨k+1,by omega,o,⟨⟨d,by omega,by rw[hb];exact b⟩,by rw[hb];exact⟨IO,IO⟩,by rw[hb];exact AB⟩⟩;rename_i f;have hc:Gn (BO s k)=true:=by simp only[Gn,js,beq_eq_false_iff_ne];exact f
 have hb:Bm s (k+1)=Bm s k++[(k:Int)]:=by simp[Bm,hc]
 refine⟨k+1,by omega,some (m+1),⟨⟨by omega,by omega,?_⟩,⟨?_,IO⟩,?_⟩⟩;rw[hb,qc];exact b.push rfl rfl (by omega) (by omega);rw[hb];simp[AM];rw[hb,qc];exact Mc g d b;have:k=s.size:=by omega
 subst this;have a:=XO (P:=Tryz.prog) (h0:=h) (e:=AA s.size) (t:=61) (t2:=61) (el:=3) (by simp[go_sem]) (by simp[go_sem]) (by simp[go_sem]) (by simp) (by simp[go_sem]) (by simp[go_sem]) (by simp;omega) (by simp[go_sem]) b rfl;simp only[SV.cells]at a;simp[go_sem,a];refine U7 g (b.push (e:=AA s.size) rfl rfl (Nat.le_succ_of_le d) (qP (m+1))) (Mc g d b) (by simp[AM]) ?_;intro e i;simp at i;rcases i with⟨_,_,rfl⟩|rfl<;>rfl
def Cv (s:ByteArray) (u:Int):Int×Int:=
 if CZ s=false then(0,12)else if u<0\/DK s s.size+1<=u then(0,2)else((Bm s s.size++[(s.size:Int)]).getD u.toNat 0,0)
theorem ak (s:ByteArray) (u:Int) (e:s.size<=1048576):PC 286 [.str s,.int .i64 u] (.tup [.int .i64 (Cv s u).1,.int .i64 (Cv s u).2]):=by
 intro h n;refine gq Tryz.func286 rfl λc=>?_;simp[go_sem];refine(P7 s (by omega)).use ?_;by_cases b:CZ s=true;simp[go_sem,b];refine(lp s e).use ?_;by_cases a:u<0;simp[go_sem,a];exact As c rfl (by simp[Cv,b,a]);by_cases h2:DK s s.size+1<=u;simp[go_sem,a,h2,Ev];exact As c rfl (by simp[Cv,b,a,h2]);have hl:u.toNat<(Bm s s.size++[(s.size:Int)]).length:=by simp[Ev];omega
 have d:(List.map AA (Bm s s.size)++[AA s.size])[u.toNat]? = some (AA ((Bm s s.size++[(s.size:Int)]).getD u.toNat 0)):=by
  have:List.map AA (Bm s s.size)++[AA s.size]=(Bm s s.size++[(s.size:Int)]).map AA:=by simp
  rw[this,qO,qf hl,KW,qf hl];rfl
 simp[go_sem,a,h2,Ev,d,Int.not_lt.1 a];exact As c rfl (by simp[Cv,b,a,h2]);simp[go_sem,b];exact As c rfl (by simp[Cv,b])
theorem Jw (a b c:Int):PC 155 [AA a,AA b,AA c] (.bool (decide (b<=a/\a<=c))):=by
 intro h n;refine gq Tryz.func155 rfl λe=>?_;by_cases d:b<=a<;>simp[go_sem,d];exact As e rfl (by simp[]);exact As e rfl (by simp[])
theorem JK (b:Bool) (e:Int):PC 87 [.bool b,AA e] (AA (if b then e else 0)):=by
 intro h n;refine gq Tryz.func87 rfl λa=>?_;cases b<;>simp[go_sem];exact As a rfl rfl;exact As a rfl rfl
def CJ:List Int->Int
 | []=>0
 | e::l=>if e=0 then CJ l else e
theorem Ov (l:List Int) (k:Nat) (a:k<l.length):CJ (l.drop k)=if l[k]=0 then CJ (l.drop (k+1))else l[k]:=by
 rw[qG a,CJ]
theorem Pw (l:List Int) (hl:l.length<=1048576):PC 82 [.imm 1 (l.map AA) false] (AA (CJ l)):=by
 intro h n;refine gq Tryz.func82 rfl λd=>?_;simp[go_sem];refine An 1 (α:=Nat) (λk=>[(5,.imm 1 (l.map AA) false),(6,AA l.length),(7,AA k)]) (λ_=>h) (λk m=>k<=l.length/\n<=m/\CJ l=CJ (l.drop k)) (λk=>l.length-k) 0 ?_ ?_ AB ?_;simp;simp[Ai];rintro k m ⟨hk,c,b⟩;by_cases a:k<l.length;have w1:=wS k (by omega);rw[Ov l k a]at b;by_cases h0:l[k]=0;simp[go_sem,a,h0,w1,-Int.natCast_add];exact⟨k+1,by omega,⟨by omega,c,by simpa[h0]using b⟩,IO⟩;simp[go_sem,a,h0];exact As d rfl (by simp[b,h0]);simp[go_sem,a];have:k=l.length:=by omega
 subst this;simp[CJ]at b;exact As d rfl (by rw[b])
def EN (s:ByteArray):Bool:=decide (1<=s.size/\s.size<=40)&&CZ s
theorem XY (s:ByteArray) (e:s.size<=1099511627776):PC 154 [.str s] (.bool (EN s)):=by
 intro h n;refine gq Tryz.func154 rfl λd=>?_;by_cases c:(1:Int)<=s.size;have a:1<=s.size:=by omega
 by_cases h2:(s.size:Int)<=40;have b:s.size<=40:=by omega
 simp[go_sem,c,h2];refine(P7 s e).use ?_;simp[go_sem];exact As d rfl (by simp[EN,a,b]);have b:¬s.size<=40:=by omega
 simp[go_sem,c,h2];exact As d rfl (by simp[EN,b]);have a:¬1<=s.size:=by omega
 simp[go_sem,c];exact As d rfl (by simp[EN,a])
def OD (s:ByteArray):Int:=CJ [if !CZ s then 12 else 0,if decide ((1024:Int)<s.size)then 10 else 0]
theorem Xf (s:ByteArray) (b:s.size<=1099511627776):PC 217 [.str s] (AA (OD s)):=by
 intro h n;refine gq Tryz.func217 rfl λa=>?_;simp[go_sem];refine(P7 s b).use ?_;simp[go_sem];refine(JK _ _).use ?_;simp[go_sem];refine(JK _ _).use ?_;simp[go_sem];refine(Pw [if !CZ s then 12 else 0,if decide ((1024:Int)<s.size)then 10 else 0] (by simp)).lend 2 rfl ?_ ?_;simp[AZ,Fz,hset,Bg,SV.storable,SV.cells];simp[go_sem];exact Ay a (AQ a (qa _) AB) (by simp[OD]) rfl
def G1 (F:Nat->Int) (i:Nat):Int:=if ¬(1<=F i/\F i<=1073741824)then 18 else if 0<i/\F i=F (i-1)then 7 else if 0<i/\F i<F (i-1)then 6 else 0
theorem V0 (i:Nat) (hi:i<=1099511627776) (g:FuncId) (a b:List SV) (F:Nat->Int) (o:∀j,j<=i->PC g (a++[AA j]++b) (AA (F j))):PC 152 [AA i,.fn (.func g) a b] (AA (G1 F i)):=by
 intro h n;refine gq Tryz.func152 rfl λd=>?_;have f:=o i (qa _);have l:=o (i-1) (by omega);simp only[qn,List.singleton_append]at f l;simp[go_sem];refine f.use ?_;simp[go_sem];refine(Jw _ _ _).use ?_;by_cases c:1<=F i/\F i<=1073741824;by_cases h0:0<i;have m:IntKind.i64.wrap ((i:Int)-1)=((i-1:Nat):Int):=by rw[Cl]<;>omega
 simp[go_sem,c,h0];refine f.use ?_;simp[go_sem,m];refine l.use ?_;by_cases h2:F i=F (i-1);simp[go_sem,h2];have e:G1 F i=7:=by unfold G1;rw[if_neg (by simpa using c),if_pos ⟨h0,h2⟩]
 exact As d rfl (by rw[e]);simp[go_sem,h2,h0];refine f.use ?_;simp[go_sem,m];refine l.use ?_;by_cases k:F i<F (i-1);simp[go_sem,k];exact As d rfl (by simp[G1,c,h0,h2,k]);simp[go_sem,k];exact As d rfl (by simp[G1,c,h0,h2,k]);simp[go_sem,c,h0];exact As d rfl (by simp[G1,c,h0]);simp[go_sem,c];exact As d rfl (by simp[G1,c])
def FK (F:Nat->Int):Nat->Int
 | 0=>0
 | n+1=>if FK F n=0 then F n else FK F n
theorem Ix (F:Nat->Int) {k n:Nat} (hk:k<n) (h0:FK F k=0) (a:F k≠0):FK F n=F k:=by
 induction n with
 | zero=>omega
 | succ n ih=>
  rw[FK];by_cases e:k=n;subst e;simp[h0];have:=ih (by omega);rw[this,if_neg a]
theorem Z2 (N:Nat) (hN:N<=1099511627776) (g:FuncId) (a b:List SV) (F:Nat->Int) (l:∀j,j<N->PC g (a++[AA j]++b) (AA (F j))):PC 150 [AA N,.fn (.func g) a b] (AA (FK F N)):=by
 intro h n;refine gq Tryz.func150 rfl λi=>?_;simp[go_sem];refine An 1 (α:=Nat) (λk=>[(1,.fn (.func g) a b),(7,AA N),(8,AA k)]) (λ_=>h) (λk m=>k<=N/\n<=m/\FK F k=0) (λk=>N-k) 0 ?_ ?_ AB ?_;simp[FK];simp[Ai];rintro k m ⟨hk,e,d⟩;by_cases c:k<N;have w1:=wS k (by omega);have f:=l k c;simp only[qn,List.singleton_append]at f;simp[go_sem,c];refine f.use ?_;by_cases h0:F k=0;simp[go_sem,h0,w1,-Int.natCast_add];exact⟨k+1,by omega,⟨by omega,e,by simp[FK,d,h0]⟩,IO⟩;simp[go_sem,h0];exact As i rfl (by rw[Ix F c d h0]);simp[go_sem,c];have:k=N:=by omega
 subst this;exact As i rfl (by rw[d])
theorem Z4 (l:List Ax) (i:Nat) (hi:i<l.length):PC 153 [AA i,.iptr [Ao l]] (AA (l[i]).id):=by
 intro h n;refine gq Tryz.func153 rfl λa=>?_;simp[go_sem,hi,Ax.enc];exact As a rfl rfl
def I9 (l:List Ax) (i:Nat):Int:=match l[i]? with
 | some r=>CJ [G1 (λj=>match l[j]? with|some r=>r.id|none=>0) i,if !EN r.author then 39 else 0,if !decide (0<=r.time/\r.time<=1099511627776)then 40 else 0]
 | none=>0
theorem Z3 (l:List Ax) (i:Nat) (hi:i<l.length) (hl:l.length<=1048576) (e:∀r∈l,r.author.size<=1048576):PC 151 [AA i,.iptr [Ao l]] (AA (I9 l i)):=by
 intro h n;refine gq Tryz.func151 rfl λc=>?_;simp[go_sem]
 repeat first|refine nq ?_|refine sq ?_
 have a:=V0 i (by omega) 153 [] [.iptr [Ao l]] (λj=>match l[j]? with|some r=>r.id|none=>0) (λj hj=>by
  have b:j<l.length:=by omega
  simpa[b]using Z4 l j b)
 refine Bs.pure _ _ _ _ _ _ a ?_;simp[go_sem,hi,Ax.enc]
 repeat first|refine nq ?_|refine sq ?_
 refine Bs.pure _ _ _ _ _ _ (XY _ (by have:=e _ (ql hi);omega)) ?_;simp[go_sem]
 repeat first|refine nq ?_|refine sq ?_
 refine Bs.pure _ _ _ _ _ _ (JK _ _) ?_;simp[go_sem,hi,Ax.enc]
 repeat first|refine nq ?_|refine sq ?_
 refine Bs.pure _ _ _ _ _ _ (Jw _ _ _) ?_;simp[go_sem]
 repeat first|refine nq ?_|refine sq ?_
 refine Bs.pure _ _ _ _ _ _ (JK _ _) ?_;simp[go_sem]
 repeat first|refine nq ?_|refine sq ?_
 refine Bs.lend _ _ _ _ _ _ 2 [n] (Pw [G1 (λj=>match l[j]? with|some r=>r.id|none=>0) i,if !EN (l[i]).author then 39 else 0,if !decide (0<=(l[i]).time/\(l[i]).time<=1099511627776)then 40 else 0] (by simp)) rfl (by simp) (λh' d=>?_) ?_;have:=d n (by simp);simp[hset]at this;simp[AZ,Fz,this,Bg,SV.storable,SV.cells];simp[go_sem]
 repeat first|refine nq ?_|refine sq ?_
 exact Ay c (AQ c (qa _) AB) (by simp[I9,hi]) rfl
def EY (l:List Ax):Int:=CJ [if decide (256<(l.length:Int))then 9 else 0,FK (I9 l) (min l.length 256)]
theorem c84 (l:List Ax) (hl:l.length<=1048576) (e:∀r∈l,r.author.size<=1048576):PC 84 [Ao l] (AA (EY l)):=by
 intro h n;refine gq Tryz.func84 rfl λd=>?_;simp[go_sem,AC]
 repeat first|refine nq ?_|refine sq ?_
 refine Bs.pure _ _ _ _ _ _ (JK _ _) ?_;have a:(if(256:Int)<(l.length:Int)then(256:Int)else(l.length:Int))=((min l.length 256:Nat):Int):=by split<;>omega
 simp[go_sem,AC,a]
 repeat first|refine nq ?_|refine sq ?_
 have b:=Z2 (min l.length 256) (by omega) 151 [] [.iptr [Ao l]] (I9 l) (λj hj=>Z3 l j (by omega) hl e);refine Bs.lend _ _ _ _ _ _ 3 [n] b rfl (by simp) (λh' c=>?_) ?_;have:=c n (by simp);simp[hset]at this;simp[AZ,Fz,this];simp[go_sem]
 repeat first|refine nq ?_|refine sq ?_
 refine Bs.lend _ _ _ _ _ _ 2 [n+1] (Pw [if decide (256<(l.length:Int))then 9 else 0,FK (I9 l) (min l.length 256)] (by simp)) rfl (by simp) (λh' c=>?_) ?_;have:=c (n+1) (by simp);simp[hset]at this;simp[AZ,Fz,this,Bg,SV.storable,SV.cells];simp[go_sem]
 repeat first|refine nq ?_|refine sq ?_
 exact Ay d (AQ d (je n) (AQ d (qa _) AB)) (by simp[EY]) rfl
end Go.Proofs.YtgakninlhfkkmaaGreat.Sh
