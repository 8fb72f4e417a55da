/- A part of the proof (part 8 of 17). -/
import Derived.Test.YthinbkgpjmjfeaaGreatDoorN7
import Derived.Shelf.SlGeneric
import Derived.Shelf.LaysM
import Derived.Shelf.Strings.Shaped
import Derived.Test.YthinbkgpjmjfeaaGreatDoorProg
namespace Go.Proofs.YthinbkgpjmjfeaaGreatDoor.Sh
open Go.Proofs.Tryz
abbrev qX:=@DB.cons
abbrev uc:=@DB.rd
abbrev wJ:=@Rd.zero
abbrev wP:=@DB.nil
open Proofs
set_option maxRecDepth 10000
set_option maxHeartbeats 4000000
def Ej(P:Program)(I:Cx->Prop)(Rs:M2):List Tp->BZ->Prop
 | [],_=>True
 | r::rest,E=>Ej P I Rs rest E/\∃(E1:BZ)(l N:Nat)(sa:SA),Ag sa r.fr/\(∀c,E1.inv c->I c)/\Ej P I Rs rest (E1.inRound l)/\
  ∀args hy m Q1,hy r.o=some (.loop (Rs r.o .ready none))->args.length=r.ps.size->Lj P (E1.inRound l) N r.o (Rs r.o) r.assign r.body Q1 (IW (r.ps.toList.zip args) sa) hy m->Jw E P r.o args hy m Q1
section
variable{P:Program}{I:Cx->Prop}{orc:Y7}{Rs:M2}
theorem Ej.mono:∀{rds:List Tp} {E E':BZ},(∀c,E'.inv c->E.inv c)->Ej P I Rs rds E->Ej P I Rs rds E'
 | [],_,_,_,_=>trivial
 | _::_,_,_,hi,⟨h1,E1,l,N,sa,h2,hI,h3,h4⟩=>⟨Ej.mono hi h1,E1,l,N,sa,h2,hI,h3,λargs b m a x y z c vs d e I=>h4 args b m a x y z c vs d e (hi _ I)⟩
theorem Ej.rs{a:M2}:∀{rds:List Tp} {E:BZ},(∀r∈rds,a r.o=Rs r.o)->Ej P I Rs rds E->Ej P I a rds E
 | [],_,_,_=>trivial
 | r::rest,E,hr,⟨h1,E1,l,N,sa,h2,hI,h3,h4⟩=>⟨Ej.rs (λq b=>hr q (by simp[b])) h1,E1,l,N,sa,h2,hI,Ej.rs (λq b=>hr q (by simp[b])) h3,by
  rw[hr r mr];exact h4⟩
theorem Ol{o:Nat}{r:Tp}{a:List Tp}{E:BZ}:∀{rds:List Tp},Mh rds o=some (r,a)->Ej P I Rs rds E->r.o=o/\Ej P I Rs (r::a) E
 | [],H,_=>by cases H
 | q::qs,H,hR=>by
  unfold Mh at H;cases e:Nat.beq q.o o<;>rw[e]at H<;>simp only[cond_true,cond_false]at H;exact Ol H hR.1;cases H;exact⟨qJ e,hR⟩
theorem UN{a:M2}{h:TB EO}{n:Nat}{x:Option A9}(g:∀o,o≠n->a o=Rs o):h_ (B8 a h) n x=h_ (B8 Rs h) n x:=by
 funext o;unfold h_;by_cases e:o=n;simp[e];simp only[e,if_false,B8];cases h.get o with
 | none=>rfl
 | some y=>cases y<;>simp[fK,g o e]
structure IP(P:Program)(I:Cx->Prop)(orc:Y7):Prop where
 call:∀g us v,orc.call g us=some v->∀(E:BZ),(∀c,E.inv c->I c)->∀(h:Hp)(n:Nat)(K:SV->Hp->Nat->Prop),K v h n->Ab E P g us h n K
 eff:∀g us h n v h' n',orc.eff g us h n=some (v,h',n')->∀(E:BZ),(∀c,E.inv c->I c)->∀(Rs:M2)(K:SV->Hp->Nat->Prop),K v (B8 Rs h') n'->Ab E P g us (B8 Rs h) n K
 look:∀(ev evs:Operand->SV)(h:TB EO)(o:Oper)(v:SV),orc.look ev h o=some v->(∀x∈o.op.operands,evs x=ev x)->((∀f args ts,o.op≠.call { callee:=.value f,args:=args,argTypes:=ts })/\∀t m y x,o.op≠.mapUpdate t m y x)/\
  ∀(E:BZ)(Rs:M2)(n:Nat)(K:SV->Hp->Nat->Prop),K v (B8 Rs h) n->FV E P evs o (B8 Rs h) n K
def cE(P:Program)(I:Cx->Prop)(rn:Js):Prop:=∀m c t h n e t' h' n',rn m c t h n=.ok (e,t',h',n')->∀(E:BZ)(N:Nat)(Rs:M2)(sa:SA)(Q:CT),(∀c,E.inv c->I c)->Ej P I Rs m.rds E->(m.ro=false->E.ro=none/\E.mks=true)->
 Ag sa t->(∀sa',Ag sa' t'->Q e sa' (B8 Rs h') n')->GU E P N c Q sa (B8 Rs h) n
theorem iC{h:TB EO}{t:TypeId}{s v:SV}(H:HL P (IU h) t s=some v):HL P (B8 Rs h) t s=some v:=by
 cases s<;>simp only[HL]at H ⊢ <;> try exact H
 split at H<;>try cases H
 rename_i cs ty e;rw[XQ e];exact H
theorem Mo{h:TB EO}{sa:SA}{t:TB SV}(A:Ag sa t):∀{l:List ResultVar} {rs:List SV},Vd P (BR t) (IU h) l=some rs->Lg P sa (B8 Rs h) l=some rs
 | [],_,H=>H
 | .tmp i::r,rs,H=>by
  simp only[Vd]at H;split at H<;>cases H;rename_i vs e;simp only[Lg,Mo A e,A i,vE]
 | .cell a i::r,rs,H=>by
  simp only[Vd]at H;split at H<;>try cases H
  rename_i v b;split at H<;>cases H;rename_i vs c;simp only[Lg,Mo A c,A a,iC b]
section
variable{E:BZ}
theorem Ke(k:IP P I orc){rn:Js}(hr:cE P I rn){rds:List Tp}{g:Nat}{us:List SV}{h:TB EO}{n:Nat}{v:SV}{h':TB EO}{n':Nat}(H:NM P orc rn rds g us h n=.ok (v,h',n'))(hI:∀c,E.inv c->I c)(l:Ej P I Rs rds E)
 {K:SV->Hp->Nat->Prop} (d:K v (B8 Rs h') n'):Ab E P g us (B8 Rs h) n K:=by
 unfold NM at H;split at H;rename_i v' f;cases H;exact k.call _ _ _ f E hI _ _ _ d;split at H;rename_i r f;cases H;exact k.eff _ _ _ _ _ _ _ f E hI Rs _ d;split at H<;>try cases H
 rename_i fn m;split at H<;>try cases H
 rename_i code hb;cases a:((fn.name != "runtime.NumGoroutine")&&(Code.dok fn.ntmps code&&Nat.ble us.length fn.ntmps))<;>rw[a]at H<;>simp only[cond_true,cond_false]at H;cases H;simp only[qg]at a;split at H;rename_i e t' h2 n2 b;refine Jt m hb a.1 a.2.1 (Nat.le_of_ble_eq_true a.2.2) λ_ _ B=>hr _ _ _ _ _ _ _ _ _ b (E.call true B) fn.ntmps Rs (D7 0 us) _ hI (Ej.mono (E:=E) (λ_ i=>i) l) (λ_=>⟨rfl,rfl⟩) (Ag.init us 0) λsa' j=>?_;split at H;split at H<;>cases H;rename_i rs e;exact⟨.inl rfl,rs,Mo j e,.inl d⟩;split at H<;>cases H;rename_i rs e;exact⟨.inr rfl,rs,Mo j e,.inl d⟩;cases H;cases H
theorem PP{rn:Js}(hr:cE P I rn){rds:List Tp}{o:Nat}{args:List SV}{h:TB EO}{n:Nat}{v:SV}{h':TB EO}{n':Nat}(H:QW rn rds o args h n=.ok (v,h',n'))(_hI:∀c,E.inv c->I c)(s:Ej P I Rs rds E)
 {K:SV->Hp->Nat->Prop} (f:K v (B8 Rs h') n'):Jw E P o args (B8 Rs h) n K:=by
 unfold QW at H;split at H<;>try cases H
 rename_i r rest a;obtain⟨rfl,hR1,E1,l,N,sa,A,g,i,t⟩:=Ol a s;split at H<;>try cases H
 rename_i hg;cases p:Nat.beq args.length r.ps.size<;>rw[p]at H<;>simp only[cond_true,cond_false]at H;cases H;split at H<;>try cases H
 rename_i t1 h1 n1 b;split at H<;>try cases H
 rename_i j;split at H<;>try cases H
 rename_i e t2 h2 n2 d;split at H<;>try cases H
 rename_i k;have key:∀(st:LoopState)(m:Option Code),B8 Rs (EN h2 r.o (some (.loop st m)))=h_ (B8 Rs h2) r.o (some (.loop (Rs r.o st m))):=λst m=>ES;refine t args _ n K (JU hg) (qJ p) ?_;refine hr _ _ _ _ _ _ _ _ _ b (E1.inRound l) N Rs _ _ g i (λe=>by cases e) (Ag.zip _ A) λsa1 q=>⟨rfl,JU j,?_⟩
 have kb:B8 Rs (EN h1 r.o (some (.loop .busy none)))=h_ (B8 Rs h1) r.o (some (.loop (Rs r.o .busy none))):=ES;rw[<-kb];refine hr _ _ _ _ _ _ _ _ _ d (E1.inRound l) N Rs _ _ g i (λe=>by cases e) q λsa2 A2=>⟨JU k,?_⟩
 split at H<;>cases H;rw[key]at f;exact f;rw[key]at f;exact f;rw[key]at f;exact f
theorem Vc(J:IP P I orc){rn:Js}(hr:cE P I rn){m:ZK}{g:Operand}{ps:Array Tmp}{a b:Code}{t:TB SV}{h:TB EO}{n:Nat}{e:Exit}{F:TB SV}{h':TB EO}{n':Nat}(H:TS P orc rn m g ps a b t h n=.ok (e,F,h',n'))
 {N:Nat} {sa:SA} {Q:CT} (hI:∀c,E.inv c->I c) (K:Ej P I Rs m.rds E) (D:m.ro=false->E.ro=none/\E.mks=true) (A:Ag sa t) (x:∀sa',Ag sa' F->Q e sa' (B8 Rs h') n'):GU E P N (.rangeFunc g ps a b) Q sa (B8 Rs h) n:=by
 unfold TS at H;split at H<;>try cases H
 rename_i f ys w hg;cases k:m.rds.all (λr=>!Nat.beq r.o n)<;>rw[k]at H<;>simp only[cond_true,cond_false]at H;cases H;split at H<;>try cases H
 rename_i v h2 n2 q;refine M4 (D w).1 (D w).2 (by rw[A.ev];exact hg) λE1 l R hi L=>?_;obtain⟨d,j⟩:∃d:M2,d=λo=>if o=n then R else Rs o:=⟨_,rfl⟩
 have hat:d n=R:=by rw[j];simp
 have s:∀o,o≠n->d o=Rs o:=λo M=>by rw[j];simp[M]
 have z:∀r∈m.rds,d r.o=Rs r.o:=λr B=>s _ λe=>by
  have:=qG.1 k r B;rw[e]at this;simp at this
 have u:Ej P I d m.rds E1:=(K.rs z).mono hi;have y:Ej P I d (⟨n,ps,a,b,t⟩::m.rds) E1:=⟨u,E1,l,N,sa,A,λc i=>hI c (hi c i),Ej.mono (E:=E1) (λ_ i=>i) u,by simp only[hat];exact L⟩
 have G:h_ (B8 Rs h) n (some (.loop (R .ready none)))=B8 d (EN h n (some (.loop .ready none))):=by
  rw[ES,UN s,<-hat];rfl
 rw[G];refine Ke J hr q (λc i=>hI c (hi c i)) y ?_;split at H<;>try cases H
 rename_i st O C;have p:=JU (Rs:=d) C;rw[hat]at p;have fin:h_ (B8 d h2) n none=B8 Rs (EN h2 n none):=by rw[ES,UN s];rfl
 refine⟨st,O,p,?_,?_⟩;rintro rfl;cases H
 . rw[fin];split at H<;>try cases H
   split at H<;>cases H;exact x _ A;exact x _ A;exact x _ A
theorem Ta{t:TB SV}{h:TB EO}{n:Nat}{op:Op}(a:(Cs (Ex (BR t)) op).all (Jk h)=true){sa:SA}(A:∀x∈op.operands,EV sa x=Ex (BR t) x):
 C0 P (EV sa) (B8 Rs h) n op=YZ P (Ex (BR t)) (IU h) n op:=
 (PF (ev:=Ex (BR t)) (ev':=EV sa) (h:=IU h) (h':=B8 Rs h) (λx c=>(A x c).symm) (λj b=>cy (qG.1 a j b))).symm.trans aY.symm
theorem PG{o:Oper}{sa:SA}{h:Hp}{n:Nat}{out:Cg}(a:C0 P (EV sa) h n o.op=some out){K:SV->Hp->Nat->Prop}(b:K out.val (out.app h n) (if out.new.isSome then n+1 else n)):Fa E P o sa h n K:=by
 unfold Fa;split;rename_i f args ts c;rw[c]at a;simp[C0]at a;rw[a];exact b
theorem E9{o:Oper}{sa:SA}{h:Hp}{n:Nat}(d:C0 P (EV sa) h n o.op=none)(h1:∀f args a,o.op≠.call { callee:=.value f,args:=args,argTypes:=a })(h2:∀t m y x,o.op≠.mapUpdate t m y x){K:SV->Hp->Nat->Prop}(b:FV E P (EV sa) o h n K):Fa E P o sa h n K:=by
 unfold Fa;split;rename_i f args a c;exact absurd c (h1 _ _ _);rw[d];simp only;exact b
theorem Mw{evs:Operand->SV}{o:Oper}{v:SV}(H:TW P evs o=some v):(∀f args ts,o.op≠.call { callee:=.value f,args:=args,argTypes:=ts })/\∀t m y x,o.op≠.mapUpdate t m y x:=by
 unfold TW at H;split at H;rename_i a;rw[a];simp;cases H
theorem aV{evs:Operand->SV}{o:Oper}{v:SV}{h:Hp}{n:Nat}{K:SV->Hp->Nat->Prop}(H:eG P o=some v)(c:K v h n):((∀f args ts,o.op≠.call { callee:=.value f,args:=args,argTypes:=ts })/\∀t m y x,o.op≠.mapUpdate t m y x)/\FV E P evs o h n K:=by
 unfold eG at H;split at H;rename_i t ps b;cases a:Nat.beq ps.size 0&&((A5 P t).bind P.info?).isSome<;>rw[a]at H<;>simp only[cond_true,cond_false]at H<;>cases H;simp only[qg]at a;have hp:ps = #[]:=by
  have:=qJ a.1;exact Array.eq_empty_of_size_eq_zero this
 exact⟨by rw[b];simp,BX (z:=0) b hp a.2 c⟩;cases H
theorem GD{h:TB EO}{o:Nat}{x:A9}(g:h.get o=some (.obj x)):B8 Rs h o=some x:=by
 unfold B8;rw[g];rfl
theorem Uv{evs ev:Operand->SV}{o:Oper}{h:Hp}{n:Nat}{v:SV}(H:aW ev o=some v)(A:∀x∈o.op.operands,evs x=ev x){K:SV->Hp->Nat->Prop}(g:K v h n):
 ((∀f args e,o.op≠.call { callee:=.value f,args:=args,argTypes:=e })/\∀t m y x,o.op≠.mapUpdate t m y x)/\FV E P evs o h n K:=by
 unfold aW at H;split at H<;>try cases H
 rename_i args e b;refine⟨by rw[b];simp,?_⟩;split at H<;>try cases H
 rename_i x i;have a:args = #[x]:=wG i;subst a;have c:=A x (by rw[b];simp[Op.operands,Call.operands]);split at H<;>try cases H
 rename_i j off z len full hv;cases d:Nat.beq len 0<;>rw[d]at H<;>simp only[cond_true,cond_false]at H<;>cases H;exact Jn b (c.trans hv) (Nat.ne_of_beq_eq_false d) g
theorem Oc:∀{b:List SV} {bs:List UInt8},Pb b=some bs->b=bs.map EH
 | [],bs,H=>by cases H;rfl
 | v::r,bs,H=>by
  unfold Pb at H;split at H<;>try cases H
  rename_i e;cases e;rename_i m r' e;cases e;cases hm:Nat.blt m 256<;>rw[hm]at H<;>simp only[cond_true,cond_false]at H;cases H;split at H<;>cases H;rename_i l c;rw[Oc c,qi];have a:m<256:=by simpa using hm
  have:((UInt8.ofNat m).toNat:Int)=Int.ofNat m:=by rw[UInt8.toNat_ofNat_of_lt' (by simpa using a)];rfl
  simp only[EH,this]
theorem aU{evs ev:Operand->SV}{o:Oper}{h:TB EO}{n:Nat}{v:SV}{h':TB EO}{n':Nat}(H:eF P ev h n o=some (v,h',n'))(A:∀x∈o.op.operands,evs x=ev x){K:SV->Hp->Nat->Prop}(b:K v (B8 Rs h') n'):
 ((∀f args B,o.op≠.call { callee:=.value f,args:=args,argTypes:=B })/\∀t m y x,o.op≠.mapUpdate t m y x)/\FV E P evs o (B8 Rs h) n K:=by
 unfold eF at H;split at H
 . rename_i t x a;refine⟨by rw[a];simp,?_⟩;have c:=A x (by rw[a];simp[Op.operands]);split at H<;>try cases H
   rename_i m hm;cases ht:(I6 P t).isSome<;>rw[ht]at H<;>simp only[cond_true,cond_false]at H;cases H;split at H<;>try cases H
   rename_i es hg;refine Ls a ht (c.trans hm) (GD hg) ?_;rw[ES,ES]at b;exact b
 . rename_i x a;refine⟨by rw[a];simp,?_⟩;have c:=A x (by rw[a];simp[Op.operands]);split at H<;>try cases H
   rename_i q l;split at H<;>try cases H
   rename_i last hg;exact LB a (c.trans l) (GD hg) (λi hi=>absurd hi (Nat.not_lt_zero _)) λ_=>b;rename_i p last hg;refine LB a (c.trans l) (GD hg) (λi hi=>?_) λe=>by cases e
   have:i=0:=by simp at hi;omega
   subst this;rw[ES]at b;exact b
 . rename_i x a;refine⟨by rw[a];simp,?_⟩;have c:=A x (by rw[a];simp[Op.operands]);split at H<;>try cases H
   rename_i q l;split at H<;>try cases H
   rename_i left p hg;exact Lq a (c.trans l) (GD hg) b
 . rename_i args B a;refine⟨by rw[a];simp,?_⟩;split at H<;>try cases H
   rename_i x y L it c u;have d:args = #[x,y]:=wG c;have g:B = #[L,it]:=wG u;subst d;subst g;have w:=A x (by rw[a];simp[Op.operands,Call.operands]);have z:=A y (by rw[a];simp[Op.operands,Call.operands]);split at H<;>try cases H
   rename_i j m e F G J;split at H<;>try cases H
   rename_i cs C hg;cases k:Nat.beq e C&&Nat.beq (P.cellsOf e) 1<;>rw[k]at H<;>simp only[cond_true,cond_false]at H;cases H;simp only[qg]at k;split at H<;>try cases H
   rename_i bs r;cases hd:Nat.beq bs.length m&&(!Nat.beq m 0&&Nat.ble m 9223372036854775807)<;>rw[hd]at H<;>simp only[cond_true,cond_false]at H<;>cases H;simp only[qg,qS]at hd;have I:=qJ k.1;subst I;have hm:=qJ hd.1;subst hm;have s:=Oc r;subst s;rw[ES]at b;refine Hr a J (qJ k.2) (w.trans F) (z.trans G) (GD hg) (λD=>?_) (Nat.le_of_ble_eq_true hd.2.2) b;rw[D]at hd;exact absurd hd.2.1 mr
 cases H
theorem dN(i:IP P I orc){t:TB SV}{h:TB EO}{n:Nat}{o:Oper}{v:SV}{h':TB EO}{n':Nat}(H:mC P orc t h n o=.ok (v,h',n')){sa:SA}(A:∀x∈o.op.operands,EV sa x=Ex (BR t) x){K:SV->Hp->Nat->Prop}(c:K v (B8 Rs h') n'):Fa E P o sa (B8 Rs h) n K:=by
 unfold mC at H;cases e:(Cs (Ex (BR t)) o.op).all (Jk h)<;>rw[e]at H<;>simp only[cond_true,cond_false]at H;cases H;have a:=Ta (Rs:=Rs) (P:=P) (n:=n) e A;split at H;rename_i out d;rw[d]at a;refine PG a ?_;have g:(if out.new.isSome then n+1 else n)=match out.new with|some _=>n+1|none=>n:=by cases out.new<;>rfl
 rw[g,<-T3];cases H;exact c
 . rename_i d;rw[d]at a;split at H;rename_i f b;cases H;exact E9 a (Mw b).1 (Mw b).2 ((LN.congr A (QJ b)).op c)
   . split at H;rename_i f b;cases H;have:=aV (E:=E) (P:=P) (evs:=EV sa) b c;exact E9 a this.1.1 this.1.2 this.2
     . split at H;rename_i r b;cases H;have:=aU (E:=E) (P:=P) (Rs:=Rs) (evs:=EV sa) b A c;exact E9 a this.1.1 this.1.2 this.2
       . split at H;rename_i f b;cases H;have:=Uv (E:=E) (P:=P) (evs:=EV sa) b A c;exact E9 a this.1.1 this.1.2 this.2
         . split at H<;>try cases H
           rename_i b;have:=i.look _ (EV sa) _ _ _ b A;exact E9 a this.1.1 this.1.2 (this.2 E Rs n K c)
theorem X6(i:IP P I orc){t:TB SV}{h:TB EO}{n:Nat}{o:Oper}{v:SV}(H:Ug P orc t h n o=some v){sa:SA}(A:∀x∈o.op.operands,EV sa x=Ex (BR t) x){K:SV->Hp->Nat->Prop}(c:K v (B8 Rs h) n):Fa E P o sa (B8 Rs h) n K:=by
 unfold Ug at H;cases f:(Cs (Ex (BR t)) o.op).all (Jk h)<;>rw[f]at H<;>simp only[cond_true,cond_false]at H;cases H;have a:=Ta (Rs:=Rs) (P:=P) (n:=n) f A;split at H
 . rename_i out d;rw[d]at a;split at H<;>try cases H
   rename_i j;split at H<;>try cases H
   rename_i g;refine PG a ?_;have e:out.app (B8 Rs h) n=B8 Rs h:=by unfold Cg.app;rw[j,g]
   rw[e,g];exact c
 rename_i d;rw[d]at a;split at H;rename_i k b;cases H;exact E9 a (Mw b).1 (Mw b).2 ((LN.congr A (QJ b)).op c);split at H;rename_i k b;cases H;have:=Uv (E:=E) (P:=P) (evs:=EV sa) b A c;exact E9 a this.1.1 this.1.2 this.2;have:=i.look _ (EV sa) _ _ _ H A;exact E9 a this.1.1 this.1.2 (this.2 E Rs n K c)
theorem SE(q:IP P I orc){k l:Nat->List SV->TB EO->Nat->ER VO}(r:∀g us h n v h' n',k g us h n=.ok (v,h',n')->∀K:SV->Hp->Nat->Prop,K v (B8 Rs h') n'->Ab E P g us (B8 Rs h) n K)
 (u:∀g us h n v h' n',l g us h n=.ok (v,h',n')->∀K:SV->Hp->Nat->Prop,K v (B8 Rs h') n'->Jw E P g us (B8 Rs h) n K) {t:TB SV} {h:TB EO} {n:Nat} {o:Oper} {v:SV} {h':TB EO} {n':Nat}
 (a:PK P orc k l t h n o=.ok (v,h',n')) {sa:SA} (A:∀x∈o.op.operands,EV sa x=Ex (BR t) x) {K:SV->Hp->Nat->Prop} (i:K v (B8 Rs h') n'):Fa E P o sa (B8 Rs h) n K:=by
 unfold PK at a;split at a
 . rename_i f args ts j;have m:EV sa f=Ex (BR t) f:=A f (by rw[j];simp[Op.operands,Call.operands]);have p:args.toList.map (EV sa)=args.toList.map (Ex (BR t)):=qF λx s=>A x (by rw[j];simp[Op.operands,Call.operands];exact .inr (by simpa using s));unfold Fa;rw[j];simp only;rw[m,p];split at a;rename_i g us b;rw[b];exact r _ _ _ _ _ _ _ a _ i
   . rename_i b;rw[b];split at a<;>try cases a
     rename_i y c;have d:Mc (Ex (BR t) f)=none:=by
      unfold Mb at c;split at c<;>cases c;rename_i e;rw[e];rfl
     simp only[d,c];exact u _ _ _ _ _ _ _ a _ i
 exact dN q a A i
theorem P4(f:IP P I orc){m p:Nat->List SV->TB EO->Nat->ER VO}{d:Array Oper}(j:∀g us h n v h' n',m g us h n=.ok (v,h',n')->∀K:SV->Hp->Nat->Prop,K v (B8 Rs h') n'->Ab E P g us (B8 Rs h) n K)
 (k:∀g us h n v h' n',p g us h n=.ok (v,h',n')->∀K:SV->Hp->Nat->Prop,K v (B8 Rs h') n'->Jw E P g us (B8 Rs h) n K):
 ∀(l:List Oper)(i:Nat)(t:TB SV)(h:TB EO)(n:Nat)(e:Exit)(c:TB SV)(h':TB EO)(n':Nat),TM P orc m p d i l t h n=.ok (e,c,h',n')->∀(sa:SA)(Q:SA->Hp->Nat->Prop),Ag sa t->(∀sa',e=.normal->Ag sa' c->Q sa' (B8 Rs h') n')->Ht E P d Q l sa (B8 Rs h) n
 | [],_,t,h,n,e,c,h',n',H,sa,Q,A,hQ=>by
  cases H;exact hQ sa rfl A
 | o::rest,i,t,h,n,e,c,h',n',H,sa,Q,A,hQ=>by
  unfold TM at H;unfold Ht;rw[GZ,A.look];split at H<;>try cases H
  rename_i b hg;rw[hg];simp only;split at H
  . rw[my rfl];split at H<;>try cases H
    rename_i v h1 n1 a;have q:=P4 f j k rest (i+1) (K6 t o.dst v) h1 n1 e c h' n' H (C1 sa o.dst v) Q (A.put _ _) hQ;exact SE f j k a (λx _=>by rw[A.ev]) q
  rw[mw mr];exact P4 f j k rest (i+1) _ h n e c h' n' H _ Q (A.put _ _) hQ
end
theorem Iu{b c:Nat->List SV->TB EO->Nat->ER VO}{a:Array Oper}:∀{l:List Oper} {i:Nat} {t:TB SV} {h:TB EO} {n:Nat} {e:Exit} {r:TB SV×TB EO×Nat},TM P orc b c a i l t h n=.ok (e,r)->e=.normal
 | [],_,_,_,_,_,_,H=>by cases H;rfl
 | o::rest,i,t,h,n,e,r,H=>by
  unfold TM at H;split at H<;>try cases H
  split at H
  . split at H<;>try cases H
    exact Iu H
  exact Iu H
theorem PB{α:Type}{D:Nat->Bool}:∀{l:List (List (Nat×α))} {i:Nat} {f:Nat->α},Dj l D (i+1) f=Dj l (λq=>D (q+1)) i f
 | [],_,_=>rfl
 | w::l,i,f=>by simp only[Dj];exact PB
theorem Q3{rs:List CC}{f:Nat->SV}:UA rs f 0=f:=by
 funext t;exact Mu λq w _ a=>by simp at a
theorem Q2{r:CC}{rs:List CC}{f:Nat->SV}{p:Nat}:UA (r::rs) f (p+1)=UA rs (CU f r.tw) p:=by
 unfold UA;simp only[qi,Dj];rw[PB];simp
theorem Ow{t:TB SV}{d:Option Tmp}{v:SV}:BR (K6 t d v)=CU (BR t) (CC.tw { dst:=d,val:=v }):=by
 funext k;cases d with
 | none=>rfl
 | some d=>simp only[K6,W9,JL,CC.tw,Option.toList_some,qi,vN,CU,qL,List.foldl_nil,Vv]
def KG(l:List Oper)(rs:List DR):List CC:=List.zipWith (λo r=>{ dst:=o.dst,val:=r.v }) l rs
theorem LA{r0:DR}{rs:List DR}:∀p,Gz (G9 (r0::rs)) (p+1)=(if r0.e=true then 1 else 0)+Gz (G9 rs) p
 | 0=>by simp[Gz,G9]
 | p+1=>by
  rw[Gz,LA p];have:G9 (r0::rs) (p+1)=G9 rs p:=by simp[G9]
  rw[this,Gz];omega
structure V4(P:Program)(orc:Y7)(rc ry:Nat->List SV->TB EO->Nat->ER VO)(ops:Array Oper)(l:List Oper)(rs:List DR)(t te:TB SV)(hl:List (TB EO×Nat))(he:TB EO)(ne:Nat)(h:TB EO)(n:Nat):Prop where
 len:rs.length=l.length
 fin:BR te=UA (KG l rs) (BR t) l.length
 first:hl[0]? = some (h,n)
 last:hl[Gz (G9 rs) l.length]? = some (he,ne)
 sb:∀sa,Ag sa t->∃sb,Ag sb te
 at_:∀(p:Nat)(o:Oper)(r:DR),l[p]? = some o->rs[p]? = some r->BR r.t=UA (KG l rs) (BR t) p/\DI ops (BR r.t) o=some r.g/\(r.g=false->r.v=.tup []/\r.e=false)/\
  (r.e=true->r.g=true/\∃h1 n1 h2 n2,hl[Gz (G9 rs) p]? = some (h1,n1)/\hl[Gz (G9 rs) p+1]? = some (h2,n2)/\PK P orc rc ry r.t h1 n1 o=.ok (r.v,h2,n2))
theorem NZ{m s:Nat->List SV->TB EO->Nat->ER VO}{f:Array Oper}{o:Oper}{a:List Oper}{r0:DR}{rs:List DR}{x:TB SV}{i d:List (TB EO×Nat)}{w:TB EO}{ne:Nat}{h:TB EO}{n:Nat}{h':TB EO}{n':Nat}
 (c:V4 P orc m s f a rs (K6 r0.t o.dst r0.v) x i w ne h' n') (hg:DI f (BR r0.t) o=some r0.g) (h1:r0.g=false->r0.v=.tup []/\r0.e=false)
 (u:r0.e=true->r0.g=true/\PK P orc m s r0.t h n o=.ok (r0.v,h',n')) (h0:r0.e=false->h'=h/\n'=n) (hh:d=if r0.e=true then(h,n)::i else i):
 V4 P orc m s f (o::a) (r0::rs) r0.t x d w ne h n:=by
 have l:∀k,d[(if r0.e=true then 1 else 0)+k]? = i[k]?:=λk=>by
  rw[hh];cases r0.e<;>simp[Nat.add_comm 1 k]
 have b:KG (o::a) (r0::rs)={ dst:=o.dst,val:=r0.v }::KG a rs:=rfl;refine⟨by simp[c.len],?_,?_,?_,λsa A=>c.sb _ (A.put o.dst r0.v),?_⟩;rw[b,qo,Q2,c.fin,Ow];rw[hh];cases e:r0.e;obtain⟨rfl,rfl⟩:=h0 e;simpa using c.first
 simp;rw[qo,LA,l];exact c.last;intro p q r j hr;cases p with
 | zero=>
  simp only[we,qm]at j hr;subst j;subst hr;refine⟨Q3.symm,hg,h1,λe=>⟨(u e).1,h,n,h',n',?_,?_,(u e).2⟩⟩;rw[hh,e];rfl;have:=l 0;rw[e]at this;simp only[if_true]at this;rw[show Gz (G9 (r0::rs)) 0+1=1+0 from rfl,this];exact c.first
 | succ p=>
  simp only[List.getElem?_cons_succ]at j hr;obtain⟨a1,a2,a3,a4⟩:=c.at_ p q r j hr;refine⟨by rw[b,Q2,a1,Ow],a2,a3,λe=>?_⟩;obtain⟨b1,C,E,D,F,y,z,B⟩:=a4 e;refine⟨b1,C,E,D,F,?_,?_,B⟩;rw[LA,l];exact y;rw[LA,qq,l];exact z
theorem Mf{w x:Nat->List SV->TB EO->Nat->ER VO}{c:Array Oper}:∀(l:List Oper)(i:Nat)(t:TB SV)(h:TB EO)(n:Nat)(rs:List DR)(g:TB SV)(f:List (TB EO×Nat))(d:TB EO)(ne:Nat),
 VH P orc w x c i l t h n=.ok (rs,g,f,d,ne)->V4 P orc w x c l rs t g f d ne h n
 | [],i,t,h,n,rs,g,f,d,ne,H=>by
  cases H;exact⟨rfl,Q3.symm,rfl,rfl,λsa A=>⟨sa,A⟩,λp o r y=>by simp at y⟩
 | o::rest,i,t,h,n,rs,g,f,d,ne,H=>by
  unfold VH at H;split at H<;>try cases H
  rename_i b hg;split at H
  . split at H
    . rename_i v hv;split at H<;>try cases H
      rename_i s u k j q a;exact NZ (r0:=⟨true,false,v,t⟩) (Mf rest (i+1) _ h n _ _ _ _ _ a) hg (λe=>by cases e) (λe=>by cases e) (λ_=>⟨rfl,rfl⟩) rfl
    . split at H<;>try cases H
      rename_i v h1 n1 m;split at H<;>try cases H
      rename_i s u k j q a;exact NZ (r0:=⟨true,true,v,t⟩) (Mf rest (i+1) _ h1 n1 _ _ _ _ _ a) hg (λe=>by cases e) (λ_=>⟨rfl,m⟩) (λe=>by cases e) rfl
  . split at H<;>try cases H
    rename_i a;exact NZ (r0:=⟨false,false,.tup [],t⟩) (Mf rest (i+1) _ h n _ _ _ _ _ a) hg (λ_=>⟨rfl,rfl⟩) (λe=>by cases e) (λ_=>⟨rfl,rfl⟩) rfl
theorem Mg{E:BZ}{c:Array Oper}:∀(l:List Oper)(tr:List CC)(t:TB SV)(h:TB EO)(n:Nat)(e:Exit)(d:TB SV)(h':TB EO)(n':Nat),Qz P c l tr t h n=.ok (e,d,h',n')->∀(sa:SA)(Q:SA->Hp->Nat->Prop),Ag sa t->(∀sa',e=.normal->Ag sa' d->Q sa' (B8 Rs h') n')->
 Eh E P c Q l tr sa (B8 Rs h) n
 | [],tr,t,h,n,e,d,h',n',H,sa,Q,A,hQ=>by
  cases H;exact hQ sa rfl A
 | o::rest,tr,t,h,n,e,d,h',n',H,sa,Q,A,hQ=>by
  unfold Qz at H;unfold Eh;rw[GZ,A.look];split at H<;>try cases H
  rename_i b hg;rw[hg];simp only;split at H
  . rw[my rfl];split at H<;>try cases H
    rename_i op q;have i:∀f args g,o.op≠.call { callee:=.value f,args:=args,argTypes:=g }:=λf args g j=>q f args g j;cases s:(Cs (Ex (BR t)) o.op).all (Jk h)<;>rw[s]at H<;>simp only[cond_true,cond_false]at H;cases H;have a:=Ta (Rs:=Rs) (P:=P) (n:=n) (sa:=sa) s (λx _=>by rw[A.ev]);split at H;rename_i out r;rw[r]at a;cases hk:(Aj out.upd.toList++Cs (Ex (BR t)) o.op).all (λk=>Nat.blt k n)&&FW c tr.length { dst:=o.dst,val:=out.val,foot:=Aj out.upd.toList++Cs (Ex (BR t)) o.op,wr:=out.upd.toList,new:=(out.new.map λx=>(n,some x)).toList } 0 tr<;>rw[hk]at H<;>simp only[cond_true,cond_false]at H;cases H;simp only[qg,qG]at hk;have u:(if out.new.isSome then n+1 else n)=match out.new with|some _=>n+1|none=>n:=by cases out.new<;>rfl
    have m:=Mg (E:=E) rest _ _ _ _ e d h' n' H (C1 sa o.dst out.val) Q (A.put _ _) hQ;rw[T3]at m;split;rename_i f args g j;exact absurd j (i f args g);rw[a];simp only;rw[A.ev,u];exact⟨λk p=>by simpa using hk.1 k p,hk.2,m⟩
    . rename_i r;rw[r]at a;split at H<;>try cases H
      rename_i v w;cases hk:FW c tr.length { dst:=o.dst,val:=v } 0 tr<;>rw[hk]at H<;>simp only[cond_true,cond_false]at H;cases H;have m:=Mg (E:=E) rest _ _ _ _ e d h' n' H (C1 sa o.dst v) Q (A.put _ _) hQ;split;rename_i f args g j;exact absurd j (i f args g);rw[a];simp only;exact⟨v,by rw[A.ev];exact QJ w,hk,m⟩
  rw[mw mr];exact Mg rest _ _ _ _ e d h' n' H _ Q (A.put _ _) hQ
theorem HJ{a:Array Oper}:∀{l:List Oper} {tr:List CC} {t:TB SV} {h:TB EO} {n:Nat} {e:Exit} {r:TB SV×TB EO×Nat},Qz P a l tr t h n=.ok (e,r)->e=.normal
 | [],_,_,_,_,_,_,H=>by cases H;rfl
 | o::rest,tr,t,h,n,e,r,H=>by
  unfold Qz at H;split at H<;>try cases H
  split at H
  . split at H<;>try cases H
    cases b:(Cs (Ex (BR t)) o.op).all (Jk h)<;>rw[b]at H<;>simp only[cond_true,cond_false]at H;cases H;split at H;rename_i out hs;cases hk:(Aj out.upd.toList++Cs (Ex (BR t)) o.op).all (λk=>Nat.blt k n)&&FW a tr.length { dst:=o.dst,val:=out.val,foot:=Aj out.upd.toList++Cs (Ex (BR t)) o.op,wr:=out.upd.toList,new:=(out.new.map λx=>(n,some x)).toList } 0 tr<;>rw[hk]at H<;>simp only[cond_true,cond_false]at H;cases H;exact HJ H
    . split at H<;>try cases H
      rename_i v hx;cases hk:FW a tr.length { dst:=o.dst,val:=v } 0 tr<;>rw[hk]at H<;>simp only[cond_true,cond_false]at H;cases H;exact HJ H
  exact HJ H
theorem Wu(hO:IP P I orc){E:BZ}{N:Nat}(hm:P.follows .mixedOrders=true){rc ry:Nat->List SV->TB EO->Nat->ER VO}(hc:∀g us h n v h' n',rc g us h n=.ok (v,h',n')->∀K:SV->Hp->Nat->Prop,K v (B8 Rs h') n'->Ab E P g us (B8 Rs h) n K)
 (hy:∀g us h n v h' n',ry g us h n=.ok (v,h',n')->∀K:SV->Hp->Nat->Prop,K v (B8 Rs h') n'->Jw E P g us (B8 Rs h) n K) {a:Array Oper} {t:TB SV} {h:TB EO} {n:Nat} {e:Exit} {t':TB SV} {h':TB EO} {n':Nat}
 (H:Wt P orc rc ry a t h n=.ok (e,t',h',n')) {id:Nat} {sa:SA} {Q:CT} (A:Ag sa t) (hQ:∀z,Ag z t'->Q e z (B8 Rs h') n'):GU E P N (.region id a true) Q sa (B8 Rs h) n:=by
 unfold Wt at H;cases J:ED a<;>rw[J]at H<;>simp only[cond_true,cond_false]at H;cases H;split at H
 rotate_left
 cases hnc:Xr a<;>rw[hnc]at H<;>simp only[cond_true,cond_false]at H;cases H;have:=HJ H;subst this;exact Qf hm J (Mg _ _ _ _ _ _ _ _ _ H sa _ A λz _ A'=>hQ z A');rename_i r0 Z;cases H;have H:=Z;unfold bJ at H;split at H<;>try cases H
 rename_i rs te R L ne Y;cases B:iQ a rs<;>rw[B]at H<;>simp only[cond_true,cond_false]at H;cases H;cases T:bZ P orc a rs R<;>rw[T]at H<;>simp only[cond_true,cond_false]at H;cases H;cases H;have D:=Mf _ _ _ _ _ _ _ _ _ _ Y;have s:rs.length=a.size:=by rw[D.len];simp
 obtain⟨V,hhs⟩:∃V:Nat->Hp,V=λk=>match R[k]? with|some p=>B8 Rs p.1|none=>λ_=>none:=⟨_,rfl⟩
 obtain⟨W,hns⟩:∃W:Nat->Nat,W=λk=>match R[k]? with|some p=>p.2|none=>0:=⟨_,rfl⟩
 have l:∀{k:Nat} {x:TB EO} {y:Nat},R[k]? = some (x,y)->V k=B8 Rs x/\W k=y:=fun {k x y} g=>by rw[hhs,hns];simp[g]
 have u:∀i:Nat,a.toList[i]? = a[i]?:=λi=>by simp
 have b:=D.last;rw[show a.toList.length=a.size by simp]at b;intro m;have G:ZJ E P N a (look sa) (KG a.toList rs) (G9 rs) V W:=by
  refine⟨by simp[KG,s],J,λi o M d hd=>?_,λi j hji hi w hei hrk=>?_,λi o r M hr=>?_⟩;simp only[Code.dok,qG]at m;have:=m o (vJ (by rw[u];exact M));rw[hd]at this;simpa using this;have:=qG.1 B i (List.mem_range.2 mq);rw[hei,Bool.not_true,Bool.false_or]at this;have:=qG.1 this j (List.mem_range.2 hji);rw[w,hrk,Nat.beq_refl]at this;simpa using this
  . obtain⟨C,q⟩:∃C,rs[i]? = some C:=⟨rs[i]'(by rw[s];exact(qh.1 M).1),by simp⟩
    have hre:r={ dst:=o.dst,val:=C.v }:=by
     simp only[KG,List.getElem?_zipWith,u,M,q]at hr;exact(Option.some.inj hr).symm
    subst hre;obtain⟨a1,a2,a3,a4⟩:=D.at_ i o C (by rw[u];exact M) q;have c:G9 rs i=C.e:=by unfold G9;rw[q]
    rw[<-A.look]at a1;refine⟨rfl,?_⟩;rw[<-a1];cases hg:C.g with
    | false=>exact .inl ⟨by rw[a2,hg],(a3 hg).1,by rw[c];exact(a3 hg).2⟩
    | true =>
     refine .inr ⟨by rw[a2,hg],λk hk sx hx=>?_⟩;cases L:C.e with
     | true=>
      obtain⟨_,x1,y1,x2,y2,b1,b2,b3⟩:=a4 L;have hkr:=hk.1 (by rw[c,L]);rw[<-hkr]at b1 b2;obtain⟨c1,X⟩:=l b1;obtain⟨c3,c4⟩:=l b2;rw[c,L,my rfl,c1,X,c3,c4];exact SE hO hc hy b3 hx ⟨rfl,rfl,rfl⟩
     | false =>
      rw[c,L,mw mr];have hkl:k<R.length:=Nat.lt_of_le_of_lt hk.2.1 (qv.1 b).1;have F:=qG.1 T i (List.mem_range.2 (qv.1 q).1);rw[q,M]at F;simp only[L,hg,Bool.not_true,Bool.false_or]at F;have f:=qG.1 F k (List.mem_range.2 hkl);have S:iE a rs i k=true:=by
       refine qG.2 λj hj=>?_;have O:j<a.size:=by rw[<-s];exact List.mem_range.1 hj
       cases w:G9 rs j with
       | false=>rfl
       | true =>
        rw[Bool.not_true,Bool.false_or];cases hb:Nat.ble k (Gz (G9 rs) j)with
        | true=>rw[cond_true,hk.2.2.1 j O w (Nat.le_of_ble_eq_true hb)];rfl
        | false =>
         have:Gz (G9 rs) j<k:=by
          refine wp λg=>?_;rw[Nat.ble_eq_true_of_le g]at hb;cases hb
         rw[cond_false,hk.2.2.2 j O w this];rfl
      rw[S,Bool.not_true,Bool.false_or]at f;split at f<;>try cases f
      rename_i x y hxy;split at f<;>try cases f
      rename_i v hv;obtain⟨c1,X⟩:=l hxy;rw[c1,X];refine X6 hO hv hx ⟨Pj f,rfl,rfl⟩
 obtain⟨sb,U⟩:=D.sb sa A;obtain⟨f1,f2⟩:=l D.first
 obtain⟨f3,f4⟩:=l b;have key:=V8 (id:=id) (Q:=Q) (sa:=sa) (sb:=sb) hm G (by rw[U.look,D.fin,A.look];simp) (by rw[f3,f4];exact hQ sb U);rw[f1,f2]at key;exact key m
theorem Q0(k:Nat):Zo P orc (k+1)=Zp P orc (Zo P orc k):=rfl
theorem YT(x:IP P I orc)(hm:P.follows .mixedOrders=true){k:Nat}(y:∀j,j<=k->cE P I (Zo P orc j)):cE P I (Zo P orc (k+1)):=by
 intro m c t h n e G h' n' H E N Rs sa Q hI l u A f;have q:=y k (IO k);have D:=H;rw[Q0]at H;unfold Zp at H;split at H;cases H;exact M6 (f _ A)
 . rename_i a b;unfold iR at H;split at H<;>try cases H
   rename_i z C h1 n1 o;refine I9 (q _ _ _ _ _ _ _ _ _ o E N Rs sa _ hI l u A λp r=>?_);split at H;exact q _ _ _ _ _ _ _ _ _ H E N Rs p Q hI l u r f;rename_i w;cases H;cases e with
   | normal=>exact absurd rfl w
   | _=>exact f _ r
 . rename_i c a b;unfold ay at H;split at H<;>try cases H
   rename_i b' hb;rw[<-A.ev]at hb;refine BD hb ?_;split at H;exact q _ _ _ _ _ _ _ _ _ H E N Rs sa Q hI l u A f;exact q _ _ _ _ _ _ _ _ _ H E N Rs sa Q hI l u A f
 rename_i id b;unfold WL at H;split at H;rename_i z C h1 n1 o;cases H;refine LM (q _ _ _ _ _ _ _ _ _ o E N Rs sa _ hI l u A λp r=>?_);have:=f _ r;cases z with
 | exit i=>
  simp only[fZ]at this;simp only[FH];cases B:Nat.beq i id<;>rw[B]at this<;>simp only[cond_true,cond_false]at this;rw[mw (Nat.ne_of_beq_eq_false B)];exact this;rw[my (qJ B)];exact this
 | _=>exact this
 cases H;cases H;exact Qg (f _ A);cases H;exact Tq (f _ A)
 . rename_i b;clear H;refine M3 (k+1) (λj sa h n=>j<=k+1/\∃t h0,Ag sa t/\h=B8 Rs h0/\Zo P orc j m (.loop b) t h0 n=.ok (e,G,h',n')) ⟨IO _,t,h,A,rfl,D⟩ ?_;rintro j sa h n ⟨hj,t,h0,A,rfl,H⟩;cases j with
   | zero=>cases H
   | succ j=>
    rw[Q0]at H;unfold Zp at H;simp only at H;unfold bP at H;split at H<;>try cases H
    rename_i z C h1 n1 o;refine y j mq _ _ _ _ _ _ _ _ _ o E N Rs sa _ hI l u A λp r=>?_;split at H;exact⟨j,vh j,by omega,C,h1,r,rfl,H⟩;rename_i w;cases H;cases e with
    | normal=>exact absurd rfl w
    | _=>exact f _ r
 rename_i i ops d;unfold iP at H;split at H;have F:=Iu H;subst F;exact M5 (P4 x (λg us h n v h' n' g1 K s=>Ke x q g1 hI l s) (λg us h n v h' n' g1 K s=>PP q g1 hI l s) _ _ _ _ _ _ _ _ _ H sa _ A λp _ r=>f p r);exact Wu x hm (λg us h n v h' n' g1 K s=>Ke x q g1 hI l s) (λg us h n v h' n' g1 K s=>PP q g1 hI l s) H A f;exact Vc x q H hI l u A f;cases H
theorem QF(a:IP P I orc)(hm:P.follows .mixedOrders=true):∀k j,j<=k->cE P I (Zo P orc j)
 | 0,j,hj=>by
  have:j=0:=by omega
  subst this;intro m c t h n e t' h' n' H;cases H
 | k+1,j,hj=>by
  rcases vq k j with g|g;have:j=k+1:=by omega
  subst this;exact YT a hm (QF a hm k);exact QF a hm k j g
theorem eD(a:IP P I orc)(hm:P.follows .mixedOrders=true)(k:Nat):cE P I (Zo P orc k):=QF a hm k k (IO k)
def dY:ER VO->Option Bool
 | .ok (.bool b,_,_)=>some b
 | _=>none
end
theorem Ih(b:Bool)(x y:Int)(w:World):(Instr.checkKey b 10000 142 (.agg #[.int .i64 x,.int .i64 y])).run prog w=.ok () w:=by
 have d:prog.underlying 142=_:=Tryz.underlying142;have f:prog.underlying 3=_:=Tryz.underlying3;have g3:∀n z,(Instr.checkKey b (n+1) 3 (.int .i64 z)).run prog w=.ok () w:=λn z=>by simp[Instr.checkKey,AM f]
 have e:GH prog 3=some false:=by simp[go_sem]
 have p:∀(a:Array Value) off v,a[off]? = some v->(part 3 a off).run prog w=.ok v w:=λa off v h=>by simp[part,Ez e,h]
 have c:∀n,(Instr.checkKey b (n+2) 142 (.agg #[.int .i64 x,.int .i64 y])).run prog w=.ok () w:=λn=>by
  rw[Instr.checkKey];simp only[Sem.run_bind,AM d,Result.andThen_ok];rw[<-Array.forIn_toList];simp[List.forIn_cons,p #[.int .i64 x,.int .i64 y] 0 (.int .i64 x) rfl,p #[.int .i64 x,.int .i64 y] 1 (.int .i64 y) rfl,g3]
 exact c 9998
section
variable{E:BZ}{evs:Operand->SV}{o:Oper}{h:Hp}{n:Nat}{K:SV->Hp->Nat->Prop}
theorem EX{c:TypeId}{d:Array Field}{v:Value}{a:List MapEntry}{r:Option (Nat×Value)}{w:World}(f:prog.underlying c=some (.struct d))(b:(Instr.findAsking c v a 0).run prog w=.ok r w):(Instr.findKey c v a).run prog w=.ok r w:=by
 cases a with
 | nil=>
  simp[Instr.findAsking]at b;subst b;simp[Instr.findKey,AM f,Instr.findNow]
 | cons e es=>
  have:Instr.findNow (.struct d) v (e::es) 0=none:=by simp[Instr.findNow,Instr.sameNow]
  simp[Instr.findKey,AM f,this,b]
theorem S5:bw prog 142:=⟨by kernel_rfl,by kernel_rfl⟩
theorem Qj{c:Cx}{a b:Int}{v:Value}(h:V c (.agg [.int .i64 a,.int .i64 b]) v):v=.agg #[.int .i64 a,.int .i64 b]:=by
 simp only[V,VL]at h;obtain⟨vs,rfl,⟨_,_,rfl,rfl,_,_,rfl,rfl,rfl⟩,_⟩:=h;rfl
theorem Es{m x:Operand}{q:Nat}{a b:Int}{es:List (SV×SV)}{r:Option (Nat×SV)}(D:o.op=.lookup 138 m x false)(hm:evs m=.map q)(P:h q=some (.map es))(Q:evs x=.agg [.int .i64 a,.int .i64 b])
 {v:SV} (H:(match r with|some p=>p.2|none=>BU prog 3)=v) (O:EA prog 142 [.int .i64 a,.int .i64 b] es 0=some r) (hk:K v h n):FV E prog evs o h n K:=by
 subst H;refine⟨by rw[D];simp,λc ev _ _ R F hv=>?_⟩;have u:=hv m;have g:=hv x;rw[hm,V]at u;obtain⟨M,hρ,l⟩:=u;rw[Q]at g;have t:=Qj g;obtain⟨b',d,e,g1,N,g3,_⟩:=R.obj _ _ P;rw[hρ]at g1;cases g1;have s:(getObj M).run prog c.w=.ok (.map d e) c.w:=by simp[getObj,Sem.run,N]
 have A:prog.underlying 138=some (.map 142 3):=Tryz.underlying138;have k:∀C,(Instr.checkKey C 10000 142 (ev x)).run prog c.w=.ok () c.w:=λC=>by rw[t];exact Ih C a b c.w
 have G:(BU prog 3).B=true:=by simp[go_sem]
 obtain⟨i,z,hi,L,J⟩:=Cc G;have y:=DX c z;rw[<-J]at y;rcases JE S5 g c.w es d.toList 0 r g3 O with⟨rfl,hg⟩|⟨j,S,T,e2,ds,rfl,hg,I,_,_⟩
 have f:=EX Tryz.underlying142 hg;refine⟨z,BU prog 3,h,n,c,?_,y,R,F,wE n c,hk⟩;simp[execOp,D,Instr.lookup,AM A,l,s,k,f,FP hi L];have f:=EX Tryz.underlying142 hg;refine⟨T,S,h,n,c,?_,I,R,F,wE n c,hk⟩;simp[execOp,D,Instr.lookup,AM A,l,s,k,f]
end
set_option maxRecDepth 100000 in
theorem WX(b:Nat)(w:World)(h0:w.cell? ⟨b,0,none⟩=some (.pointer (some ⟨b,0,none⟩))):
 Calls prog 123 #[.pointer (some ⟨b,0,none⟩)] w λe w'=>e=.returned (.tuple #[])/\w'=w:=by
 obtain⟨j,a,_⟩:=qT.1 (show(prog.info? 121).map (·.size)=some 2 by kernel_rfl)
 go_enter func123,Tryz.ntmps123
 go_wp2
 rw[Lib.run_neq_ptr_same w _ Tryz.underlying118 a]
 go_wp2
 go_end0
 exact⟨rfl,rfl⟩
theorem iB(m:Nat):liesAt prog prog.depth 121 (m+1) 0 121 1=true:=by kernel_rfl
theorem WY:prog.cellsOf 121=2:=by kernel_rfl
set_option maxRecDepth 100000 in
theorem VB(b k:Nat)(w:World)(h0:w.cell? ⟨b,0,none⟩=some (.pointer none))(c:w.shape? b=some (121,k))(hk:2<=k)(hfz:w.frozen? ⟨b,0,none⟩=false):
 Calls prog 123 #[.pointer (some ⟨b,0,none⟩)] w λe w'=>e=.returned (.tuple #[])/\w'=w.setCell ⟨b,0,none⟩ (.pointer (some ⟨b,0,none⟩)):=by
 obtain⟨j,f,d⟩:=qT.1 (show(prog.info? 121).map (·.size)=some 2 by kernel_rfl);obtain⟨m,hm⟩:∃m,k / prog.cellsOf 121=m+1:=⟨k / 2-1,by rw[WY];omega⟩
 have a:=iB m;rw[<-hm]at a
 go_enter func123,Tryz.ntmps123
 go_wp2
 rw[Lib.run_to_unsafe w ⟨b,0,none⟩ Tryz.underlying118 Tryz.underlying256 f (by rw[d];decide) c (by simp;omega)];simp only[Result.andThen];rw[Oper.upon_value]
 go_wp2
 rw[run_callFunc_extern func179 mu mu mu (e:=Extern.AbiNoEscape.same) mu];rw[Lib.run_noEscape];simp only[Result.andThen];rw[Oper.upon_value]
 go_wp2
 rw[Lib.run_from_unsafe w ⟨b,0,none⟩ Tryz.underlying256 Tryz.underlying118 f c a];simp only[Result.andThen];rw[Oper.upon_value]
 go_wp2
 go_end0
 exact⟨rfl,rfl⟩
theorem gQ{H:Hp}{n q:Nat}{p m:SV}(y:H q=some (.cells [p,m] (some 121)))(hp:p=.nilp\/p=.ptr q 0):
 BP prog 123 [.ptr q 0] H n (λv h' n'=>v=.tup []/\h'=h_ H q (some (.cells [.ptr q 0,m] (some 121)))/\n'=n):=by
 refine⟨bV,λc vs _ R F A=>?_⟩;obtain⟨u,rfl,hv⟩:=A.single;rw[V]at hv;obtain⟨b0,st,hρ,rfl⟩:=hv;obtain⟨b',st',arr,e,us,g1,x,g3,D,g5,g6⟩:=R.obj q _ y;rw[hρ]at g1;cases g1;obtain⟨z,rfl⟩:=g6 121 rfl;subst z;obtain⟨G,C,g⟩:=D.get (i:=0) (a:=p) rfl;have h2:=g3 0 _ C;have d:c.w.cell? ⟨b0,0,none⟩=some G:=by simp only[World.cell?,x];simpa using h2
 have t:=D.length;simp only[qo,vU]at t;have B:2<=arr.size:=by
  have o:us[1]? = some us[1]:=qk mq;have:=(qh.1 (g3 _ _ o)).1;omega
 have r:V c (.ptr q 0) (.pointer (some ⟨b0,0,none⟩)):=by rw[V];exact⟨b0,0,hρ,by simp⟩
 simp only[qZ];rcases hp with rfl|rfl;rw[V]at g;subst g;obtain⟨w',l,E,X⟩:=Hk (P:=prog) (off:=0) (xs:=[.ptr q 0]) (us:=[.pointer (some ⟨b0,0,none⟩)]) R y hρ mr mr ⟨r,trivial⟩ (by simp[Value.oneCell']);have b:=run_storeCells_cells (P:=prog) b0 0 [.pointer (some ⟨b0,0,none⟩)] 0 c.w (by intro j s;simp at s;subst s;simp[d]) (by intro j s;simp at s;subst s;simp[World.frozen?,x]) (by simp[Value.oneCell']);simp only[wz]at l b;rw[l]at b;simp only[Result.ok.injEq,true_and]at b;refine(VB b0 arr.size c.w d (by simp[World.shape?,x]) B (by simp[World.frozen?,x])).mono ?_;rintro e I ⟨rfl,rfl⟩;have hw:w'=c.w.setCell ⟨b0,0,none⟩ (.pointer (some ⟨b0,0,none⟩)):=by rw[b];rfl
 subst hw;exact⟨.tuple #[],.tup [],_,n,{ c with w:=c.w.setCell ⟨b0,0,none⟩ (.pointer (some ⟨b0,0,none⟩)) },rfl,⟨rfl,rfl,rfl⟩,rfl,by simp[V,VL],by simpa using E,F,⟨X,IO _,λ_ _=>rfl⟩⟩;rw[V]at g;obtain⟨b1,st1,hρ1,rfl⟩:=g;rw[hρ]at hρ1;cases hρ1;have f:h_ H q (some (.cells [.ptr q 0,m] (some 121)))=H:=by
  funext k;by_cases hk:k=q;subst hk;rw[Nj,y];simp[h_,hk]
 refine(WX b0 c.w (by simpa using d)).mono ?_;rintro e I ⟨rfl,rfl⟩;exact⟨.tuple #[],.tup [],_,n,c,rfl,⟨rfl,f.symm,rfl⟩,rfl,by simp[V,VL],R,F,wE n c⟩
end Go.Proofs.YthinbkgpjmjfeaaGreatDoor.Sh
namespace Go.Proofs
open Go.Shelf
def Tryz.sIdx_ren:Go.Shelf.Ren:=⟨fun|219=>160|217=>208|225=>209|224=>210|267=>211|266=>254|314=>255|n=>n,fun|9=>9|3=>3|4=>4|5=>5|46=>236|146=>329|51=>328|n=>n,fun|1=>0|n=>n⟩
theorem Tryz.sIdx:Go.Proofs.LaysM.n219 prog Tryz.sIdx_ren:={
 mixed:=by kernel_rfl
 f217:=func208.trans (congrArg some (by kernel_rfl))
 f219:=func160.trans (congrArg some (by kernel_rfl))
 f224:=func210.trans (congrArg some (by kernel_rfl))
 f225:=func209.trans (congrArg some (by kernel_rfl))
 f266:=func254.trans (congrArg some (by kernel_rfl))
 f267:=func211.trans (congrArg some (by kernel_rfl))
 f314:=func255.trans (congrArg some (by kernel_rfl))
 t3:=Tryz.underlying3
 a3:=Tryz.isAgg3
 z3:=Tryz.sizeOf3
 v3:=Tryz.zeroValue3
 t4:=Tryz.underlying4
 a4:=Tryz.isAgg4
 z4:=Tryz.sizeOf4
 v4:=Tryz.zeroValue4
 t5:=Tryz.underlying5
 a5:=Tryz.isAgg5
 z5:=Tryz.sizeOf5
 v5:=Tryz.zeroValue5
 t9:=Tryz.underlying9
 a9:=Tryz.isAgg9
 z9:=Tryz.sizeOf9
 v9:=Tryz.zeroValue9
 t46:=Tryz.underlying236
 a46:=Tryz.isAgg236
 z46:=Tryz.sizeOf236
 v46:=Tryz.zeroValue236
 t51:=Tryz.underlying328
 a51:=Tryz.isAgg328
 z51:=Tryz.sizeOf328
 v51:=Tryz.zeroValue328
 t146:=Tryz.underlying329
 a146:=Tryz.isAgg329
 z146:=Tryz.sizeOf329
 v146:=Tryz.zeroValue329
 g1:=by kernel_rfl
 i3:=by kernel_rfl
 i4:=by kernel_rfl
 i5:=by kernel_rfl
 i9:=by kernel_rfl
 i46:=by kernel_rfl
 i51:=by kernel_rfl
 i146:=by kernel_rfl
 m1:=by kernel_rfl
 s1_3:=λw h=>Go.Proofs.cell_of_shapedOpen_int (zero:=#[.int .i64 0]) (t:=3) h (of_decide_eq_true (by kernel_rfl)) (by kernel_rfl) rfl (by kernel_rfl) (by kernel_rfl) Tryz.underlying3 }
end Go.Proofs
namespace Go.Proofs.YthinbkgpjmjfeaaGreatDoor.Sh
open Go.Proofs.Tryz
open Proofs
set_option maxRecDepth 10000
set_option maxHeartbeats 4000000
def PS(c:Cx):Prop:=(∃m,c.w.cell? ⟨0,0,none⟩=some (.int .i64 m))/\¬c.own 0
theorem PS.ext{c a:Cx}(x:DV c a)(h:PS c):PS a:=by
 obtain⟨⟨m,hm⟩,b⟩:=h;obtain⟨ob,hb,_⟩:=Gj hm;obtain⟨h1,h2⟩:=x.keep 0 (qh.1 hb).1 b;refine⟨⟨m,?_⟩,h1⟩;unfold World.cell? at *;rw[h2];exact hm
def EI:BZ:=⟨none,false,0,PS,PS.ext⟩
def GC(f:FuncId)(us:List SV)(v:SV):Prop:=∀(E:BZ),(∀c,E.inv c->PS c)->∀h n,Ab E prog f us h n (Is v h n)
theorem GC.of{f:FuncId}{us:List SV}{v:SV}(H:PC f us v):GC f us v:=λ_ _ h n=>(H h n).lift
theorem GC.use{f:FuncId}{us:List SV}{v:SV}(H:GC f us v){E:BZ}(hI:∀c,E.inv c->PS c){h:Hp}{n:Nat}{K:SV->Hp->Nat->Prop}(hk:K v h n):Ab E prog f us h n K:=
 (H E hI h n).mono λ_ _ _ ⟨a,b,d⟩=>by subst a;subst b;subst d;exact hk
theorem GC.C_{f:FuncId}{us:List SV}{v:SV}(t:∀a∈us,Sh.C_ 0 a=true)(hv:Db v=true)(H:Ab EI prog f us (λ_=>none) 0 (λl _ _=>l=v)):GC f us v:=by
 refine λE hI h n=>⟨H.1,λc vs I R F A=>?_⟩
 have z:∀o x,(λ_=>none:Hp) o=some x->h o=some x:=λ_ _ e=>by cases e
 have r:CB (λ_=>none) (c.cut (λ_=>none) 0):=R.cut λo x e=>by cases e
 have q:AU (V (c.cut (λ_=>none) 0)) us vs:=wY A.length λi a b h1 h2=>by
  obtain⟨b',p,s⟩:=A.get h1;rw[h2]at p;cases p;exact V.cut R z (t a (vJ h1)) s
 have g:∀b,¬(c.cut (λ_=>none) 0).own b:=λb ⟨o,x,e,_⟩=>by cases e
 refine(H.2 (c.cut (λ_=>none) 0) vs ⟨(hI c I).1,g 0⟩ r Sj q).mono ?_;rintro e w' ⟨u,l,h',n',m,y,rfl,rfl,k,R',F',d⟩;have X:DV c { c with w:=m.w }:=⟨λ_ _ e=>e,d.ext.size,λb hb j=>⟨j,(d.ext.keep b hb (g b)).2⟩,d.ext.room,d.ext.os,d.ext.out,d.ext.td⟩
 refine⟨u,l,h,n,{ c with w:=m.w },y,⟨rfl,rfl,rfl⟩,rfl,k.plain hv,⟨λo x j=>?_,R.inj2,R.own2⟩,F,⟨X,IO _,λ_ _=>rfl⟩⟩;refine(R.obj o x j).mono X λb hb=>?_;exact(d.ext.keep b ((R.obj o x j).hold_lt hb) (g b)).2
theorem bv{a:Y7}(c:IP prog PS a){f:FuncId}{us:List SV}{b:Bool}(k:Nat)(d:c_ 0 us=true)(H:dY (NM prog a (Zo prog a k) [] f us .nil 0)=some b):GC f us (.bool b):=by
 refine GC.C_ (EJ.1 d) rfl ?_;unfold dY at H;split at H<;>cases H;rename_i h' n' e;exact Ke (Rs:=λ_ _ _=>default) (E:=EI) c (eD c follows k) e (λ_ i=>i) trivial (K:=λg _ _=>g=.bool b) rfl
theorem iI:K4 prog 160=true:=by unfold K4;rw[func160];kernel_rfl
theorem lV(s sub:ByteArray)(f:s.size<4294967281):GC 160 [.str s,.str sub] (.int .i64 (Lib.index s.data.toList sub.data.toList)):=by
 refine λE hI h n=>⟨iI,λc vs I R F A=>?_⟩
 obtain⟨⟨m,hm⟩,_⟩:=hI c I
 match vs,A with
 | [a,b],A=>
  have d:=KT A.1;have hb:=KT A.2.1;subst d;subst hb;refine(Any.stringslite_Index Tryz.sIdx.ton219 s sub m c.w f hm:Calls prog 160 #[.string s,.string sub] c.w _).mono ?_;rintro e w' ⟨rfl,rfl⟩;exact⟨_,.int .i64 (Lib.index s.data.toList sub.data.toList),h,n,c,rfl,⟨rfl,rfl,rfl⟩,rfl,by simp[V],R,F,wE n c⟩
 | [],A=>exact A.elim
 | [_],A=>exact A.2.elim
 | _::_::_::_,A=>exact A.2.2.elim
theorem k93(z:Nat)(f:Bool):PC 93 [.y z [] f] (.y 0 [] true):=by
 intro h n;refine gq func93 rfl λa=>?_;simp[go_sem];refine BO rfl mu rfl (λe=>?_) ?_;simp[go_sem];exact Ar a rfl rfl;simp[go_sem];refine BX (z:=0) rfl rfl mu ?_;simp[go_sem];exact Ar a rfl rfl
theorem k94(z:Nat)(f:Bool):PC 94 [.y z [] f] (.y 0 [] true):=by
 intro h n;refine gq func94 rfl λa=>?_;simp[go_sem];refine BO rfl mu rfl (λe=>?_) ?_;simp[go_sem];exact Ar a rfl rfl;simp[go_sem];refine BX (z:=0) rfl rfl mu ?_;simp[go_sem];exact Ar a rfl rfl
theorem k95(z:Nat)(f:Bool):PC 95 [.y z [] f] (.y 0 [] true):=by
 intro h n;refine gq func95 rfl λa=>?_;simp[go_sem];refine BO rfl mu rfl (λe=>?_) ?_;simp[go_sem];exact Ar a rfl rfl;simp[go_sem];refine BX (z:=0) rfl rfl mu ?_;simp[go_sem];exact Ar a rfl rfl
theorem la(z:Nat)(f:Bool):PC 105 [.y z [] f] (.y 0 [] true):=by
 intro h n;refine gq func105 rfl λa=>?_;simp[go_sem];refine BO rfl mu rfl (λe=>?_) ?_;simp[go_sem];exact Ar a rfl rfl;simp[go_sem];refine BX (z:=0) rfl rfl mu ?_;simp[go_sem];exact Ar a rfl rfl
theorem lc(z:Nat)(f:Bool):PC 217 [.y z [] f] (.y 0 [] true):=by
 intro h n;refine gq func217 rfl λa=>?_;simp[go_sem];refine BO rfl mu rfl (λe=>?_) ?_;simp[go_sem];exact Ar a rfl rfl;simp[go_sem];refine BX (z:=0) rfl rfl mu ?_;simp[go_sem];exact Ar a rfl rfl
theorem ld(z:Nat)(f:Bool):PC 218 [.y z [] f] (.y 0 [] true):=by
 intro h n;refine gq func218 rfl λa=>?_;simp[go_sem];refine BO rfl mu rfl (λe=>?_) ?_;simp[go_sem];exact Ar a rfl rfl;simp[go_sem];refine BX (z:=0) rfl rfl mu ?_;simp[go_sem];exact Ar a rfl rfl
theorem lf(z:Nat)(f:Bool):PC 219 [.y z [] f] (.y 0 [] true):=by
 intro h n;refine gq func219 rfl λa=>?_;simp[go_sem];refine BO rfl mu rfl (λe=>?_) ?_;simp[go_sem];exact Ar a rfl rfl;simp[go_sem];refine BX (z:=0) rfl rfl mu ?_;simp[go_sem];exact Ar a rfl rfl
theorem lg(z:Nat)(f:Bool):PC 220 [.y z [] f] (.y 0 [] true):=by
 intro h n;refine gq func220 rfl λa=>?_;simp[go_sem];refine BO rfl mu rfl (λe=>?_) ?_;simp[go_sem];exact Ar a rfl rfl;simp[go_sem];refine BX (z:=0) rfl rfl mu ?_;simp[go_sem];exact Ar a rfl rfl
theorem lh(z:Nat)(f:Bool):PC 221 [.y z [] f] (.y 0 [] true):=by
 intro h n;refine gq func221 rfl λa=>?_;simp[go_sem];refine BO rfl mu rfl (λe=>?_) ?_;simp[go_sem];exact Ar a rfl rfl;simp[go_sem];refine BX (z:=0) rfl rfl mu ?_;simp[go_sem];exact Ar a rfl rfl
theorem lb(a b z3 z4:Nat)(f1 f2 f3 f4:Bool):PC 172 [.agg [.y a [] f1,.y b [] f2,.y z3 [] f3,.y z4 [] f4]] (.agg [.y 6 [] false,.y 2 [] false,.y 6 [] false,.y 2 [] false]):=
 Fu.wk 2 (fg ⟨[],[],[],[]⟩ mr mr mr mr mr mr) ⟨.inr ⟨.inr ⟨by simp,.inl rfl,trivial,by simp⟩,.inr ⟨by simp,.inl rfl,trivial,by simp⟩,.inr ⟨by simp,.inl rfl,trivial,by simp⟩,.inr ⟨by simp,.inl rfl,trivial,by simp⟩,trivial⟩,trivial⟩
noncomputable section
def Sg(g:Nat):Bool:=[93,94,95,105,217,218,219,220,221].contains g
def XZ(ev:Operand->SV)(h:TB EO)(o:Oper):Option SV:=
 match o.op with
 | .lookup t m x false => bif Nat.beq t 138 then match ev m, ev x with
  | .map q, .agg [.int .i64 a, .int .i64 b] => match h.get q with
   | some (.obj (.map es))=>match EA prog 142 [.int .i64 a,.int .i64 b] es 0 with
    | some (some p)=>some p.2
    | some none=>some (BU prog 3)
    | none=>none
   | _=>none
  | _,_=>none
  else none
 | _=>none
def WQ(g:Nat)(us:List SV):Option SV:=match us with
 | [.y _ [] _]=>bif Sg g then some (.y 0 [] true)else none
 | [.agg [.y _ [] _,.y _ [] _,.y _ [] _,.y _ [] _]]=>bif Nat.beq g 172 then some (.agg [.y 6 [] false,.y 2 [] false,.y 6 [] false,.y 2 [] false])else none
 | [.str a,.str b]=>bif Nat.beq g 160&&Nat.blt a.size 4294967281 then some (.int .i64 (Lib.index a.data.toList b.data.toList))else none
 | _=>none
def cf(g:Nat)(us:List SV)(h:TB EO)(n:Nat):Option (SV×TB EO×Nat):=match us with
 | [.ptr q 0]=>bif Nat.beq g 123 then match h.get q with
  | some (.obj (.cells [p,buf] (some t)))=>bif Nat.beq t 121&&(MT p .nilp||MT p (.ptr q 0))then some (.tup [],EN h q (some (.obj (.cells [.ptr q 0,buf] (some 121)))),n)else none
  | _=>none
  else none
 | _=>none
def dO:Y7:=⟨WQ,XZ,cf⟩
end
theorem orc0_ok:IP prog PS dO:=by
 refine⟨λg us v H=>?_,λg us h n v h' n' H=>?_,λev evs h o v H A=>?_⟩;have key:GC g us v:=by
  show GC g us v;change WQ g us=some v at H;unfold WQ at H;split at H
  skip
  cases c:Sg g<;>rw[c]at H<;>simp only[cond_true,cond_false]at H<;>cases H;simp only[Sg,List.contains_eq_mem,qe,vG,or_false,decide_eq_true_eq]at c;rcases c with rfl|rfl|rfl|rfl|rfl|rfl|rfl|rfl|rfl;exact GC.of (k93 _ _);exact GC.of (k94 _ _);exact GC.of (k95 _ _);exact GC.of (la _ _);exact GC.of (lc _ _);exact GC.of (ld _ _);exact GC.of (lf _ _);exact GC.of (lg _ _);exact GC.of (lh _ _);cases c:Nat.beq g 172<;>rw[c]at H<;>simp only[cond_true,cond_false]at H<;>cases H;rw[qJ c];exact GC.of (lb _ _ _ _ _ _ _ _);rename_i a b;cases c:Nat.beq g 160&&Nat.blt a.size 4294967281<;>rw[c]at H<;>simp only[cond_true,cond_false]at H<;>cases H;simp only[qg]at c;rw[qJ c.1];exact lV a b (by simpa using c.2);cases H
 exact λE hI h n K d=>key.use hI d
 . change cf g us h n=some (v,h',n')at H;intro E hI Rs K d;unfold cf at H;split at H<;>try cases H
   rename_i q;cases c:Nat.beq g 123<;>rw[c]at H<;>simp only[cond_true,cond_false]at H;cases H;rw[qJ c];split at H<;>try cases H
   rename_i p buf t hg;cases hd:Nat.beq t 121&&(MT p .nilp||MT p (.ptr q 0))<;>rw[hd]at H<;>simp only[cond_true,cond_false]at H<;>cases H;simp only[qg,vV]at hd;have ht:=qJ hd.1;subst ht;have hp:p=.nilp\/p=.ptr q 0:=hd.2.imp Pj Pj;refine(Ab.lift (gQ (n:=n) (GD (Rs:=Rs) hg) hp)).mono ?_;rintro v h2 n2 ⟨rfl,rfl,rfl⟩;rw[ES]at d;exact d
 . change XZ ev h o=some v at H;unfold XZ at H;split at H<;>try cases H
   rename_i t m x e;refine⟨by rw[e];simp,λE Rs n K d=>?_⟩;cases c:Nat.beq t 138<;>rw[c]at H<;>simp only[cond_true,cond_false]at H;cases H;have ht:=qJ c;subst ht;have hm:=A m (by rw[e];simp[Op.operands]);have k:=A x (by rw[e];simp[Op.operands]);split at H<;>try cases H
   rename_i q a b i j;split at H<;>try cases H
   rename_i es hg;split at H<;>cases H;rename_i p f;exact Es e (hm.trans i) (GD hg) (k.trans j) (r:=some p) rfl f d;rename_i f;exact Es e (hm.trans i) (GD hg) (k.trans j) (r:=none) rfl f d
open Go.ChangeShapes Go.WideShapes Go.ChangeAt Go.RowKit
section
variable{H:Type}{enc:TypeId×Value->H}{P:Program}{w:World}{base:Nat}{spare:Nat->Bool}{BW:Bool}
end
section
variable{H:Type}{enc:TypeId×Value->H}{w:World}{base:Nat}{spare:Nat->Bool}{BW:Bool}
def ZO.F(s:ZO):List SV:=[AA s.W,AA s.a,AA s.b]
def IQ.F(r:IQ):List SV:=[YR r.ranges,.str r.marker,.bool r.o1,.bool r.o2,.bool r.o3,.bool r.o4,Yf r.vars]
end
end Go.Proofs.YthinbkgpjmjfeaaGreatDoor.Sh
