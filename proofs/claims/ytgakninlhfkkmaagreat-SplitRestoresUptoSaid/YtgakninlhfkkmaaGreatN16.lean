/- A part of the proof (part 16 of 17). -/
import Derived.Test.YtgakninlhfkkmaaGreatN15
import Derived.Sort.Grow
import Derived.Deep.Draws
import Derived.Shelf.SlSortCmp.WholeK
import Derived.Test.YtgakninlhfkkmaaGreatProg
import Derived.Sort.LotA
import Derived.Shelf.SlSortCmp.NoneTotal
namespace Go.Proofs.YtgakninlhfkkmaaGreat.Sh
abbrev Jz:=@AE.nrm_eq
abbrev UB:=@Aa.nrm_eq
abbrev UN:=@Wl.nrm_eq
abbrev Uf:=@AE.mh_eq
abbrev Z6:=@AE.mhL_eq
open Proofs
set_option maxRecDepth 10000
theorem iL {Z:List AE} {x:AE} (a:¬Co x):BK Z x=match Z.getLast? with
 | some y=>if x.kind=1/\y.kind=1/\y.head=x.head then Z.dropLast++[y.addText x.text]else Z++[x]
 | none=>Z++[x]:=by unfold BK;rw[if_neg a];cases Z.getLast? <;> rfl
theorem PU (z:AE) (s t:ByteArray):(z.addText s).addText t=z.addText (s++t):=by
 unfold AE.addText;show AE.mk _ _ _ (z.text++s++t) _ _ _=_;rw[ByteArray.append_assoc];rfl
theorem SB {Z:List AE} {w x:AE} (hw:¬Co w) (b:¬Co x) (k:x.kind=1/\w.kind=1/\w.head=x.head):BK (BK Z w) x=BK Z (w.addText x.text):=by
 have nd:¬Co (w.addText x.text):=λc=>by
  rcases c with c|c;have:(w.addText x.text).kind=w.kind:=rfl;rw[this,k.2.1]at c;exact absurd c.1 (by decide);refine hw (.inr ⟨k.2.1,?_⟩);have:(w.text++x.text).size=0:=c.2;rw[JN]at this;omega
 have a1:(w.addText x.text).kind=w.kind/\(w.addText x.text).head=w.head/\(w.addText x.text).text=w.text++x.text:=⟨rfl,rfl,rfl⟩
 have step:∀(Y:List AE) (y:AE),y.kind=1->y.head=x.head->BK (Y++[y]) x=Y++[y.addText x.text]:=λY y a h2=>by
  rw[iL b,List.getLast?_concat];dsimp only;rw[if_pos ⟨k.1,a,h2⟩,List.dropLast_concat]
 rw[iL hw,iL nd,a1.1,a1.2.1,a1.2.2];cases hl:Z.getLast? with
 | none=>exact step Z w k.2.1 k.2.2
 | some z=>
  dsimp only;by_cases c:w.kind=1/\z.kind=1/\z.head=w.head;rw[if_pos c,if_pos c,step _ _ (show(z.addText w.text).kind=1 from c.2.1) (show(z.addText w.text).head=x.head by show z.head=_;rw[c.2.2,k.2.2]),PU];rw[if_neg c,if_neg c];exact step Z w k.2.1 k.2.2
theorem gx {h:AE->AE} {P:AE->Prop} (f:∀y,(h y).kind=y.kind) (ht:∀y,(h y).text=y.text) (q:∀a b:AE,a.head=b.head->(h a).head=(h b).head) (p:∀y t,h (y.addText t)=(h y).addText t)
 (n:∀y t,P y->P (y.addText t)) (r:∀y,P y->((h y).rows=[]↔y.rows=[])):∀(m o Z:List AE),(∀y∈o,P y/\¬Co y)->(∀y∈m,P y)->((m.foldl BK o).map h).foldl BK Z=(m.map h).foldl BK ((o.map h).foldl BK Z)
 | [],_,_,_,_=>rfl
 | x :: m, o, Z, ho, hm => by
  have j:=hm x (jP ..);have i:∀y,P y->(Co (h y)↔Co y):=λy d=>by unfold Co;rw[f,ht,r y d]
  have key:((BK o x).map h).foldl BK Z=BK ((o.map h).foldl BK Z) (h x)/\∀y∈BK o x,P y/\¬Co y:=by
   by_cases c:Co x;have u:BK o x=o:=by unfold BK;rw[if_pos c]
   have v:∀Y,BK Y (h x)=Y:=λY=>by unfold BK;rw[if_pos ((i x j).2 c)]
   rw[u,v];exact⟨rfl,ho⟩;have s:¬Co (h x):=λg=>c ((i x j).1 g);have push:((o++[x]).map h).foldl BK Z=BK ((o.map h).foldl BK Z) (h x)/\∀y∈o++[x],P y/\¬Co y:=by
    refine⟨by rw[qc,kg];rfl,λy d=>?_⟩;rcases qe.1 d with g|g;exact ho y g;rw[qv.1 g];exact⟨j,c⟩
   rw[iL c];rcases List.eq_nil_or_concat o with e|⟨ys,y,e⟩
   subst e;exact push;rw[List.concat_eq_append]at e;subst e;rw[JZ];dsimp only;by_cases k:x.kind=1/\y.kind=1/\y.head=x.head;obtain⟨d,l⟩:=ho y (by simp);rw[if_pos k,Ys];refine⟨?_,λz w=>?_⟩;rw[qc,qc,kg,kg];show BK _ (h (y.addText x.text))=BK (BK _ (h y)) (h x);rw[SB (λg=>l ((i y d).1 g)) s ⟨by rw[f];exact k.1,by rw[f];exact k.2.1,q _ _ k.2.2⟩,p,ht];rcases qe.1 w with g|g;exact ho z (by simp[g]);rw[qv.1 g];refine⟨n _ _ d,λg=>l ?_⟩;rcases g with g|g;exact .inl g;refine .inr ⟨g.1,?_⟩;have:(y.text++x.text).size=0:=g.2;rw[JN]at this;omega;rw[if_neg k];exact push
  rw[qM,qu,qM,gx f ht q p n r m _ Z key.2 λy d=>hm y (qL _ d),key.1]
def eZ (P Q:List AE):Prop:=∀Z,(P.map AE.nrm).foldl BK Z=(Q.map AE.nrm).foldl BK Z
theorem eZ.refl (P:List AE):eZ P P:=λ_=>rfl
theorem eZ.symm {P Q:List AE} (h:eZ P Q):eZ Q P:=λZ=>(h Z).symm
theorem eZ.trans {P Q R:List AE} (h:eZ P Q) (g:eZ Q R):eZ P R:=λZ=>(h Z).trans (g Z)
theorem eZ.app {P P' Q a:List AE} (h:eZ P P') (g:eZ Q a):eZ (P++Q) (P'++a):=λZ=>by
 rw[qc,qc,kg,kg,h,g]
theorem eZ.normal {P Q:List AE} (h:eZ P Q):Ac P=Ac Q:=by
 unfold Ac EM;rw[kM,kM];exact h []
theorem eZ.map {l:List AE} {f g:AE->AE} (h:∀x∈l,AE.nrm (f x)=AE.nrm (g x)):eZ (l.map f) (l.map g):=λZ=>by
 rw[Qw,Qw];congr 1;exact jT h
theorem O4 (y:AE) (t:ByteArray):AE.nrm (y.addText t)=(AE.nrm y).addText t:=by rw[Jz,Jz];rfl
theorem lN (c:AF->AF) (y:AE) (t:ByteArray):AE.mh c (y.addText t)=(AE.mh c y).addText t:=by rw[Uf,Uf];rfl
section
variable {hp : AF → Prop} {T : Int → Prop}
theorem TO {N:Nat} {x:AE} (H:lV hp T N x):∀r∈(AE.nrm x).rows,r.cells≠[]:=λr a=>by
 rw[eL λr a=>(H.rows r a).2.1]at a;obtain⟨r0,h0,rfl⟩:=qy.1 a;rw[(Yr r0).1];simpa using(H.rows r0 h0).2.1
theorem fD (c:AF->AF):∀{N:Nat} {l:List AE},wf hp T N l->eZ (AE.mhL c (Ac l)) (AE.mhL c l)
 | 0,_,H=>H.elim
 | N + 1, l, H => fun Z => by
  have H:=OG.1 H;have e:∀x∈l,AE.nrm (AE.mh c (AE.nrm x))=AE.nrm (AE.mh c x):=λx f=>by
   have W:=H x f;have j:=(fD c W.flow).normal;have h2:((AE.nrm x).rows.map (Aa.mh c)).map Aa.nrm=(x.rows.map (Aa.mh c)).map Aa.nrm:=by
    rw[eL λr d=>(W.rows r d).2.1,Qw,Qw,Qw];refine jT λr d=>?_;simp only[Function.comp];rw[UB r,Aa.mh_eq,UB,Aa.mh_eq,UB];show Aa.mk (c r.head) (((r.cells.map Wl.nrm).map (Wl.mh c)).map Wl.nrm)=Aa.mk (c r.head) ((r.cells.map (Wl.mh c)).map Wl.nrm);congr 1;rw[Qw,Qw,Qw];refine jT λq m=>?_;simp only[Function.comp];rw[UN q,Wl.mh_eq,UN,Wl.mh_eq,UN];show Wl.mk q.id (c q.head) (Ac (AE.mhL c (Ac q.flow)))=Wl.mk q.id (c q.head) (Ac (AE.mhL c q.flow));rw[(fD c ((W.rows r d).2.2 q m).2.2).normal]
   obtain⟨f1,f2,f3,f4,f5,f6,_⟩:=QP x;rw[Uf c (AE.nrm x),Jz (.mk _ _ _ _ _ _ _),Uf c x,Jz (.mk _ _ _ _ _ _ _)];show AE.mk (AE.nrm x).kind (AE.nrm x).code (AE.nrm x).id (AE.nrm x).text (c (AE.nrm x).head) (Ac (AE.mhL c (AE.nrm x).flow)) ((((AE.nrm x).rows.map (Aa.mh c)).map Aa.nrm).filter λr=>!decide (r.cells.length=0))=AE.mk x.kind x.code x.id x.text (c x.head) (Ac (AE.mhL c x.flow)) (((x.rows.map (Aa.mh c)).map Aa.nrm).filter λr=>!decide (r.cells.length=0));rw[h2,f1,f2,f3,f4,f5,f6,j]
  have k:∀y,(AE.nrm (AE.mh c y)).kind=y.kind:=λy=>by rw[Uf,Jz];rfl
  have key:=gx (h:=λy=>AE.nrm (AE.mh c y)) (P:=λy=>∀r∈y.rows,r.cells≠[]) k (λy=>by rw[Uf,Jz];rfl) (λa b g=>by
   have:∀y,(AE.nrm (AE.mh c y)).head=c y.head:=λy=>by rw[Uf,Jz];rfl
   rw[this,this,g]) (λy t=>by rw[lN,O4]) (λy t g=>g) (λy g=>by
   rw[Uf,Jz];show((y.rows.map (Aa.mh c)).map Aa.nrm).filter (λr=>!decide (r.cells.length=0))=[]↔_;rw[eE,J2,J2];intro r d;obtain⟨r0,h0,rfl⟩:=qy.1 d;rw[Aa.mh_eq];show r0.cells.map _≠[];simpa using g r0 h0) (l.map AE.nrm) [] Z (λy i=>by cases i) λy i=>by
   obtain⟨x,f,rfl⟩:=qy.1 i;exact TO (H x f)
  have n:(AE.mhL c (Ac l)).map AE.nrm=((l.map AE.nrm).foldl BK []).map λy=>AE.nrm (AE.mh c y):=by
   unfold Ac EM;rw[Z6,kM,Qw];rfl
  rw[n,key,Z6,Qw,Qw];show(l.map ((λy=>AE.nrm (AE.mh c y)) ∘ AE.nrm)).foldl BK Z=_;congr 1;exact jT e
end
mutual
theorem AE.mh_id:∀x:AE,AE.mh (λh=>h) x=x
 | .mk ..=>by rw[AE.mh,AE.mhL_id,Aa.mhL_id]
theorem AE.mhL_id:∀l:List AE,AE.mhL (λh=>h) l=l
 | []=>by rw[AE.mhL]
 | x::l=>by rw[AE.mhL,AE.mh_id x,AE.mhL_id l]
theorem Aa.mh_id:∀x:Aa,Aa.mh (λh=>h) x=x
 | .mk ..=>by rw[Aa.mh,Wl.mhL_id]
theorem Aa.mhL_id:∀l:List Aa,Aa.mhL (λh=>h) l=l
 | []=>by rw[Aa.mhL]
 | x::l=>by rw[Aa.mhL,Aa.mh_id x,Aa.mhL_id l]
theorem Wl.mh_id:∀x:Wl,Wl.mh (λh=>h) x=x
 | .mk ..=>by rw[Wl.mh,AE.mhL_id]
theorem Wl.mhL_id:∀l:List Wl,Wl.mhL (λh=>h) l=l
 | []=>by rw[Wl.mhL]
 | x::l=>by rw[Wl.mhL,Wl.mh_id x,Wl.mhL_id l]
end
theorem Q7 {hp:AF->Prop} {T:Int->Prop} {N:Nat} {l:List AE} (H:wf hp T N l):eZ (Ac l) l:=by
 have:=fD (λh=>h) H
 rwa [AE.mhL_id,AE.mhL_id]at this
theorem fJ (s:ByteArray) {a:Nat}:∀{b:Nat},a<=b->DK s a<=DK s b
 | 0,h=>by rw[show a=0 by omega];exact qa _
 | b+1,h=>by
  by_cases c:a=b+1;rw[c];exact qa _;have:=fJ s (a:=a) (b:=b) (by omega);simp only[DK];split<;>omega
theorem Vm {s:ByteArray} {a b:Nat} (d:a<=s.size) (hb:b<=s.size) (c:ez s a) (h2:ez s b) (e:DK s a=DK s b):a=b:=by
 have key:∀{a b:Nat},b<=s.size->ez s a->DK s a=DK s b->¬a<b:=fun {a b} hb c e h=>by
  have f:Gn (BO s a)=true:=by
   rcases c with c|c;omega;exact c
  have:=fJ s (show a+1<=b by omega);simp only[DK]at this;rw[if_pos f]at this;omega
 have:=key hb c e;have:=key d h2 e.symm;omega
theorem J_ {s:ByteArray} (f:CZ s=true) {u w:Int} (h0:0<=u) (h1:u<=w) (h2:w<=DK s s.size):
 (Cv (s.extract 0 (Cv s w).1.toNat) u).1.toNat=(Cv s u).1.toNat/\(Cv s u).1.toNat<=(Cv s w).1.toNat:=by
 obtain⟨o,l,r,b1,n1⟩:=eH f (u:=u) h0 (by omega);obtain⟨q,j,k,g,n2⟩:=eH f (u:=w) (by omega) h2;obtain⟨q',e,_,t,_,m1,_⟩:=dt f (u:=w) (by omega) h2;rw[j]at e;subst e;rw[l,j];obtain⟨p,m,l3,d,n3⟩:=eH t (u:=u) h0 (by omega);have z:=size_extract s 0 q k;have h:∀i,i<q->BO (s.extract 0 q) i=BO s i:=λi hi=>by rw[dd s 0 q i (by omega) k,jc]
 have hp:ez s p:=by
  rcases d with d|d;rw[show p=q by omega];exact g;by_cases c:p=q;rw[c];exact g;rw[h p (by omega)]at d;exact .inr d
 have n:=df s (s.extract 0 q) 0 p λi hi=>by rw[h i (by omega),jc]
 have e0:DK s 0=0:=rfl;rw[jc]at n;have:=Vm (a:=p) (b:=o) (by omega) r hp b1 (by omega);exact⟨by rw[m,this],by omega⟩
theorem Yj {s:ByteArray} (j:CZ s=true) (h:DK s s.size=0):s.size=0:=by
 rcases Nat.eq_zero_or_pos s.size with e|e;exact e;exfalso;have a:=eB.1 j;generalize hb:s.size=b at a e;cases a with
 | nil=>omega
 | cons a h2 h3=>
  obtain⟨i1,i2,_,_⟩:=eq a h2;obtain⟨k,l⟩:=fQ s 0;have f:=Zs _ k l;have i:=fJ s (show 1<=s.size by omega);by_cases c:128<=BO s 0/\BO s 0<=191
  . have:Ew (BO s 0)=0:=by
     have d:=h2;unfold CV at d;dsimp only at d;split at d;cases d
     . rename_i c0;exfalso;have:Ew (BO s 0)=0:=by unfold Ew;(repeat' split)<;>omega
       omega
    omega
  rw[if_neg c]at f;have g:=f (by omega);simp only[DK,g,if_true]at i;omega
def fR (cu s:Int) (x:AE):AE:=x.setText (x.text.extract 0 (Cv x.text (cu-s)).1.toNat)
def T_ (cu s:Int) (x:AE):AE:=x.setText (x.text.extract (Cv x.text (cu-s)).1.toNat x.text.size)
def fw (cu:Int):Int->List AE->List AE×List AE
 | _,[]=>([],[])
 | s,x::l=>if s+x.units<=cu then(x::(fw cu (s+x.units) l).1,(fw cu (s+x.units) l).2)else if cu<=s then((fw cu (s+x.units) l).1,x::(fw cu (s+x.units) l).2)
  else(fR cu s x::(fw cu (s+x.units) l).1,T_ cu s x::(fw cu (s+x.units) l).2)
theorem ia (cu:Int):∀(l:List AE) (s:Int) (q:List AE×List AE),(F8 s l).foldl (Cb cu) q=(q.1++(fw cu s l).1,q.2++(fw cu s l).2)
 | [],s,q=>by simp[F8,fw]
 | x::l,s,q=>by
  rw[F8,qM,ia cu l,fw];unfold Cb;dsimp only;by_cases c1:s+x.units<=cu;rw[if_pos c1,if_pos c1];simp;rw[if_neg c1,if_neg c1];by_cases a:cu<=s;rw[if_pos a,if_pos a];simp;rw[if_neg a,if_neg a];simp[fR,T_]
theorem dx (l:List AE) (cu:Int):Bj l cu=fw cu 0 l:=by
 unfold Bj DJ;rw[qB (by rw[KV];exact qa _),ia];simp
theorem fj (x:AE):0<=x.units:=(gi x).2
theorem iH {cu:Int}:∀{l:List AE} {s:Int},cu<s->fw cu s l=([],l)
 | [],_,_=>rfl
 | x::l,s,h=>by
  have:=fj x;rw[fw,if_neg (by omega),if_pos (by omega),iH (by omega)]
theorem Z_ (y:AE) (t:ByteArray):AE.nrm (y.setText t)=(AE.nrm y).setText t:=by rw[Jz,Jz];rfl
theorem iY {x:AE} {s cu:Int} (c1:¬s+x.units<=cu) (c2:¬cu<=s):x.kind=1:=by
 by_cases k:x.kind=1;exact k;have:x.units=1:=by rw[AE.units,if_neg k]
 omega
theorem fK {x:AE} (k:x.kind=1) (a:CZ x.text=true):x.units=DK x.text x.text.size:=by rw[AE.units,if_pos k,a];rfl
theorem ix {t:ByteArray} (h:0<DK t t.size):t.size≠0:=λe=>by rw[e]at h;exact absurd h (by simp[DK])
theorem gG (cu:Int):∀(l:List AE) (s:Int),(∀x∈l,CZ x.text=true)->eZ ((fw cu s l).1++(fw cu s l).2) l
 | [],s,_=>.refl _
 | x :: l, s, hv => by
  have i:=gG cu l (s+x.units) λy h=>hv y (qL _ h);have d:=hv x (jP ..);rw[fw];by_cases c1:s+x.units<=cu;rw[if_pos c1];exact eZ.app (.refl [x]) i;rw[if_neg c1];rw[iH (l:=l) (s:=s+x.units) (by omega)];by_cases a:cu<=s;rw[if_pos a];exact .refl _;rw[if_neg a];refine eZ.app (P:=[fR cu s x,T_ cu s x]) (P':=[x]) (λZ=>?_) (.refl l);have e:=iY c1 a;have hu:=fK e d;obtain⟨o,f,e2,v1,v2,n1,n2⟩:=dt d (u:=cu-s) (by omega) (by omega);show BK (BK Z (AE.nrm (fR cu s x))) (AE.nrm (T_ cu s x))=BK Z (AE.nrm x);unfold fR T_;rw[f,Z_,Z_];have b:(AE.nrm x).kind=1:=by rw[(QP x).1];exact e
  have ht:(AE.nrm x).text=x.text:=(QP x).2.2.2.1;have nd:∀t:ByteArray,t.size≠0->¬Co ((AE.nrm x).setText t):=λt ht c=>by
   rcases c with c|c;have:((AE.nrm x).setText t).kind=1:=b;rw[this]at c;exact absurd c.1 (by decide);exact ht c.2
  have key:=SB (Z:=Z) (w:=(AE.nrm x).setText (x.text.extract 0 o)) (x:=(AE.nrm x).setText (x.text.extract o x.text.size)) (nd _ (ix (by omega))) (nd _ (ix (by omega))) ⟨b,b,rfl⟩;rw[key];have g:x.text.extract 0 o++x.text.extract o x.text.size=x.text:=by
   rw[ByteArray.extract_append_extract];simp
  show BK Z (AE.mk (AE.nrm x).kind (AE.nrm x).code (AE.nrm x).id (x.text.extract 0 o++x.text.extract o x.text.size) (AE.nrm x).head (AE.nrm x).flow (AE.nrm x).rows)=_;rw[g,<-ht];congr 1;cases AE.nrm x;rfl
theorem Zn {a b:Int} (f:a<=b):∀(l:List AE) (s:Int),(∀x∈l,CZ x.text=true)->(fw a s (fw b s l).1).1=(fw a s l).1
 | [],s,_=>rfl
 | x :: l, s, hv => by
  have n:=Zn f l (s+x.units) λy m=>hv y (qL _ m);have g:=hv x (jP ..);have hu0:=fj x;rw[fw,fw.eq_2 (cu:=a)];by_cases c1:s+x.units<=b;rw[if_pos c1,fw,n];by_cases d:s+x.units<=a;rw[if_pos d,if_pos d];rw[if_neg d,if_neg d];by_cases c:a<=s;rw[if_pos c,if_pos c];rw[if_neg c,if_neg c];rw[if_neg c1,if_neg (show ¬s+x.units<=a by omega),iH (cu:=b) (l:=l) (s:=s+x.units) (by omega),iH (cu:=a) (l:=l) (s:=s+x.units) (by omega)];by_cases e:b<=s;rw[if_pos e,if_pos (show a<=s by omega)];rfl;rw[if_neg e];have h:=iY c1 e;have hu:=fK h g;obtain⟨o,i,e2,r,v2,p,n2⟩:=dt g (u:=b-s) (by omega) (by omega);have q:(fR b s x).units=b-s:=by
   have j:(fR b s x).kind=1:=h;have k:(fR b s x).text=x.text.extract 0 o:=by unfold fR;rw[i];rfl
   rw[AE.units,if_pos j,k,r];exact p
  show(fw a s [fR b s x]).1=_;rw[fw,q];by_cases d:s+(b-s)<=a;have:a=b:=by omega
  subst this;rw[if_pos d,if_neg e];rfl;rw[if_neg d];by_cases c:a<=s;rw[if_pos c,if_pos c];rfl;rw[if_neg c,if_neg c];show[fR a s (fR b s x)]=[fR a s x];obtain⟨f1,f2⟩:=J_ g (u:=a-s) (w:=b-s) (by omega) (by omega) (by omega);unfold fR;show[x.setText ((x.text.extract 0 (Cv x.text (b-s)).1.toNat).extract 0 (Cv (x.text.extract 0 (Cv x.text (b-s)).1.toNat) (a-s)).1.toNat)]=_;rw[f1,ByteArray.extract_extract];congr 2;congr 1;omega
theorem ib:∀(l:List AE) (s:Int),0<=s->(∀x∈l,CZ x.text=true)->eZ (fw 0 s l).1 []
 | [],_,_,_=>.refl _
 | x::l,s,h0,hv=>by
  have a:=hv x (jP ..);have hu0:=fj x;have b:=ib l (s+x.units) (by omega) λy d=>hv y (qL _ d);rw[fw];by_cases c1:s+x.units<=0;rw[if_pos c1];refine eZ.app (P:=[x]) (P':=[]) (λZ=>?_) b;have c:x.kind=1:=by
   by_cases k:x.kind=1;exact k;have:x.units=1:=by rw[AE.units,if_neg k]
   omega
  have hu:=fK c a;have e:=Yj a (by omega);show BK Z (AE.nrm x)=Z;unfold BK;rw[if_pos (.inr ⟨by rw[(QP x).1];exact c,by rw[(QP x).2.2.2.1];exact e⟩)];rw[if_neg c1,if_pos (show(0:Int)<=s from h0)];exact b
section
variable {hp : AF → Prop} {T : Int → Prop}
theorem K_ {N:Nat} {l:List AE} (W:wf hp T (N+1) l) (D:dX (N+1) l) {a b:Int} (h0:0<=a) (g:a<=b) (h2:b<=CI l):
 eZ ((Ad l 0 a).1++(Ad l a b).1++(Ad l b (A8 l).1).1) l:=by
 have h:=dP D;have i:∀x∈l,CZ x.text=true:=λx f=>(D x f).1.1;have sl:∀p q:Int,0<=p->p<=q->q<=CI l->eZ (Ad l p q).1 (Bj (Bj l q).1 p).2:=λp q g0 g1 g2=>by
  have d:ET l p q=0:=by
   unfold ET;rw[h];have:¬(p<0\/q<p\/CI l<q):=by omega
   simp[this]
  unfold Ad;rw[if_pos d];exact Q7 (fE p (fE q W).1).2
 rw[h];dsimp only;have c:(Bj l (CI l)).1=l:=by
  unfold Bj;rw[fH (λk _=>fy l k) _ (qa _),qi]
 have s1:=sl 0 a (by omega) h0 (by omega);have s2:=sl a b h0 g h2;have s3:=sl b (CI l) (by omega) h2 (by omega);rw[c]at s3;have val:∀q:Int,0<=q->∀x∈(Bj l q).1,CZ x.text=true:=λq j x f=>((eC q j D).1 x f).1.1;have m:eZ (Bj (Bj l a).1 0).2 (Bj l a).1:=by
  have p:=gG 0 (Bj l a).1 0 (val a h0);have z:=ib (Bj l a).1 0 (by omega) (val a h0);rw[dx (Bj l a).1 0];exact((eZ.app z (.refl _)).symm).trans p
 have t2:eZ ((Bj l a).1++(Bj (Bj l b).1 a).2) (Bj l b).1:=by
  have p:=gG a (Bj l b).1 0 (val b (by omega));have e:=Zn g l 0 i;rw[<-dx l b,<-dx l a,<-dx (Bj l b).1 a]at e;rw[<-dx (Bj l b).1 a,e]at p;exact p
 have t3:eZ ((Bj l b).1++(Bj l b).2) l:=by
  have p:=gG b l 0 i
  rwa [<-dx l b]at p
 exact(eZ.app ((eZ.app (s1.trans m) s2).trans t2) s3).trans t3
theorem fG {g:Bool->AF->AF} {c:AF->AF} (hc:∀mid h,hp h->c (g mid h)=h) (sc:Av):∀(N:Nat) (id:Int) (l:List AE) (mid:Bool),wf hp T N l->dX N l->eZ (AE.mhL c (Al (gF g) sc N id l mid ()).1) l
 | 0,_,_,_,h,_=>h.elim
 | N + 1, id, l, mid, W, D => by
  have P:∀(mid:Bool) (l:List AE),wf hp T (N+1) l->dX (N+1) l->eZ (AE.mhL c (BL (gF g) (Al (gF g) sc N) mid l ()).1) l:=λmid l W D=>by
   have W:=OG.1 W;rw[dU,Z6,Qw];have e:∀x∈l,AE.nrm ((AE.mh c ∘ eF g (Al (gF g) sc N) mid) x)=AE.nrm x:=λx o=>by
    have w:=W x o;have d:=D x o;simp only[Function.comp];have i:(if x.kind=7 then x.rows.map (fO g (Al (gF g) sc N) mid)else x.rows)=x.rows.map (fO g (Al (gF g) sc N) mid):=by
     split;rfl;rename_i k;rw[w.k7 k];rfl
    have s:Ac (AE.mhL c (if x.kind=6 then(Al (gF g) sc N x.id x.flow mid ()).1 else x.flow))=Ac x.flow:=by
     split;rename_i k;exact(fG hc sc N x.id x.flow mid w.flow (d.2.1 k)).normal;rename_i k;rw[w.k6 k];rw[AE.mhL]
    have h2:((x.rows.map (fO g (Al (gF g) sc N) mid)).map (Aa.mh c)).map Aa.nrm=x.rows.map Aa.nrm:=by
     rw[Qw,Qw];refine jT λr i=>?_;have k7:x.kind=7:=by
      by_cases k:x.kind=7;exact k;rw[w.k7 k]at i;cases i
     obtain⟨z,u2,p⟩:=w.rows r i;simp only[Function.comp];rw[Aa.mh_eq,UB,UB];show Aa.mk (c (g mid r.head)) (((r.cells.map (gr g (Al (gF g) sc N) mid)).map (Wl.mh c)).map Wl.nrm)=_;rw[hc _ _ z];congr 1;rw[Qw,Qw];refine jT λq j=>?_;simp only[Function.comp];rw[Wl.mh_eq,UN,UN];show Wl.mk q.id (c (g mid q.head)) (Ac (AE.mhL c (Al (gF g) sc N q.id q.flow mid ()).1))=_;rw[hc _ _ (p q j).2.1,(fG hc sc N q.id q.flow mid (p q j).2.2 ((d.2.2 k7 r i).2 q j)).normal]
    unfold eF;rw[i,Uf,Jz,Jz];show AE.mk x.kind x.code x.id x.text (c (g mid x.head)) (Ac (AE.mhL c (if x.kind=6 then(Al (gF g) sc N x.id x.flow mid ()).1 else x.flow))) ((((x.rows.map (fO g (Al (gF g) sc N) mid)).map (Aa.mh c)).map Aa.nrm).filter λr=>!decide (r.cells.length=0))=_;rw[hc _ _ w.head,s,h2]
   have:=eZ.map (f:=AE.mh c ∘ eF g (Al (gF g) sc N) mid) (g:=λx=>x) (l:=l) e
   rwa [List.map_id']at this
  rw[Al];split;rename_i m;have u:mid=false:=by unfold EX at m;cases mid;rfl;simp at m
  subst u;obtain⟨_,n,v,y⟩:=(dn sc D).1 m;have q:∀(mid:Bool) (a b:Int),0<=a->0<=b->eZ (AE.mhL c (BL (gF g) (Al (gF g) sc N) mid (Ad l a b).1 ()).1) (Ad l a b).1:=λmid a b t hb=>P mid _ (eU a b W) (dM a b t hb D);show eZ (AE.mhL c ((BL (gF g) (Al (gF g) sc N) false (Ad l 0 sc.a).1 ()).1++(BL (gF g) (Al (gF g) sc N) true (Ad l sc.a sc.b).1 ()).1++(BL (gF g) (Al (gF g) sc N) false (Ad l sc.b (A8 l).1).1 ()).1)) l;rw[Z6,qc,qc,<-Z6,<-Z6,<-Z6];have hn:0<=(A8 l).1:=by rw[dP D];dsimp only;omega
  exact((eZ.app (eZ.app (q false 0 sc.a (by omega) n) (q true sc.a sc.b n (by omega))) (q false sc.b (A8 l).1 (by omega) hn))).trans (K_ W D n v y);exact P mid l W D
end
def bN (w:World):Cx:=⟨λ_=>none,λ_=>False,w,λ_=>none⟩
theorem mD (W:World):Bn (λ_=>none) (bN W):=⟨λ_ _ h=>(by cases h),λ_ _ _ _ _ h=>(by cases h),λb=>⟨λh=>h.elim,λ⟨_,_,h,_⟩=>(by cases h)⟩⟩
theorem TS {W a:World} (hs:W.heap.size<=a.heap.size) (g:∀b,b<W.heap.size->a.heap[b]? = W.heap[b]?) (f:a.os=W.os) (hp:a.output=W.output) (ht:Td W a):∃q os,a=Go.Sort.grow (W.drewN q) os:=by
 refine⟨a.drawn-W.drawn,a.heap.extract W.heap.size a.heap.size,?_⟩;obtain⟨d,h2⟩:=ht;have e:a.heap=W.heap++a.heap.extract W.heap.size a.heap.size:=by
  apply Array.ext_getElem?;intro i;by_cases hi:i<W.heap.size;rw[jp hi,g i hi];rw[Array.getElem?_append_right (by omega)];by_cases c:i<a.heap.size;rw[jd c,jd (by simp;omega)];simp only[Array.getElem_extract];congr 2;omega;rw[jg (by omega),jg (by simp;omega)]
 cases a with
 | mk heap tape drawn os output=>
  simp only at e d h2 f hp ⊢;subst d f hp;rw[e];simp only[Go.Sort.grow,World.drewN];congr 1;congr 1;rw[<-e];omega
theorem PC.grown {f:FuncId} {a:List SV} {v:SV} (h:PC f a v) {W:World} {vs:List Value} (k:AZ (V (bN W)) a vs):Calls Tryz.prog f vs.toArray W λe i=>(∃u d,e=.returned u/\V d v u)/\∃q os,i=Go.Sort.grow (W.drewN q) os:=by
 have:=(h (λ_=>none) 0).2 (bN W) vs trivial (mD W) (λ_ _=>rfl) k;refine this.mono ?_;rintro e i ⟨u,v',h',n',d,rfl,⟨rfl,_⟩,rfl,j,_,_,c⟩;exact⟨⟨u,d,rfl,j⟩,TS c.ext.size (λb hb=>(c.ext.keep b hb (λg=>g)).2) c.ext.os c.ext.out c.ext.td⟩
end Go.Proofs.YtgakninlhfkkmaaGreat.Sh
namespace Go.Proofs
open Go.Shelf
def Tryz.sortB_ren:Go.Shelf.Ren:=⟨fun|6=>97|15=>169|14=>168|28=>245|29=>246|20=>237|21=>238|22=>239|23=>240|24=>241|25=>242|26=>243|27=>244|46=>280|47=>281|48=>282|49=>283|50=>284|57=>311|n=>n,fun|22=>86|24=>89|25=>154|3=>3|39=>213|0=>0|53=>306|55=>308|4=>4|46=>300|45=>299|50=>123|5=>5|9=>9|66=>342|70=>72|76=>373|77=>374|n=>n,fun|n=>n⟩
theorem Tryz.sortB:Go.Proofs.SlLaysF0.n6 Tryz.prog Tryz.sortB_ren:={
 mixed:=by kernel_rfl
 f6:=⟨Tryz.f97.name,by decide,Tryz.func97.trans (congrArg some (by kernel_rfl))⟩
 f14:=⟨Tryz.f168.name,by decide,Tryz.func168.trans (congrArg some (by kernel_rfl))⟩
 f15:=Tryz.func169.trans (congrArg some (by kernel_rfl))
 f20:=⟨Tryz.f237.name,by decide,Tryz.func237.trans (congrArg some (by kernel_rfl))⟩
 f21:=⟨Tryz.f238.name,by decide,Tryz.func238.trans (congrArg some (by kernel_rfl))⟩
 f22:=⟨Tryz.f239.name,by decide,Tryz.func239.trans (congrArg some (by kernel_rfl))⟩
 f23:=⟨Tryz.f240.name,by decide,Tryz.func240.trans (congrArg some (by kernel_rfl))⟩
 f24:=⟨Tryz.f241.name,by decide,Tryz.func241.trans (congrArg some (by kernel_rfl))⟩
 f25:=⟨Tryz.f242.name,by decide,Tryz.func242.trans (congrArg some (by kernel_rfl))⟩
 f26:=⟨Tryz.f243.name,by decide,Tryz.func243.trans (congrArg some (by kernel_rfl))⟩
 f27:=⟨Tryz.f244.name,by decide,Tryz.func244.trans (congrArg some (by kernel_rfl))⟩
 f28:=Tryz.func245.trans (congrArg some (by kernel_rfl))
 f29:=Tryz.func246.trans (congrArg some (by kernel_rfl))
 f46:=⟨Tryz.f280.name,by decide,Tryz.func280.trans (congrArg some (by kernel_rfl))⟩
 f47:=Tryz.func281.trans (congrArg some (by kernel_rfl))
 f48:=Tryz.func282.trans (congrArg some (by kernel_rfl))
 f49:=⟨Tryz.f283.name,by decide,Tryz.func283.trans (congrArg some (by kernel_rfl))⟩
 f50:=⟨Tryz.f284.name,by decide,Tryz.func284.trans (congrArg some (by kernel_rfl))⟩
 f57:=⟨Tryz.f311.name,by decide,Tryz.func311.trans (congrArg some (by kernel_rfl))⟩
 t0:=Tryz.underlying0
 a0:=Tryz.isAgg0
 z0:=Tryz.sizeOf0
 v0:=Tryz.zeroValue0
 t3:=Tryz.underlying3
 a3:=Tryz.isAgg3
 z3:=Tryz.sizeOf3
 v3:=Tryz.zeroValue3
 t4:=Tryz.underlying4
 a4:=Tryz.isAgg4
 z4:=Tryz.sizeOf4
 v4:=Tryz.zeroValue4
 t5:=Tryz.underlying5
 a5:=Tryz.isAgg5
 z5:=Tryz.sizeOf5
 v5:=Tryz.zeroValue5
 t9:=Tryz.underlying9
 a9:=Tryz.isAgg9
 z9:=Tryz.sizeOf9
 v9:=Tryz.zeroValue9
 t22:=Tryz.underlying86
 a22:=Tryz.isAgg86
 z22:=Tryz.sizeOf86
 v22:=Tryz.zeroValue86
 t25:=Tryz.underlying154
 a25:=Tryz.isAgg154
 z25:=Tryz.sizeOf154
 v25:=Tryz.zeroValue154
 t39:=Tryz.underlying213
 a39:=Tryz.isAgg213
 z39:=Tryz.sizeOf213
 v39:=Tryz.zeroValue213
 t45:=Tryz.underlying299
 a45:=Tryz.isAgg299
 z45:=Tryz.sizeOf299
 v45:=Tryz.zeroValue299
 t46:=Tryz.underlying300
 a46:=Tryz.isAgg300
 z46:=Tryz.sizeOf300
 v46:=Tryz.zeroValue300
 t50:=Tryz.underlying123
 a50:=Tryz.isAgg123
 z50:=Tryz.sizeOf123
 v50:=Tryz.zeroValue123
 t53:=Tryz.underlying306
 a53:=Tryz.isAgg306
 z53:=Tryz.sizeOf306
 v53:=Tryz.zeroValue306
 t55:=Tryz.underlying308
 a55:=Tryz.isAgg308
 z55:=Tryz.sizeOf308
 v55:=Tryz.zeroValue308
 t66:=Tryz.underlying342
 a66:=Tryz.isAgg342
 z66:=Tryz.sizeOf342
 v66:=Tryz.zeroValue342
 t70:=Tryz.underlying72
 a70:=Tryz.isAgg72
 z70:=Tryz.sizeOf72
 v70:=Tryz.zeroValue72
 t76:=Tryz.underlying373
 a76:=Tryz.isAgg373
 z76:=Tryz.sizeOf373
 v76:=Tryz.zeroValue373
 t77:=Tryz.underlying374
 a77:=Tryz.isAgg374
 z77:=Tryz.sizeOf374
 v77:=Tryz.zeroValue374 }
end Go.Proofs
namespace Go.Proofs.YtgakninlhfkkmaaGreat.Sh
open Proofs
set_option maxRecDepth 10000
open Go.Sort (SWO)
def JR (x:Int×Int):List Value:=[.int .i64 x.1,.int .i64 x.2]
def OL (l:List (Int×Int)):List Int:=l.flatMap λx=>[x.1,x.2]
theorem Ic:∀l:List (Int×Int),(OL l).length=l.length*2
 | []=>rfl
 | x::l=>by have:=Ic l;simp only[OL,qK,qt,qF,jI]at *;omega
theorem Nq:∀l:List (Int×Int),Fw l=(OL l).map AA
 | []=>rfl
 | x::l=>by
  have:=Nq l;unfold Fw OL at *;simp only[qu,qK,qc,this];rfl
theorem Q8:∀(l:List (Int×Int)) (t:Nat) (h:t<l.length*2),((OL l).map (Value.int .i64))[t]? = (JR l[t / 2])[t % 2]?
 | [],t,h=>by simp at h
 | x::l,0,h=>rfl
 | x::l,1,h=>rfl
 | x::l,t+2,h=>by
  have a:(t+2) / 2=t / 2+1:=by omega
  have b:(t+2) % 2=t % 2:=by omega
  have h2:t<l.length*2:=by simp at h;omega
  have:=Q8 l t h2;simp only[a,b,ju];rw[<-this];rfl
theorem Va (l:List (Int×Int)):Go.Sort.flatK JR 2 l.toArray=((OL l).map (Value.int .i64)).toArray:=by
 refine Go.Sort.ext_get! (by simp[Ic]) λt ht=>?_;have a:t<l.length*2:=by simpa using ht
 rw[Go.Sort.get_flatK _ _ _ _ (by simpa using a)];have d:=Q8 l t a;have h2:t / 2<l.length:=by omega
 have g:t % 2<2:=Nat.mod_lt _ (by omega);have e:(l.toArray)[t / 2]! = l[t / 2]:=by rw[getElem!_pos _ _ (by simpa using h2)];simp
 rw[e];have b:t<((OL l).map (Value.int .i64)).length:=by rw[qd,Ic];exact a
 have c:t % 2<(JR l[t / 2]).length:=g;have f:((OL l).map (Value.int .i64)).toArray[t]! = ((OL l).map (Value.int .i64))[t]:=by
  rw[getElem!_pos ((OL l).map (Value.int .i64)).toArray t (by simpa using b)];simp
 rw[f,getElem!_pos (JR l[t / 2]) (t % 2) c];rw[qf b,qf c]at d;exact(Option.some.inj d).symm
theorem Ya (x y:Int×Int):ltOf LJ x y=decide (x.1<y.1\/(x.1=y.1/\x.2<y.2)):=by
 unfold ltOf LJ Do;by_cases a:x.1<y.1;simp[a,UQ];by_cases h2:y.1<x.1;have:¬x.1=y.1:=by omega
 simp[a,h2,UQ,this];have:x.1=y.1:=by omega
 by_cases b:x.2<y.2;simp[this,b,UQ];by_cases c:y.2<x.2<;>simp[this,b,c,UQ]
theorem Yo:SWO (ltOf LJ) where
 irrefl x:=by rw[Ya];simp
 trans x y z h1 h2:=by rw[Ya]at *;simp at *;omega
 ntrans x y z h1 h2:=by rw[Ya]at *;simp at *;omega
def dZ (l:List (Int×Int)):List (Int×Int):=l.mergeSort λx y=>!(ltOf LJ) y x
theorem VO (c:Cx) (x:Int×Int):V c (B5 x) (.agg (JR x).toArray):=by
 rw[H6,V];exact⟨JR x,rfl,BN.2 ⟨by simp[V],by simp[V],trivial⟩,λv a=>by simp[JR]at a;rcases a with rfl|rfl<;>rfl⟩
theorem YX (a off size:Nat) (w:World):CmpLays Tryz.prog 98 #[] JR 2 LJ a off size w:=by
 intro m os c _ x y;have:=(c98 x y).grown (W:=sortWorldK JR 2 w a off m c os) (vs:=[.agg (JR x).toArray,.agg (JR y).toArray]) ⟨VO _ x,VO _ y,trivial⟩;refine this.mono ?_;rintro e w' ⟨⟨u,c',rfl,d⟩,q,b,rfl⟩;rw[C7 d];exact⟨rfl,q,b,rfl⟩
theorem Yd:Kk Tryz.prog 97=true:=by unfold Kk;rw[Tryz.func97];kernel_rfl
theorem PM (c:Cx):∀l:List Int,AZ (V c) (l.map AA) (l.map (Value.int .i64))
 | []=>trivial
 | x::l=>⟨by simp[V],PM c l⟩
theorem d97 (l:List (Int×Int)) (hl:l.length<=1048576) {H:Hp} {n o:Nat} {full:Bool} {t:List SV} (T:H o=some (.cells (Fw l++t))):
 BA Tryz.prog 97 [.sl o 0 2 l.length full,.fn (.func 98) [] []] H n (λv h' n'=>v=.tup []/\h'=hset H o (some (.cells (Fw (dZ l)++t)))/\n'=n):=by
 refine⟨Yd,λc vs _ R F A=>?_⟩;have⟨u,rs,ev,r,A2⟩:∃u rs,vs=u::rs/\V c (.sl o 0 2 l.length full) u/\AZ (V c) [.fn (.func 98) [] []] rs:=by
  cases vs with
  | nil=>exact A.elim
  | cons u rs=>exact⟨u,rs,rfl,A.1,A.2⟩
 obtain⟨u2,rfl,s⟩:=A2.single;subst ev;simp only[V,VL]at r s;obtain⟨xs,ys,rfl,B,hy⟩:=s;subst B hy;obtain⟨b,st,cap,hρ,rfl,hcap,_,hroom⟩:=r;obtain⟨b',st',arr,e,vs,N,p,O,P,g5,_⟩:=R.obj o _ T;rw[hρ]at N;cases N;have Q:=AZ.pre P;rw[Nq,qd,Ic]at Q;have M:=Nt Q;have S:=AZ.drop (l.length*2) P;rw[List.drop_left' (by rw[F9])]at S;have a:b<c.w.heap.size:=(qp.1 p).1;have d:∀j (x:Value),((OL l).map (Value.int .i64))[j]? = some x->arr[st+j]? = some x:=λj x e=>by
  rw[<-M]at e;exact O j x (by rw[jf]at e;split at e;exact e;cases e)
 have I:Go.Sort.HoldsK JR 2 c.w b (st+0) l.toArray:=by
  unfold Go.Sort.HoldsK;rw[Va];intro j U;have J:j<((OL l).map (Value.int .i64)).length:=by simpa using U
  have e4:((OL l).map (Value.int .i64)).toArray[j]! = ((OL l).map (Value.int .i64))[j]:=by
   rw[getElem!_pos ((OL l).map (Value.int .i64)).toArray j U];simp
  rw[e4];exact⟨by simp[World.cell?,p,d j _ (qf J)],by simp[World.frozen?,p]⟩
 have eg:∀args w,(callFunc 98 args).run Tryz.prog w=.ok (.enter 98 args) w:=enters_of Tryz.func98 (by kernel_rfl) rfl;have W:=AnyQ.slices_SortFunc Tryz.sortB 2 Tryz.isAgg89 Tryz.sizeOf89 JR (λ_=>rfl) (λx v r=>by simp[JR]at r;rcases r with rfl|rfl<;>rfl) LJ Yo 98 #[] b (st+0) cap l.toArray c.w eg (YX _ _ _ _) I a (by simp;omega);have E:Calls Tryz.prog 97 #[.slice (some ⟨b,st+0,none⟩) l.length cap,.func (.func 98) #[] #[]] c.w λe w'=>e=.returned (.tuple #[])/\∃k os,w'=Go.Sort.grow (Go.Sort.putRow id (Go.Sort.ahead c.w k) b (st+0) ((OL (dZ l)).map (Value.int .i64)).toArray) os:=by
  refine W.mono ?_;rintro e w' ⟨rfl,G,k,os,C,h2,rfl⟩;refine⟨rfl,k,os,?_⟩;have h3:=Go.Sort.sorted_unique_holds Yo (λx y C h2=>by
   rw[Ya]at C h2;simp at C h2;exact Prod.ext (by omega) (by omega)) l.toArray G C h2
  have h6:G=(dZ l).toArray:=by rw[<-Array.toArray_toList (xs:=G),h3];rfl
  unfold sortWorldK Go.Sort.putRowK;rw[h6,Va]
 refine E.mono ?_;rintro e w' ⟨rfl,k,os,rfl⟩;have q:(dZ l).length=l.length:=jW _;obtain⟨L,D⟩:∃L,L=(OL (dZ l)).map (Value.int .i64):=⟨_,rfl⟩
 have hLl:L.length=l.length*2:=by rw[D,qd,Ic,q]
 have hfl:((OL l).map (Value.int .i64)).length=l.length*2:=by rw[qd,Ic]
 rw[<-D];have m:(Go.Sort.grow (Go.Sort.putRow id (Go.Sort.ahead c.w k) b (st+0) L.toArray) os).heap=(c.w.heap.modify b (Go.Sort.onCells (Go.Sort.putCells id (st+0) L.toArray)))++os:=rfl;have f:(Go.Sort.grow (Go.Sort.putRow id (Go.Sort.ahead c.w k) b (st+0) L.toArray) os).heap[b]? = some (.cells (Go.Sort.putCells id (st+0) L.toArray arr) e (0,0)):=by
  rw[m,jp (by simpa using a),jX,if_pos rfl,p];rfl
 obtain⟨Y,Z⟩:=R.write2 (w':=Go.Sort.grow (Go.Sort.putRow id (Go.Sort.ahead c.w k) b (st+0) L.toArray) os) (y:=.cells (Fw (dZ l)++t)) T hρ
  (by rw[m];simp) (λb' hb K=>by rw[m,jp (by simpa using K),jX,if_neg (Ne.symm hb)])
  (by unfold rm; rw [f, p]; simp [Go.Sort.putCells]) rfl rfl (fun X => by
    refine⟨b,st,_,e,L++vs.drop (l.length*2),hρ,f,λi x hi=>?_,?_,λx B=>?_,Ty.none⟩;simp only[Go.Sort.putCells,Array.getElem?_mapIdx,jJ,List.size_toArray];by_cases g:i<L.length;rw[jD g]at hi;have B:L[i]=x:=by rw[qf g]at hi;exact Option.some.inj hi
    have h7:=d i _ (qf (by omega));rw[h7,jk,if_pos ⟨by omega,by omega⟩,show st+i-st=i by omega];rw[getElem!_pos L.toArray i (by simpa using g)];simp[B];rw[qV (by omega),qY,show l.length*2+(i-L.length)=i by omega]at hi;rw[O i x hi,jk,if_neg (by omega)];rw[Nq];refine jS ?_ (kL X S);rw[D];exact PM _ _;rcases qe.1 B with h|h;rw[D]at h;obtain⟨z,_,rfl⟩:=qy.1 h;rfl;exact g5 x (qT h))
 exact⟨.tuple #[],.tup [],_,n,_,rfl,⟨rfl,rfl,rfl⟩,rfl,by simp[V,VL],Y,F,⟨Z,qa _,λ_ _=>rfl⟩⟩
end Go.Proofs.YtgakninlhfkkmaaGreat.Sh
namespace Go.Proofs.YtgakninlhfkkmaaGreat.Sh
open Proofs
set_option maxRecDepth 10000
def PF (x y:Int×Int):Prop:=x.1<y.1\/(x.1=y.1/\x.2<y.2)
def Rr (l:List (Int×Int)):Prop:=l.Pairwise PF
theorem Nx {x y:Int×Int} (h:PF x y):x≠y:=by rintro rfl;unfold PF at h;omega
theorem Pn (l:List (Int×Int)):(dZ l).Pairwise λa b=>¬PF b a:=by
 have h:∀x y,(!(ltOf LJ) y x)=true↔¬PF y x:=λx y=>by rw[Ya];unfold PF;simp;omega
 have:=List.pairwise_mergeSort (le:=λx y=>!(ltOf LJ) y x) (λa b c d h2=>by
  rw[h]at d h2 ⊢;unfold PF at *;omega) (λa b=>by
  rw[kH,h,h];unfold PF;omega) l
 exact this.imp fun {a b} g=>(h a b).1 g
theorem QF {l:List (Int×Int)} (hl:l.Pairwise λa b=>¬PF b a):∀i,i<=l.length->Rr (Ip l i)/\∀y,y∈Ip l i↔y∈l.take i
 | 0,_=>⟨List.Pairwise.nil,by simp[Ip]⟩
 | i+1,hi=>by
  obtain⟨n,h2⟩:=QF hl i (by omega);have d:i<l.length:=by omega
  have f:l.take (i+1)=l.take i++[l[i]]:=qb d;rcases Nat.eq_zero_or_pos i with e|e;subst e;have s:Ip l (0+1)=[l[0]]:=by simp[Ip,d]
  rw[s,f];exact⟨List.pairwise_singleton _ _,by simp⟩;rw[LL l e d,f];have k:l[i-1]∈l.take i:=List.mem_take_iff_getElem.2 ⟨i-1,by omega,rfl⟩;by_cases c:l[i]=l[i-1];rw[if_pos c];refine⟨n,λy=>?_⟩;rw[h2,qe,qv];exact⟨.inl,λg=>g.elim id λg=>by rw[g,c];exact k⟩;rw[if_neg c];refine⟨List.pairwise_append.2 ⟨n,List.pairwise_singleton _ _,λa o b hb=>?_⟩,λy=>by rw[qe,qe,h2]⟩;rw[qv]at hb;subst hb;rw[h2]at o;obtain⟨j,hj,rfl⟩:=List.mem_take_iff_getElem.1 o;have hj':j<i:=by omega
  have p:¬PF l[i] l[i-1]:=jC.1 hl (i-1) i (by omega) d (by omega);have h:j=i-1\/¬PF l[i-1] l[j]:=by
   rcases ji j (i-1)with q|q;exact .inr (jC.1 hl j (i-1) (by omega) (by omega) q);exact .inl (by omega)
  have r:l[i-1]≠l[i]:=λq=>c q.symm;have m:PF l[i-1] l[i]:=by
   unfold PF at p ⊢;by_cases t:l[i-1].1=l[i].1;have q2:l[i-1].2≠l[i].2:=λq=>r (Prod.ext t q);omega;omega
  rcases h with rfl|h;exact m;unfold PF at h m ⊢;omega
def WX (l:List Int) (M:List (Int×Int)):List (Int×Int):=Ip (dZ (M.filter λx=>BV l x.1)) (dZ (M.filter λx=>BV l x.1)).length
theorem RH (l:List Int) (M:List (Int×Int)):Rr (WX l M):=(QF (Pn _) _ (qa _)).1
theorem Uy {l:List Int} {M:List (Int×Int)} {y:Int×Int}:y∈WX l M↔y∈M/\BV l y.1=true:=by
 unfold WX;rw[(QF (Pn _) _ (qa _)).2,qi];unfold dZ;rw[List.mem_mergeSort,qW]
theorem Qs {last:Int} (h0:0<=last):∀(A:List Int) (q:Int×Bool),(q=(0,false)\/(q.2=true/\last<q.1))->(q.2=true->(A.foldl (DO last) q).2=true/\(A.foldl (DO last) q).1<=q.1)/\∀x∈A,last<x->(A.foldl (DO last) q).2=true/\(A.foldl (DO last) q).1<=x
 | [],q,_=>⟨λh=>⟨h,Int.le_refl _⟩,by simp⟩
 | a :: A, q, hq => by
  have m:DO last q a=(0,false)\/((DO last q a).2=true/\last<(DO last q a).1):=by
   unfold DO;split;rename_i c;exact .inr ⟨rfl,c.1⟩;exact hq
  obtain⟨l,n⟩:=Qs h0 A (DO last q a) m;have d:q.2=true->(DO last q a).2=true/\(DO last q a).1<=q.1:=λg=>by
   have g2:last<q.1:=by
    rcases hq with e|e;rw[e]at g;cases g;exact e.2
   unfold DO;split;rename_i c;exact⟨rfl,by omega⟩;exact⟨g,Int.le_refl _⟩
  have i:last<a->(DO last q a).2=true/\(DO last q a).1<=a:=λg=>by
   unfold DO;split;exact⟨rfl,Int.le_refl _⟩;rename_i c;have j:¬(q.1=0\/a<q.1):=λk=>c ⟨g,k⟩;rcases hq with e|e;rw[e]at j;exact absurd (.inl rfl) j;exact⟨e.1,by omega⟩
  simp only[qM];refine⟨λg=>?_,λx f b=>?_⟩;have:=d g;have:=l this.1;exact⟨this.1,by omega⟩;rcases qk.1 f with rfl|f;have:=i b;have:=l this.1;exact⟨this.1,by omega⟩;exact n x f b
theorem PQ (A:List Int) (last:Int) (h0:0<=last):(Fg A last).Pairwise (· < ·)/\∀x,x∈Fg A last↔x∈A/\last<x:=by
 rw[Fg];obtain⟨_,hb⟩:=Qs h0 A (0,false) (.inl rfl);split;rename_i h;obtain⟨m1,m2⟩:=Qq h;have:=H5 h;obtain⟨i1,i2⟩:=PQ A (Oa A last).1 (by omega);refine⟨qR.2 ⟨λx hx=>((i2 x).1 hx).2,i1⟩,λx=>?_⟩;rw[qk,i2];constructor;rintro(rfl|⟨g1,g2⟩);exact⟨m1,m2⟩;exact⟨g1,by omega⟩;rintro⟨g1,g2⟩;have:=(hb x g1 g2).2;by_cases c:x=(Oa A last).1;exact .inl c;refine .inr ⟨g1,?_⟩;have:(Oa A last).1<=x:=this;omega;rename_i h;refine⟨List.Pairwise.nil,λx=>⟨λg=>by simp at g,λ⟨g1,g2⟩=>absurd (hb x g1 g2).1 h⟩⟩
termination_by (A.filter λx=>decide (last<x)).length
section
variable {σ τ : Type}
theorem GO {α β γ:Type} (R:β->γ->Prop) (a:β->α->β) (b:γ->α->γ):∀(l:List α) (p:β) (q:γ),(∀x∈l,∀p q,R p q->R (a p x) (b q x))->R p q->R (l.foldl a p) (l.foldl b q)
 | [],_,_,_,g=>g
 | x::l,p,q,h,g=>GO R a b l _ _ (λy c=>h y (qL _ c)) (h x (jP ..) p q g)
theorem HZ (R:σ->τ->Prop) (f1:σ->BW->AF×Bool×σ) (f2:τ->BW->AF×Bool×τ) (h:∀s t p,R s t->R (f1 s p).2.2 (f2 t p).2.2):∀(N:Nat) (id:Int) (l:List AE) (sc:Av) (mid:Bool) (s:σ) (t:τ),R s t->R (Aw f1 N id l sc mid s).2 (Aw f2 N id l sc mid t).2
 | 0,_,_,_,_,_,_,g=>g
 | N + 1, id, l, sc, mid, s, t, g => by
  have d:=HZ R f1 f2 h N;have fr:∀{α β γ:Type} (a:β×σ->α->β×σ) (b:γ×τ->α->γ×τ),(∀x p q,R p.2 q.2->R (a p x).2 (b q x).2)->∀(l:List α) (p:β×σ) (q:γ×τ),R p.2 q.2->R (l.foldl a p).2 (l.foldl b q).2:=λa b e l p q g=>
   GO (λp q=>R p.2 q.2) a b l p q (λx _ p q g=>e x p q g) g
  have q:∀sc mid l s t,R s t->R (Bq f1 (Aw f1 N) sc mid l s).2 (Bq f2 (Aw f2 N) sc mid l t).2:=λsc mid l s t g=>by
   refine fr (Dq f1 (Aw f1 N) sc mid) (Dq f2 (Aw f2 N) sc mid) (λx p q g=>?_) l ([],s) ([],t) g;refine(fr (CW f1 (Aw f1 N) sc mid) (CW f2 (Aw f2 N) sc mid) (λr p q g=>?_) x.rows ([],(K3 (Aw f1 N) sc mid x (f1 p.2 ⟨x.head,mid,(A8 [x]).1⟩).2.2).2) ([],(K3 (Aw f2 N) sc mid x (f2 q.2 ⟨x.head,mid,(A8 [x]).1⟩).2.2).2) ?_:_);refine(fr (CG f1 (Aw f1 N) sc mid) (CG f2 (Aw f2 N) sc mid) (λc p q g=>?_) r.cells ([],(f1 p.2 ⟨r.head,mid,1⟩).2.2) ([],(f2 q.2 ⟨r.head,mid,1⟩).2.2) (h _ _ _ g):_);exact d _ _ _ _ _ _ (h _ _ _ g);unfold K3;split;exact d _ _ _ _ _ _ (h _ _ _ g);exact h _ _ _ g
  rw[Aw,Aw];split;exact q _ _ _ _ _ (q _ _ _ _ _ (q _ _ _ _ _ g));exact q _ _ _ _ _ g
end
section
variable {σ τ : Type} {hp : AF → Prop} {T : Int → Prop} {f1 : σ → BW → AF × Bool × σ} {f2 : τ → BW → AF × Bool × τ} {sc : Av}
end
def Eb (l:List Int) (s:Int×Bool) (d:Az):Int×Bool:=if BV l d.rev then(s.1+1,s.2||(d.move !=0))else s
def Hu (l:List Int) (h:AF):Int×Bool:=if BV l h.ins then(1,h.move !=0)else(0,false)
def confl (l:List Int) (h:AF):Bool:=decide (1<(h.dels.foldl (Eb l) (Hu l h)).1)&&(h.dels.foldl (Eb l) (Hu l h)).2
theorem VX (l:List Int):∀(a:List Az) (s:Int×Bool),s.1<=(a.foldl (Eb l) s).1/\(a.foldl (Eb l) s).1<=s.1+a.length
 | [],s=>by simp
 | d::a,s=>by
  have h:=VX l a (Eb l s d);have h2:s.1<=(Eb l s d).1/\(Eb l s d).1<=s.1+1:=by unfold Eb;split<;>constructor<;>omega
  simp only[qM,qF];omega
set_option maxHeartbeats 2000000 in
theorem c94 (l:List Int) (hl:l.length<=1073741824) (full:Bool) (x:AF) (hx:x.dels.length<=1048576):PC 94 [.imm 1 (l.map AA) full,x.enc] (.bool (confl l x)):=by
 intro h n;refine Db Tryz.func94 rfl λk=>?_;have b:=k.lt;obtain⟨I,hI⟩:∃I:SV,I=.imm 1 (l.map AA) full:=⟨_,rfl⟩
 have v:=λy=>ZN l hl y full;rw[<-hI]at v ⊢;refine AY 1 [(0,I),(3,.iptr x.flat)] h n ?_ (λm a=>?_);simp[go_sem,AF.enc,AF.flat,IO];exact⟨AV (k.none (by omega)) (by simp[hset]),λj y e=>by have:=b j y e;simp only[hset];grind⟩;refine AY 0 [(0,I),(3,.iptr x.flat),(5,AA 0),(6,.bool false)] h n ?_ (λm a=>?_);simp[go_sem,IO,a];refine Bc 0 [(0,I),(3,.iptr x.flat),(5,AA (Hu l x).1),(6,.bool (Hu l x).2)] h n (AH ?_) (λm a=>?_)
 . simp[go_sem,AF.flat];refine qw (v x.ins) ?_;cases e:BV l x.ins with
   | false=>simp[go_sem,Hu,e,IO,a]
   | true=>
    simp[go_sem,Hu,e]
    repeat first|refine nq ?_|refine sq ?_|refine aq ?_
    simp[go_sem,a]
 obtain⟨S,f⟩:∃S:Nat->Int×Bool,∀i,S i=(x.dels.take i).foldl (Eb l) (Hu l x):=⟨_,λ_=>rfl⟩
 have o:S 0=Hu l x:=by rw[f];rfl
 have s:∀i d,(h:i<x.dels.length)->x.dels[i]=d->S (i+1)=Eb l (S i) d:=λi d h g=>by rw[f,f,DE _ _ _ _ _ h g]
 have r:S x.dels.length=x.dels.foldl (Eb l) (Hu l x):=by rw[f,qi]
 have p:∀i,0<=(S i).1/\(S i).1<=1+i:=λi=>by
  have:=VX l (x.dels.take i) (Hu l x);have h2:0<=(Hu l x).1/\(Hu l x).1<=1:=by unfold Hu;split<;>simp
  rw[f];have h3:(x.dels.take i).length<=i:=List.length_take_le _ _;omega
 clear f;refine Bc 0 [(5,AA (S x.dels.length).1),(6,.bool (S x.dels.length).2)] h n ?_ (λm a=>?_)
 . refine AY 0 [(0,I),(5,AA (Hu l x).1),(6,.bool (Hu l x).2),(20,AP x.dels),(21,AA x.dels.length),(22,AA 0)] h n ?_ (λm a=>?_);simp[go_sem,AF.flat,IO,a];refine AR (BG 0 (α:=Nat) (λi=>[(0,I),(5,AA (S i).1),(6,.bool (S i).2),(20,AP x.dels),(21,AA x.dels.length),(22,AA i)]) (λ_=>h) (λi m=>i<=x.dels.length/\n<=m) (λi=>x.dels.length-i) 0 ⟨by omega,a⟩ ?_ AB ?_);simp[Ai,o,IO];rintro i m2 ⟨hi,t⟩;by_cases c:i<x.dels.length
   . have w1:=wS i (by omega);have w2:IntKind.i64.wrap ((S i).1+1)=(S i).1+1:=by have:=p i;rw[Cl]<;>omega
     obtain⟨d,g⟩:∃d,x.dels[i]=d:=⟨_,rfl⟩
     have u:=s i d c g;refine Bp 0 [(0,I),(5,AA (S i).1),(6,.bool (S i).2),(20,AP x.dels),(21,AA x.dels.length),(22,AA i),(23,.bool true)] h m2 ?_ (λm a=>?_);simp[go_sem,IO,c];subst a;refine Bp 0 [(0,I),(5,AA (S i).1),(6,.bool (S i).2),(20,AP x.dels),(21,AA x.dels.length),(22,AA i)] h m2 ?_ (λm a=>?_);simp[go_sem,IO];subst a;refine AT 0 (α:=Unit) (λ_=>[(0,I),(5,AA (S (i+1)).1),(6,.bool (S (i+1)).2),(20,AP x.dels),(21,AA x.dels.length),(22,AA i)]) (λ_=>h) (λ_ m=>n<=m) (AR (AH ?_)) (λ_ m a=>?_)
     . simp[go_sem,c,g,Az.enc,AC,AS];refine qw (v d.rev) ?_;rw[u,Eb];cases e:BV l d.rev with
       | false=>
        simp[go_sem,IO];exact⟨by omega,AJ (λj y e=>by have:=b j y e;omega) AB⟩
       | true =>
        have w:∀y,∀j z,h j=some z->hset h m2 y j=some z:=λy=>AJ (λj y e=>by have:=b j y e;omega) AB;cases hb:(S i).2 with
        | false=>
         simp[go_sem]
         repeat first|refine nq ?_|refine sq ?_|refine aq ?_
         simp[go_sem,AC,w2,IO]
         repeat first|refine nq ?_|refine sq ?_|refine aq ?_
         exact w _
        | true=>
         simp[go_sem]
         repeat first|refine nq ?_|refine sq ?_|refine aq ?_
         simp[go_sem,w2,IO]
         repeat first|refine nq ?_|refine sq ?_|refine aq ?_
         exact w _
     refine AH ?_;simp[go_sem,w1,IO,-Int.natCast_add];exact⟨i+1,by omega,⟨by omega,a⟩,IO,IO,IO⟩
   have:i=x.dels.length:=by omega
   subst this;refine AH ?_;simp[go_sem,IO,t]
 refine AH ?_;rw[r];unfold confl;generalize x.dels.foldl (Eb l) (Hu l x)=q;by_cases e:1<q.1;simp[go_sem,e];exact As k rfl (by simp[]);simp[go_sem,e];exact As k rfl (by simp[])
section
variable {l : List Int} {L : List (Int × Int)} {to : Int}
theorem JX (a:(0:Int)∉l) (y:Int):BV l y=decide (y∈l):=by
 unfold BV;by_cases c:y∈l;have:y≠0:=λe=>a (e▸c);simp[c,this];simp[c]
def kJ (l:List Int) (L:List (Int×Int)) (to:Int) (ds:List Az):List Az:=(ds.filter λd=>BV l d.rev).map λd=>⟨to,E4 L (d.rev,d.move) 0⟩
def PL (l:List Int) (ds:List Az):Bool:=ds.any λd=>BV l d.rev&&(d.move !=0)
theorem Qy:∀(a:List Az) (s:Int×Bool),a.foldl (Eb l) s=(s.1+(kJ l L to a).length,s.2||PL l a)
 | [],s=>by simp[kJ,PL]
 | d::a,s=>by
  rw[qM,Qy a];unfold Eb kJ PL;by_cases c:BV l d.rev=true;simp[c,Bool.or_assoc];omega;have c:BV l d.rev=false:=by simpa using c
  simp[c]
def Oe (l:List Int) (L:List (Int×Int)):List Az->Bool->List Az
 | [],_=>[]
 | d::ds,f=>if BV l d.rev=true then(if f then⟨d.rev,E4 L (d.rev,d.move) 0⟩::Oe l L ds false else Oe l L ds false)else d::Oe l L ds f
theorem Ni:∀(a:List Az) (q:List Az×Bool),(a.foldl (Hf l L) q).1=q.1++Oe l L a q.2
 | [],q=>by simp[Oe]
 | d::a,q=>by
  rw[qM,Ni a,Oe];unfold Hf;by_cases c:BV l d.rev=true;rw[if_pos c,if_pos c];cases q.2<;>simp;rw[if_neg c,if_neg c];simp
end
theorem UY {X:Hp} {n m:Nat} {o:Option Nat} {es:List SV} (H:Ar n m 2 o es) (k:∀j,o=some j->X j=some (.cells (es.flatMap SV.cells))) (xs:List (Int×Int)) (hroom:es.length+xs.length<=1073741824) (p:Nat):
 (xs=[]/\AU Tryz.prog X p .append [86,86] [AM 2 o es,.imm 2 (xs.map B5) false]=some { val:=AM 2 o es })\/
 (xs≠[]/\AU Tryz.prog X p .append [86,86] [AM 2 o es,.imm 2 (xs.map B5) false]=some { val:=.sl p 0 2 (es.length+xs.length) false,upd:=o.map λj=>(j,none),new:=some (.cells (es.flatMap SV.cells++(xs.map B5).flatMap SV.cells)) }):=by
 have d:A9 Tryz.prog 86=some 89:=by simp[go_sem]
 have e:Bh Tryz.prog 89=2:=by simp[go_sem]
 have f:(BH Tryz.prog 89).storable=true:=by simp[go_sem]
 have g:(BH Tryz.prog 89).cells.length=2:=by simp[go_sem]
 have i:BY Tryz.prog 89<=65536:=by simp[go_sem]
 have h:Gq 89=none:=by rfl
 by_cases c:xs=[];subst c;refine .inl ⟨rfl,?_⟩;simp only[AU,d,jE,if_true,Cm,e,f,g];cases o<;>simp[AM,Hd,Dw,flat,EH];refine .inr ⟨c,?_⟩;have a:xs.length≠0:=by cases xs<;>simp at c ⊢
 have b:dY (es.length+xs.length) (BY Tryz.prog 89)=true:=by simp only[dY,qq,decide_eq_true_eq];exact⟨by omega,i⟩
 simp only[AU,d,jE,if_true,Cm,e,f,g];cases o with
 | none=>
  have l:=H.none rfl;subst l;simp only[jI,jc]at b;simp[AM,Hd,Dw,flat,a,b,h]
 | some j=>
  have q:=k j rfl;have hl:=A7 H.size;simp[AM,Hd,Dw,flat,q,a,b,GX h,Bg,hl];rw[qB (by omega)]
theorem Vp {G:Hp} {n p z:Nat} {es:List SV} {o:Option Nat} {k m':Nat} (f:Ar k m' z o es) (i:∀j y,G j=some y->j<k) (hpk:p<k) (m:es=[]->o=none):Gh (AN o es (hset G p (some (.cells [AM z o es])))) (hset G p (some (.list z es))) n:=by
 cases o with
 | none=>
  have l:=f.none rfl;subst l;have:=Gh.pack0 (h:=hset G p (some (.cells [AM z none []]))) (n:=n) (z:=z) (p:=p) (ty:=none) (AC _ _ _);rw[AS]at this;exact this
 | some j =>
  have hj:=(f.lt j rfl).1;have d:es≠[]:=λg=>by cases m g
  have a:p≠j:=by omega
  have:=Gh.pack (h:=AN (some j) es (hset G p (some (.cells [AM z (some j) es])))) (n:=n) (p:=p) (q:=j) (z:=z) (es:=es) (full:=false) (ty:=none) (ty2:=none) (by simp only[AN];rw[AD _ _ a,AC];rfl) (AC _ _ _) d a;have e:hset (hset (AN (some j) es (hset G p (some (.cells [AM z (some j) es])))) p (some (.list z es))) j none=hset G p (some (.list z es)):=by
   funext q;have r:=i q;simp only[AN,hset];by_cases b:q=j;have hp:q≠p:=by omega
   rw[if_pos b,if_neg hp];cases c:G q with
   | none=>rfl
   | some y=>have:=r y c;omega
   rw[if_neg b,if_neg b];by_cases h2:q=p;rw[if_pos h2,if_pos h2];rw[if_neg h2,if_neg h2,if_neg h2]
  rw[e]at this;exact this
def QC (l:List Int) (s:Bool×List (Int×Int)) (x:BW):Bool×List (Int×Int):=(s.1||confl l x.head,s.2++x.head.moves)
def KP (p q:Nat) (s:Bool×List (Int×Int)) (o:Nat):Option BT:=if o=p then some (.cells [.bool s.1])else if o=q then some (.list 2 (s.2.map B5))else none
theorem Pp {p q n0:Nat} (hp:p<n0) (hq:q<n0) (s:Bool×List (Int×Int)) {H:Hp} {n:Nat} (hn:n0<=n) (c:Es H n):Es (Aj (KP p q) s H) n:=λo y e=>by
 simp only[Aj,KP]at e;by_cases a:o=p;rw[if_pos a]at e;cases e;exact⟨by omega,rfl⟩;by_cases b:o=q;rw[if_neg a,if_pos b]at e;cases e;exact⟨by omega,KC n s.2⟩;rw[if_neg a,if_neg b]at e;exact c o y e
set_option maxHeartbeats 4000000 in
theorem v93 {p q n0:Nat} (w:p≠q) (hp:p<n0) (hq:q<n0) (l:List Int) (hl:l.length<=1073741824) (full:Bool):Vu (KP p q) n0 93 [] [.ptr p 0,.iptr [.imm 1 (l.map AA) full],.ptr q 0] (QC l) (λh=>h.sized) (λs=>s.2.length) 1073741824 where
 up s x:=by simp only[QC,qt];omega
 lt s o h:=by simp only[KP];rw[if_neg (by omega),if_neg (by omega)]
 dom s s' o h:=by
  simp only[KP]at h ⊢;by_cases N:o=p;rw[if_pos N]at h;cases h;by_cases Y:o=q;rw[if_neg N,if_pos Y]at h;cases h;rw[if_neg N,if_neg Y]
 cl s o y h:=by
  have:=Pp hp hq s (H:=λ_=>none) (qa n0) (λ_ _ e=>by cases e) o y (by simp only[Aj,h]);exact this.2
 call s x H n hx ht hn hs:=by
  refine Db Tryz.func93 rfl λU=>?_;have C:=U.lt;have c:H p=some (.cells [.bool s.1]):=hs p _ (by simp[KP]);have Q:H q=some (.list 2 (s.2.map B5)):=hs q _ (by simp[KP,w.symm]);obtain⟨X,S⟩:∃X:SV,X=.iptr (x.head.flat++[.bool x.mid,AA x.units]):=⟨_,rfl⟩
  obtain⟨G,Z⟩:∃G:SV,G=.iptr [.imm 1 (l.map AA) full]:=⟨_,rfl⟩
  rw[<-Z];refine AY 1 [(1,.ptr p 0),(2,G),(3,.ptr q 0),(4,X)] H n ?_ (λm T=>?_);rw[S];simp[go_sem,BW.enc,AF.flat,IO];exact⟨AV (U.none (by omega)) (by simp[hset]),AJ C AB⟩;obtain⟨b,hb⟩:∃b,b=(s.1||confl l x.head):=⟨_,rfl⟩
  have D:=c94 l hl full x.head hx.dels;refine AY 0 [(3,.ptr q 0),(4,X)] (hset H p (some (.cells [.bool b]))) n ?_ (λm T=>?_);cases r:s.1 with
  | true=>
   rw[r]at c;simp[go_sem,c];exact⟨T,by rw[hb,r];exact AB⟩
  | false=>
   rw[r]at c;rw[S,Z];simp[go_sem,c,AF.flat];refine qw (by simpa[AF.enc,AF.flat]using D) ?_;simp[go_sem,c];exact⟨T,by rw[hb,r];exact AB⟩
  obtain⟨B,z⟩:∃B:Hp,B=hset H p (some (.cells [.bool b])):=⟨_,rfl⟩
  rw[<-z];have u:∀j y,B j=some y->j<n:=λj y e=>by
   rw[z]at e;by_cases h:j=p;omega;rw[AD _ _ h]at e;exact C j y e
  obtain⟨A,k⟩:∃A:List SV,A=s.2.map B5:=⟨_,rfl⟩
  obtain⟨M,R⟩:∃M:List (Int×Int),M=x.head.moves:=⟨_,rfl⟩
  have P:B q=some (.list 2 A):=by rw[z,AD _ _ w.symm,k];exact Q
  have E:A.length+M.length<=1073741824:=by
   simp only[QC,qt]at ht;rw[k,R,qd];omega
  have hc:=bF x.head hx;rw[<-R]at hc;refine Kt q (by rw[k];exact E3 _) P λo m1 hm1 t V=>?_;refine Rb ?_;have hCb:∀v j y,hset B q (some (.cells [v])) j=some y->j<m:=λv j y e=>by
   by_cases h:j=q;omega;rw[AD _ _ h]at e;have:=u j y e;omega
  have I:∀j,o=some j->q≠j:=λj e=>by have:=(t.lt j e).1;omega
  have fin:∀(h':Hp) (n':Nat),Gh h' (hset B q (some (.list 2 (A++M.map B5)))) n'->∃h2,Gh h' h2 n'/\B8 n h2 n' (.tup []) (λv h' n'=>v=.tup []/\h'=Aj (KP p q) (QC l s x) H/\n'=n):=λh' n' hg=>by
   refine⟨_,hg,?_⟩;have W:QC l s x=(b,s.2++M):=by rw[hb,R];rfl
   rw[W];refine B9 (Pp hp hq (b,s.2++M) hn U) (by simp[closed,closedL]) (λj y e=>?_);simp only[Aj,KP]at e;by_cases c1:j=p;subst c1;rw[if_pos rfl]at e;rw[AD _ _ w,z,AC];exact e;by_cases L:j=q;subst L;rw[if_neg c1,if_pos rfl,qc,<-k]at e;rw[AC];exact e;rw[if_neg c1,if_neg L]at e;rw[AD _ _ L,z,AD _ _ c1];exact e
  have K:∀(J:Option Nat) (m' m2:Nat),Ar m m' 2 J (A++M.map B5)->(A++M.map B5=[]->J=none)->Gh (AN J (A++M.map B5) (hset B q (some (.cells [AM 2 J (A++M.map B5)])))) (hset B q (some (.list 2 (A++M.map B5)))) m2:=λJ m' m2 h1 h2=>Vp h1 (λj y e=>by have:=u j y e;omega) (by omega) h2;refine BX UG rfl (by kernel_rfl) (by kernel_rfl) ?_;rw[S];rcases UY t (X:=AN o A (hset B q (some (.cells [AM 2 o A])))) (λj e=>Cu j e) M E m1 with⟨a,b1⟩|⟨a,b1⟩
  cases o with
  | none=>
   simp only[AN,AM]at b1;simp[go_sem,UG,AF.flat,AN,AM,AC];refine⟨?_,?_⟩ <;>
   . refine qw (by simpa[AF.enc,AF.flat]using hc) ?_;simp[go_sem,b1,AC,AS];have:=K none m1 m1 (by simpa[a]using t) (λ_=>rfl);simp only[AN,AM]at this;exact fin _ _ this
  | some j=>
   have d:=I j rfl;have hj:=(t.lt j rfl).1;simp only[AN,AM]at b1;simp[go_sem,UG,AF.flat,AN,AM,AC,AD _ _ d];refine⟨?_,?_⟩ <;>
   . refine qw (by simpa[AF.enc,AF.flat]using hc) ?_;simp[go_sem,b1,AC,AD _ _ d];have:=K (some j) m1 m1 (by simpa[a]using t) (λg=>V (by simpa[a]using g));simp only[AN,AM,a,qS,jq]at this;have e:hset (hset (hset B q (some (.cells [.sl j 0 2 A.length false]))) j (some (.cells (A.flatMap SV.cells)))) q (some (.cells [.sl j 0 2 A.length false]))=hset (hset B q (some (.cells [.sl j 0 2 A.length false]))) j (some (.cells (A.flatMap SV.cells))):=by
      funext i;simp only[hset];grind
     rw[e];exact fin _ _ (by simpa[a]using this)
  have F:q≠m1:=by omega
  have f:Ar m (m1+1) 2 (some m1) (A++M.map B5):=⟨by simp,λj e=>by cases e;omega,λe he=>(qe.1 he).elim (t.size e) (E3 M e)⟩
  cases o with
  | none=>
   simp only[AN,AM]at b1;simp[go_sem,UG,AF.flat,AN,AM,AC];refine⟨?_,?_⟩ <;>
   . refine qw (by simpa[AF.enc,AF.flat]using hc) ?_;simp[go_sem,b1,AC,AD _ _ F];have:=K (some m1) (m1+1) (m1+1) f (λg=>by simp[a]at g);simp only[AN,AM,jm,qt,qd]at this;have e:hset (hset (hset B q (some (.cells [.imm 0 [] true]))) m1 (some (.cells (A.flatMap SV.cells++(M.map B5).flatMap SV.cells)))) q (some (.cells [.sl m1 0 2 (A.length+M.length) false]))=hset (hset B q (some (.cells [.sl m1 0 2 (A.length+M.length) false]))) m1 (some (.cells (A.flatMap SV.cells++(M.map B5).flatMap SV.cells))):=by
      funext i;simp only[hset];grind
     rw[e];exact fin _ _ this
  | some j=>
   have d:=I j rfl;have hj:=(t.lt j rfl).1;simp only[AN,AM]at b1;simp[go_sem,UG,AF.flat,AN,AM,AC,AD _ _ d];refine⟨?_,?_⟩ <;>
   . refine qw (by simpa[AF.enc,AF.flat]using hc) ?_;simp[go_sem,b1,AC,AS,AD _ _ F,AD _ _ d];have:=K (some m1) (m1+1) (m1+1) f (λg=>by simp[a]at g);simp only[AN,AM,jm,qt,qd]at this;have hBj:B j=none:=by
      cases O:B j with
      | none=>rfl
      | some y=>have:=u j y O;omega
     have e:hset (hset (hset (hset B q (some (.cells [.sl j 0 2 A.length false]))) j none) m1 (some (.cells (A.flatMap SV.cells++(M.map B5).flatMap SV.cells)))) q (some (.cells [.sl m1 0 2 (A.length+M.length) false]))=hset (hset B q (some (.cells [.sl m1 0 2 (A.length+M.length) false]))) m1 (some (.cells (A.flatMap SV.cells++(M.map B5).flatMap SV.cells))):=by
      funext i;simp only[hset];grind
     rw[e];exact fin _ _ this
def EF (s:List AF) (p:BW):List AF:=s++[p.head]
def Hx (N:Nat) (d:AI):List AF:=(G8 (zF EF) AX N d []).2
section
variable {N K : Nat} {d : AI} {m2 : List Int}
theorem Rs (rev:Int):(G8 (UP rev) AX N d []).2=(Hx N d).flatMap λh=>Fx rev h.moves:=by
 have r:=HZ (λ(s:List Int) (t:List AF)=>s=t.flatMap λh=>Fx rev h.moves) (UP rev) (zF EF) (λs t p g=>by
  show s++Fx rev p.head.moves=_;unfold zF EF;dsimp only;rw[g];simp) N 0 d.flow AX false [] [] rfl
 have a:(G8 (UP rev) AX N d []).2=(Aw (UP rev) N 0 d.flow AX false []).2++Fx rev d.«end».moves:=rfl;have b:Hx N d=(Aw (zF EF) N 0 d.flow AX false []).2++[d.«end»]:=rfl;rw[a,r,b];simp
open Classical in
theorem TU {hp:AF->Prop} {T:Int->Prop} (e:∀i,T i->i ≠ -1) (W:wf hp T N d.flow) (l:hp d.«end»):(∀h∈Hx N d,hp h)/\(Hx N d).length<=wN N d.flow+1:=by
 have a:Hx N d=(Aw (zF EF) N 0 d.flow AX false []).2++[d.«end»]:=rfl;have b:=J9 (f:=zF EF) (rk:=λs:List AF=>if ∀h∈s,hp h then 0 else 1) (k:=0) (λs p g=>by
  show(if ∀h∈s++[p.head],hp h then 0 else 1)<=(if ∀h∈s,hp h then 0 else 1)+0;by_cases c:∀h∈s,hp h;rw[if_pos c,if_pos (λh a=>?_)];exact qa _;rcases qe.1 a with q|q;exact c h q;rw[qv.1 q];exact g;rw[if_neg c];split<;>omega) e N 0 d.flow false [] W (.inr (by decide))
 have h2:=J9 (f:=zF EF) (rk:=λs:List AF=>s.length) (k:=1) (λs p g=>by simp[zF,EF]) e N 0 d.flow false [] W (.inr (by decide));rw[a];refine⟨λh m=>?_,by simp at h2 ⊢;omega⟩;have j:∀h∈(Aw (zF EF) N 0 d.flow AX false []).2,hp h:=by
  by_cases c:∀h∈(Aw (zF EF) N 0 d.flow AX false []).2,hp h;exact c;rw[if_neg c]at b;simp at b
 rcases qe.1 m with q|q;exact j h q;rw[qv.1 q];exact l
end
theorem W_ {m2:List Int} {h:AF} (H:C6 m2 h) {y:Int×Int} (d:y∈h.moves):0<y.2:=by
 unfold AF.moves AF.mv0 Hg at d;rcases qe.1 d with g|g;by_cases c:h.move=0;rw[if_pos c]at g;cases g;rw[if_neg c,qv]at g;have:=H.mv;rw[g];show 0<h.move;omega;obtain⟨x,e,rfl⟩:=qy.1 g;obtain⟨a,b⟩:=qW.1 e;have:=H.dmv x a;have b:x.move≠0:=by simpa using b
 show 0<x.move;omega
section
variable {hp hp' : AF → Prop} {T : Int → Prop}
theorem X_ {N:Nat} (H:wf hp T N []):wf hp' T N []:=by
 cases N with
 | zero=>exact H.elim
 | succ N=>exact W5 N
theorem gn {g:Bool->AF->AF} (m:∀mid h,hp h->hp' (g mid h)) (sc:Av):∀(N:Nat) (id:Int) (l:List AE) (mid:Bool),wf hp T N l->wf hp' T N (Al (gF g) sc N id l mid ()).1
 | 0,_,_,_,h=>h.elim
 | N + 1, id, l, mid, W => by
  have P:∀(mid:Bool) (l:List AE),wf hp T (N+1) l->wf hp' T (N+1) (BL (gF g) (Al (gF g) sc N) mid l ()).1:=λmid l W=>by
   rw[dU];refine OG.2 λy t=>?_;obtain⟨x,i,rfl⟩:=qy.1 t;obtain⟨a,b,c,d,e,f,q⟩:=OG.1 W x i;have j:(eF g (Al (gF g) sc N) mid x).kind=x.kind/\(eF g (Al (gF g) sc N) mid x).id=x.id:=⟨rfl,rfl⟩
   have s:(eF g (Al (gF g) sc N) mid x).flow=if x.kind=6 then(Al (gF g) sc N x.id x.flow mid ()).1 else x.flow:=rfl
   have o:(eF g (Al (gF g) sc N) mid x).rows=if x.kind=7 then x.rows.map (fO g (Al (gF g) sc N) mid)else x.rows:=rfl
   refine⟨m _ _ a,λk=>?_,λk=>?_,λk=>?_,λk=>?_,?_,λr n=>?_⟩;rw[j.1]at k;rw[s,if_neg k];exact b k;rw[j.1]at k;rw[o,if_neg k];exact c k;rw[j.1]at k;rw[o,if_pos k];simpa using d k;rw[j.1]at k;rw[j.2];exact e k;rw[s];split;exact gn m sc N _ _ _ f;rename_i k;rw[b k]at f ⊢;exact X_ f;rw[o]at n;by_cases k:x.kind=7;rw[if_pos k]at n;obtain⟨r0,h0,rfl⟩:=qy.1 n;obtain⟨u,v,w⟩:=q r0 h0;refine⟨m _ _ u,by show r0.cells.map _≠[];simpa using v,λz A=>?_⟩;obtain⟨z0,p,rfl⟩:=qy.1 (show z∈r0.cells.map (gr g (Al (gF g) sc N) mid)from A);obtain⟨w1,w2,w3⟩:=w z0 p;exact⟨w1,m _ _ w2,gn m sc N _ _ _ w3⟩;rw[if_neg k,c k]at n;cases n
  rw[Al];split;have q:∀(mid:Bool) (a b:Int),wf hp' T (N+1) (BL (gF g) (Al (gF g) sc N) mid (Ad l a b).1 ()).1:=λmid a b=>P mid _ (eU a b W);intro x i;rcases qe.1 i with i|i;rcases qe.1 i with i|i;exact q _ _ _ x i;exact q _ _ _ x i;exact q _ _ _ x i;exact P mid l W
theorem iR:∀{N:Nat} {l:List AE},wf hp T N l->Gy T N l
 | 0,_,h=>h.elim
 | N+1,l,W=>λx j=>by
  obtain⟨a,b,c,d,e,f,q⟩:=OG.1 W x j;exact⟨c,e,iR f,λr g z i=>⟨((q r g).2.2 z i).1,iR ((q r g).2.2 z i).2.2⟩⟩
end
section
variable {hp : AF → Prop} {T : Int → Prop}
theorem C4 {α β:Type} {s1 s2:β->α->β}:∀(l:List α) (q:β),(∀x∈l,∀q,s1 q x=s2 q x)->l.foldl s1 q=l.foldl s2 q
 | [],_,_=>rfl
 | x::l,q,h=>by rw[qM,qM,h x (by simp),C4 l _ λy a=>h y (by simp[a])]
theorem C1 {σ:Type} {f f':σ->BW->AF×Bool×σ} (b:∀s p,hp p.head->f s p=f' s p) (sc:Av):∀(N:Nat) (id:Int) (l:List AE) (mid:Bool) (s:σ),wf hp T N l->Al f sc N id l mid s=Al f' sc N id l mid s
 | 0,_,_,_,_,h=>h.elim
 | N + 1, id, l, mid, s, W => by
  have P:∀(mid:Bool) (l:List AE) (s:σ),wf hp T (N+1) l->BL f (Al f sc N) mid l s=BL f' (Al f' sc N) mid l s:=λmid l s W=>by
   refine C4 l _ λx g q=>?_;obtain⟨a,_,_,_,_,w,v⟩:=OG.1 W x g;have e:∀s,By f (Al f sc N) mid x s=By f' (Al f' sc N) mid x s:=λs=>by
    have r:GT f (Al f sc N) mid x.rows s=GT f' (Al f' sc N) mid x.rows s:=C4 _ _ λr d q=>by
     obtain⟨j,_,v3⟩:=v r d;have c:∀s,DQ f (Al f sc N) mid r.cells s=DQ f' (Al f' sc N) mid r.cells s:=λs=>C4 _ _ λz i q=>by
      obtain⟨_,w1,w2⟩:=v3 z i;unfold Cg;rw[b _ ⟨z.head,mid,1⟩ w1,C1 b sc N _ _ _ _ w2]
     unfold DM;rw[b _ ⟨r.head,mid,1⟩ j,c]
    unfold By;rw[r,C1 b sc N _ _ _ _ w]
   unfold Bt;rw[b _ ⟨x.head,mid,(A8 [x]).1⟩ a];dsimp only;rw[e]
  rw[Al,Al];split;dsimp only;rw[P _ _ _ (eU _ _ W),P _ _ _ (eU _ _ W),P _ _ _ (eU _ _ W)];exact P _ _ _ W
variable {g : Bool → AF → AF}
theorem gJ {α:Type} (k:Nat) (v:α->Nat):∀l:List α,(l.map λx=>k*v x).sum=k*(l.map v).sum
 | []=>by simp
 | x::l=>by rw[qu,kK,gJ k v l,qu,kK,KG]
theorem cD {it:Int->List AE->Bool->Unit->List AE×Unit} {mid:Bool} {N k:Nat} {l:List AE} (i:1<=k) (f:∀x∈l,x.kind=6->wN N (it x.id x.flow mid ()).1<=k*wN N x.flow)
 (h:∀x∈l,x.kind=7->∀r∈x.rows,∀c∈r.cells,wN N (it c.id c.flow mid ()).1<=k*wN N c.flow):wN (N+1) (l.map (eF g it mid))<=k*wN (N+1) l:=by
 rw[RZ,RZ,<-gJ,Qw];refine Qi λx d=>?_;have one:∀m,m<=k*m:=λm=>Nat.le_mul_of_pos_left m i;have a:wN N (if x.kind=6 then(it x.id x.flow mid ()).1 else x.flow)<=k*wN N x.flow:=by
  split;rename_i e;exact f x d e;exact one _
 have b:((if x.kind=7 then x.rows.map (fO g it mid)else x.rows).map (wR N)).sum<=k*(x.rows.map (wR N)).sum:=by
  split;rename_i e;rw[<-gJ,Qw];refine Qi λr j=>?_;have c:((r.cells.map (gr g it mid)).map (wC N)).sum<=k*(r.cells.map (wC N)).sum:=by
   rw[<-gJ,Qw];refine Qi λz n=>?_;have:=h x d e r j z n;show 1+wN N (it z.id z.flow mid ()).1<=k*(1+wN N z.flow);rw[KG];omega
  show 1+((r.cells.map (gr g it mid)).map (wC N)).sum<=k*(1+(r.cells.map (wC N)).sum);rw[KG];omega;exact one _
 show 1+wN N (if x.kind=6 then(it x.id x.flow mid ()).1 else x.flow)+((if x.kind=7 then x.rows.map (fO g it mid)else x.rows).map (wR N)).sum<=k*(1+wN N x.flow+(x.rows.map (wR N)).sum);rw[KG,KG];omega
theorem C3 {sc:Av} (a:∀i,T i->i≠sc.id):∀(N:Nat) (id:Int) (l:List AE) (mid:Bool),wf hp T N l->(mid=true\/id≠sc.id)->wN N (Al (gF g) sc N id l mid ()).1<=1*wN N l
 | 0,_,_,_,h,_=>h.elim
 | N + 1, id, l, mid, W, hid => by
  have n:¬EX sc id l mid=true:=λh=>by
   unfold EX at h;simp at h;rcases hid with e|e;rw[e]at h;simp at h;exact e h.1.1.1.1
  rw[Al,if_neg n,dU];have W:=OG.1 W;exact cD (qa 1) (λx b k=>C3 a N _ _ _ (W x b).flow (.inr (a _ ((W x b).id k)))) λx b k r d c hc=>by
   obtain⟨u,_,v⟩:=((W x b).rows r d).2.2 c hc;exact C3 a N _ _ _ v (.inr (a _ u))
theorem W4 {m2:List Int} (sc:Av) {K:Nat}:∀(N:Nat) (id:Int) (l:List AE),RJ m2 N l->Da hp K N l->id∉F6 N l->(F6 N l).Nodup->wN N (Al (gF g) sc N id l false ()).1<=3*wN N l
 | 0,_,_,_,h,_,_=>h.elim
 | N+1,id,l,hk,hl,hid,hnd=>by
  by_cases e:id=sc.id;have W:wf (λh=>hp h/\C6 m2 h) (λi=>i≠sc.id) (N+1) l:=UK hk hl λi hi h=>hid (by rw[e,<-h];exact hi);have q:∀(mid:Bool) (s:List AE),wf (λh=>hp h/\C6 m2 h) (λi=>i≠sc.id) (N+1) s->wN (N+1) (BL (gF g) (Al (gF g) sc N) mid s ()).1<=1*wN (N+1) s:=λmid s W=>by
   rw[dU];have W:=OG.1 W;exact cD (qa 1) (λx d k=>C3 (λ_ h=>h) N _ _ _ (W x d).flow (.inr ((W x d).id k))) λx d k r n c hc=>by
    obtain⟨u,_,v⟩:=((W x d).rows r n).2.2 c hc;exact C3 (λ_ h=>h) N _ _ _ v (.inr u)
  rw[Al];split;have q1:=q false _ (eU 0 sc.a W);have q2:=q true _ (eU sc.a sc.b W);have q3:=q false _ (eU sc.b (A8 l).1 W);have s:=lH N l;have s1:=s 0 sc.a;have s2:=s sc.a sc.b;have s3:=s sc.b (A8 l).1;show wN (N+1) ((BL (gF g) (Al (gF g) sc N) false (Ad l 0 sc.a).1 ()).1++(BL (gF g) (Al (gF g) sc N) true (Ad l sc.a sc.b).1 ()).1++(BL (gF g) (Al (gF g) sc N) false (Ad l sc.b (A8 l).1).1 ()).1)<=_;have p:∀a b:List AE,wN (N+1) (a++b)=wN (N+1) a+wN (N+1) b:=λa b=>by simp only[RZ,qc,List.sum_append]
  rw[p,p];omega;have:=q false l W;omega;have t:¬EX sc id l false=true:=by simp[EX,e]
  have m:=(dS.1 hl).2.2;rw[Al,if_neg t,dU];refine cD (by omega) (λx d k6=>?_) λx d k7 r n c hc=>?_;have j:=Lo (f:=Fe N) hnd d;simp only[Fe,k6,if_true]at j;rw[jA]at j;exact W4 sc N _ _ (hk x d).2.2.1 (m x d).2.1 j.1 j.2;have j:=Lo (f:=Fe N) hnd d;simp only[Fe,k7,show ¬(7:Int)=6 by decide,if_false,if_true]at j;rw[jA]at j;have o:(c.id::F6 N c.flow).Nodup:=Lo (f:=λc:Wl=>c.id::F6 N c.flow) (Lo (f:=LY N) j.2 n) hc;rw[jA]at o;exact W4 sc N _ _ (((hk x d).2.2.2.2 r n).2 c hc).2 (((m x d).2.2.2 r n).2.2 c hc).2 o.1 o.2
end
section
variable {hp : AF → Prop} {T : Int → Prop} {σ : Type} {f : σ → BW → AF × Bool × σ}
theorem fB {α β:Type} {R:σ->Prop} {G:β×σ->α->β×σ} {A:α->Prop}:∀(l:List α) (q:β×σ),(∀x∈l,∀q,R (G q x).2->R q.2/\A x)->R (l.foldl G q).2->R q.2/\∀x∈l,A x
 | [],_,_,g=>⟨g,λx i=>by cases i⟩
 | x::l,q,h,g=>by
  obtain⟨a,b⟩:=fB l (G q x) (λy f=>h y (qL _ f)) g;obtain⟨c,d⟩:=h x (jP ..) q a;exact⟨c,λy f=>(qk.1 f).elim (λe=>e▸d) (b y)⟩
theorem fC {R:σ->Prop} {q:AF->Prop} (t:∀s p,R (f s p).2.2->R s/\q p.head) (u:∀i,T i->i ≠ -1):∀(N:Nat) (id:Int) (l:List AE) (mid:Bool) (s:σ),wf hp T N l->(mid=true\/id ≠ -1)->R (Aw f N id l AX mid s).2->R s/\wf (λh=>hp h/\q h) T N l
 | 0,_,_,_,_,h,_,_=>h.elim
 | N+1,id,l,mid,s,H,hid,hR=>by
  have F:¬(id=AX.id/\mid=false):=by rcases hid with rfl|h<;>simp[AX, *]
  rw[Aw,if_neg F]at hR;have y:=fC t u N;have key:=fB (R:=R) (G:=Dq f (Aw f N) AX mid) (A:=λx=>lV (λh=>hp h/\q h) T N x) l ([],s) (λx C p g=>?_) hR;exact⟨key.1,OG.2 key.2⟩;obtain⟨a,b,c,d,e,w,v⟩:=OG.1 H x C;have rows:∀s,R (FH f (Aw f N) AX mid x.rows s).2->R s/\∀r∈x.rows,(hp r.head/\q r.head)/\r.cells≠[]/\∀c∈r.cells,T c.id/\(hp c.head/\q c.head)/\wf (λh=>hp h/\q h) T N c.flow:=λs g=>by
   refine fB (R:=R) (G:=CW f (Aw f N) AX mid) x.rows ([],s) (λr B p g=>?_) g;obtain⟨I,J,v3⟩:=v r B;have cells:∀s,R (Dh f (Aw f N) AX mid r.cells s).2->R s/\∀c∈r.cells,T c.id/\(hp c.head/\q c.head)/\wf (λh=>hp h/\q h) T N c.flow:=λs g=>by
    refine fB (R:=R) (G:=CG f (Aw f N) AX mid) r.cells ([],s) (λz D p g=>?_) g;obtain⟨w1,w2,w3⟩:=v3 z D;obtain⟨j,n⟩:=y z.id z.flow mid _ w3 (.inr (u _ w1)) g;obtain⟨m,o⟩:=t _ _ j;exact⟨m,w1,⟨w2,o⟩,n⟩
   obtain⟨j,n⟩:=cells _ g;obtain⟨m,o⟩:=t _ _ j;exact⟨m,⟨I,o⟩,J,n⟩
  obtain⟨j,n⟩:=rows _ g;have m:R (f p.2 ⟨x.head,mid,(A8 [x]).1⟩).2.2/\wf (λh=>hp h/\q h) T N x.flow:=by
   unfold K3 at j;split at j;rename_i k;exact y x.id x.flow mid _ w (.inr (u _ (e k))) j;rename_i k;rw[b k]at w ⊢;exact⟨j,X_ w⟩
  obtain⟨o,E⟩:=t _ _ m.1;exact⟨o,⟨⟨a,E⟩,b,c,d,e,m.2,n⟩⟩
end
theorem iu {N:Nat} {D:AI} {hp:AF->Prop} (W:wf hp (λi=>i ≠ -1) N D.flow) (l:List Int):(BR (CH (QC l)) AX N D D.revs (false,[])).2=((Hx N D).any (confl l),(Hx N D).flatMap AF.moves):=by
 have G:Gy (λi=>i≠AX.id/\i ≠ -1) N D.flow:=iR (iS (λ_ h=>h) (λi h=>⟨h,h⟩) W);have e:=ZW (QC l) AX N 0 D.flow false (false,[]) G (.inr ⟨by decide,by decide⟩);have r:=HZ (λ(s:Bool×List (Int×Int)) (t:List AF)=>s=(t.any (confl l),t.flatMap AF.moves)) (zF (QC l)) (zF EF) (λs t p g=>by
  show QC l s p=_;unfold QC zF EF;dsimp only;rw[g];simp) N 0 D.flow AX false (false,[]) [] rfl
 have a:(BR (CH (QC l)) AX N D D.revs (false,[])).2=QC l (Al (CH (QC l)) AX N 0 D.flow false (false,[])).2 ⟨D.«end»,false,1⟩:=rfl;have b:Hx N D=(Aw (zF EF) N 0 D.flow AX false []).2++[D.«end»]:=rfl;rw[a,e,r,b];unfold QC;simp
theorem fk {hp:AF->Prop} {T:Int->Prop} {y:Int}:∀{N:Nat} {l:List AE},wf hp T N l->y∈AE.usL (Ac l)->y∈AE.usL l
 | 0,_,h,_=>h.elim
 | N + 1, l, W, hy => by
  have e:∀x∈l,y∈(AE.nrm x).us->y∈x.us:=λx j h=>by
   obtain⟨a,b,c,d,e,w,v⟩:=OG.1 W x j;have i:=eL (x:=x) λr i=>(v r i).2.1;obtain⟨f1,_,_,_,f5,f6,_⟩:=QP x;have us:∀z:AE,z.us=z.head.all++(if z.kind=6 then AE.usL z.flow else if z.kind=7 then Aa.usL z.rows else[]):=λz=>by cases z;rw[AE.us];rfl
   rw[us]at h ⊢;rw[f1,f5,f6,i]at h;rcases qe.1 h with h|h;exact kc _ h;refine jN _ ?_;split at h;rename_i k;rw[if_pos k];exact fk w h;rename_i k;rw[if_neg k];split at h;rename_i k7;rw[if_pos k7];rw[iQ,jo]at h ⊢;obtain⟨r',m,h2⟩:=h;obtain⟨r,i,rfl⟩:=qy.1 m;refine⟨r,i,?_⟩;have q:∀z:Aa,z.us=z.head.all++Wl.usL z.cells:=λz=>by cases z;rw[Aa.us];rfl
   rw[q]at h2 ⊢;rw[(Yr r).1,(Yr r).2]at h2;rcases qe.1 h2 with h2|h2;exact kc _ h2;refine jN _ ?_;rw[iP,jo]at h2 ⊢;obtain⟨c',n,g⟩:=h2;obtain⟨z,f,rfl⟩:=qy.1 n;refine⟨z,f,?_⟩;have o:∀z:Wl,z.us=z.head.all++AE.usL z.flow:=λz=>by cases z;rw[Wl.us];rfl
   rw[o]at g ⊢;rw[(Wl.nrm_all z).1,(Wl.nrm_all z).2.2]at g;rcases qe.1 g with g|g;exact kc _ g;exact jN _ (fk ((v r i).2.2 z f).2.2 g);cases h
  rw[jQ,jo]at hy ⊢;obtain⟨z,f,h⟩:=hy;have:=Mq (p:=λz:AE=>y∈z.us->∃x∈l,y∈x.us) (λx t h=>by cases x;rw[AE.us]at h ⊢;exact h) (l.map AE.nrm) [] (λz f=>by cases f) λz f=>by
   obtain⟨x,j,rfl⟩:=qy.1 f;exact λh=>⟨x,j,e x j h⟩
  refine this z ?_ h;unfold Ac EM at f
  rwa [kM]at f
section
variable {c : AF → AF} {y : Int} (hc : ∀ h, y ∈ (c h).all → y ∈ h.all)
include hc
mutual
theorem lF:∀x:AE,y∈(AE.mh c x).us->y∈x.us
 | .mk k cc i t h f r=>by
  rw[AE.mh,AE.us,AE.us];intro g;rcases qe.1 g with g|g;exact kc _ (hc _ g);refine jN _ ?_;split at g;rename_i k;rw[if_pos k];exact fZ f g;rename_i k;rw[if_neg k];split at g;rename_i k7;rw[if_pos k7];exact iD r g;cases g
theorem fZ:∀l:List AE,y∈AE.usL (AE.mhL c l)->y∈AE.usL l
 | []=>by have _:=hc;rw[AE.mhL];exact id
 | x::l=>by
  rw[AE.mhL,AE.usL,AE.usL];intro g;rcases qe.1 g with g|g;exact kc _ (lF x g);exact jN _ (fZ l g)
theorem kX:∀x:Aa,y∈(Aa.mh c x).us->y∈x.us
 | .mk h z=>by
  rw[Aa.mh,Aa.us,Aa.us];intro g;rcases qe.1 g with g|g;exact kc _ (hc _ g);exact jN _ (iC z g)
theorem iD:∀l:List Aa,y∈Aa.usL (Aa.mhL c l)->y∈Aa.usL l
 | []=>by have _:=hc;rw[Aa.mhL];exact id
 | x::l=>by
  rw[Aa.mhL,Aa.usL,Aa.usL];intro g;rcases qe.1 g with g|g;exact kc _ (kX x g);exact jN _ (iD l g)
theorem R9:∀x:Wl,y∈(Wl.mh c x).us->y∈x.us
 | .mk i h f=>by
  rw[Wl.mh,Wl.us,Wl.us];intro g;rcases qe.1 g with g|g;exact kc _ (hc _ g);exact jN _ (fZ f g)
theorem iC:∀l:List Wl,y∈Wl.usL (Wl.mhL c l)->y∈Wl.usL l
 | []=>by have _:=hc;rw[Wl.mhL];exact id
 | x::l=>by
  rw[Wl.mhL,Wl.usL,Wl.usL];intro g;rcases qe.1 g with g|g;exact kc _ (R9 x g);exact jN _ (iC l g)
end
end
section
variable {l : List Int} {L : List (Int × Int)} {to : Int} {T : List Int}
theorem Qv:∀(g:List Az) (f:Bool),∀x∈Oe l L g f,∃d∈g,d.rev=x.rev
 | [],_,x,h=>by cases h
 | d::g,f,x,h=>by
  rw[Oe]at h;have i:=λf x h=>let⟨d',a,b⟩:=Qv g f x h;(⟨d',qL _ a,b⟩:∃e∈d::g,e.rev=x.rev);by_cases c:BV l d.rev=true;rw[if_pos c]at h;cases f with
  | true=>
   rcases qk.1 h with rfl|h;exact⟨d,jP ..,rfl⟩;exact i _ x h
  | false=>exact i _ x h
  rw[if_neg c]at h;rcases qk.1 h with rfl|h;exact⟨x,jP ..,rfl⟩;exact i _ x h
theorem IW (Y:List Am):∀i,∀x∈dN l Y i,x∈Y
 | 0,x,h=>by cases h
 | i + 1, x, h => by
  rw[dN]at h;cases e:Y[i]? with
  | none=>rw[e]at h;exact IW Y i x h
  | some y=>
   rw[e]at h;dsimp only at h;split at h;exact IW Y i x h;rcases qe.1 h with h|h;exact IW Y i x h;rw[qv.1 h];exact jb e
theorem RE {Y:List Am} (a:to∈T) (b:∀y∈Y,y.rev∈T) (i:Nat):∀x∈(dN l Y i).map (CE (BV l) to),x.rev∈T:=λx c=>by
 obtain⟨y,d,rfl⟩:=qy.1 c;unfold CE Kl;show(if _ then to else y.rev)∈T;split;exact a;exact b y (IW Y i y d)
theorem VW (a:to∈T) {h:AF} (H:J5 T h):J5 T (combo l L to h).1:=by
 obtain⟨f,H⟩:=H;unfold combo;split;exact TV T;have p:(Dn l L h.dels).length<=h.dels.length:=by
  have:=IU l L h.dels ([],true);simpa[Dn]using this
 have q:=IV l h.layers h.layers.length;have g:(Ji (BV l) to (Hr l L h)).dels=Cz ((Dn l L h.dels).map (Bz (BV l) to)) (Dn l L h.dels).length:=rfl;have i:(Ji (BV l) to (Hr l L h)).layers=(dN l h.layers h.layers.length).map (CE (BV l) to):=rfl;have k:(Ji (BV l) to (Hr l L h)).dels.length<=h.dels.length:=by rw[g,HH,qd];exact p
 have m:(Ji (BV l) to (Hr l L h)).layers.length<=h.layers.length:=by rw[i,qd];exact q
 have n:(Ji (BV l) to (Hr l L h)).ins=FV (BV l) to h.ins:=rfl;refine⟨⟨f.props,qr k f.dels,qr m f.layers⟩,⟨?_,qr k H.dlen,λx b=>?_,qr m H.llen,λx b=>RE a H.layers _ x (i▸b)⟩⟩;rw[n];unfold FV;split;exact .inr a;exact H.ins;rw[g,KO _ _ (by rw[qd];exact qa _)]at b;obtain⟨y,j,rfl⟩:=qy.1 b;have c:Dn l L h.dels=Oe l L h.dels true:=by unfold Dn;rw[Ni];rfl
 rw[c]at j;obtain⟨d,o,e⟩:=Qv _ _ y j;unfold Bz Kl;show(if _ then to else y.rev)∈T;split;exact a;rw[<-e];exact H.dels d o
end
structure gT (l:List Int) (z:Int) (h:AF):Prop where
 all:∀y∈h.all,BV l y=(y==z)
 mv:h.ins=z->h.move=0
 dmv:∀d∈h.dels,d.rev=z->d.move=0
 nod:h.dels.Pairwise λa b=>a.rev≠b.rev
 lay:∀(i:Nat) (y w:Am),h.layers[i+1]? = some y->h.layers[i]? = some w->y.rev=z->w.rev=z->w.key≠y.key
 own:h.ins=z->∀d∈h.dels,d.rev≠z
section
variable {l : List Int} {z : Int} {h : AF}
theorem gT.del (S:gT l z h) {d:Az} (a:d∈h.dels):BV l d.rev=(d.rev==z):=S.all _ (d8.2 (.inr (.inl ⟨d,a,rfl⟩)))
theorem gT.layer (S:gT l z h) {d:Am} (a:d∈h.layers):BV l d.rev=(d.rev==z):=S.all _ (d8.2 (.inr (.inr ⟨d,a,rfl⟩)))
theorem gT.insG (S:gT l z h):BV l h.ins=(h.ins==z):=S.all _ (d8.2 (.inl rfl))
theorem gT.confl (S:gT l z h):confl l h=false:=by
 have e:(h.dels.foldl (Eb l) (Hu l h)).2=false:=by
  rw[Qy (L:=[]) (to:=0)];show((Hu l h).2||PL l h.dels)=false;have b:(Hu l h).2=false:=by
   unfold Hu;rw[S.insG];by_cases c:h.ins=z;simp[c,S.mv c];simp[c]
  have f:PL l h.dels=false:=by
   unfold PL;rw[List.any_eq_false];intro d a;rw[S.del a];by_cases c:d.rev=z;simp[c,S.dmv d a c];simp[c]
  rw[b,f];rfl
 unfold Sh.confl;rw[e,Bool.and_false]
theorem gT.moves (S:gT l z h):∀y∈h.moves,BV l y.1=false:=λy d=>by
 unfold AF.moves AF.mv0 Hg at d;rcases qe.1 d with g|g;by_cases c:h.move=0;rw[if_pos c]at g;cases g;rw[if_neg c,qv]at g;rw[g];show BV l h.ins=false;rw[S.insG];by_cases e:h.ins=z;exact absurd (S.mv e) c;simpa using e;obtain⟨x,f,rfl⟩:=qy.1 g;obtain⟨a,b⟩:=qW.1 f;show BV l x.rev=false;rw[S.del a];by_cases e:x.rev=z;exact absurd (S.dmv x a e) (by simpa using b);simpa using e
theorem iX:∀(a:List Az) (q:List Az×Bool),(∀d∈a,BV l d.rev=false)->(a.foldl (Hf l []) q).1=q.1++a
 | [],q,_=>by simp
 | d::a,q,h=>by
  rw[qM,iX a _ λx b=>h x (qL _ b)];unfold Hf;rw[h d (jP ..)];simp
theorem gt:∀(f:List Az) (o:List Az),(∀d∈f,BV l d.rev=(d.rev==z))->(∀d∈f,d.rev=z->d.move=0)->(f.Pairwise λa b=>a.rev≠b.rev)->(f.foldl (Hf l []) (o,true)).1=o++f
 | [],o,_,_,_=>by simp
 | d::f,o,h1,h2,h3=>by
  obtain⟨j,k⟩:=qR.1 h3;have i:=h1 d (jP ..);rw[qM];unfold Hf;by_cases c:d.rev=z;rw[i,c];have e:(⟨z,E4 [] (z,d.move) 0⟩:Az)=d:=by
   have:=h2 d (jP ..) c;cases d;simp only at c this;subst c this;rfl
  simp only[beq_self_eq_true,if_true,e];rw[show(λ(q:List Az×Bool) (d:Az)=>if BV l d.rev=true then(if q.2=true then q.1++[⟨d.rev,E4 [] (d.rev,d.move) 0⟩]else q.1,false)else(q.1++[d],q.2))=Hf l []from rfl];rw[iX f _ λx g=>by rw[h1 x (qL _ g)];have:=j x g;rw[c]at this;simpa using λe=>this e.symm];simp;have h:BV l d.rev=false:=by rw[i];simpa using c
  simp only[h,qj,if_false];rw[show(λ(q:List Az×Bool) (d:Az)=>if BV l d.rev=true then(if q.2=true then q.1++[⟨d.rev,E4 [] (d.rev,d.move) 0⟩]else q.1,false)else(q.1++[d],q.2))=Hf l []from rfl];rw[gt f _ (λx g=>h1 x (qL _ g)) (λx g=>h2 x (qL _ g)) k];simp
theorem gT.lays (S:gT l z h):∀i,i<=h.layers.length->dN l h.layers i=h.layers.take i
 | 0,_=>by simp[dN]
 | i+1,hi=>by
  have a:i<h.layers.length:=by omega
  rw[dN,qf a];dsimp only;rw[if_neg,S.lays i (by omega),qb a];rintro⟨g1,b,d⟩;obtain⟨k,rfl⟩:∃k,i=k+1:=⟨i-1,by omega⟩
  have c:k<h.layers.length:=by omega
  have q:=d h.layers[k] (by simp);rw[S.layer (ql a)]at b;rw[S.layer (ql c)]at q;exact S.lay k _ _ (qf a) (qf c) (by simpa using b) (by simpa using q.1) q.2
theorem Th {p q:Int->Bool} {to:Int} (e:∀y∈h.all,p y=q y):Ji p to h=Ji q to h:=by
 have b:FV p to h.ins=FV q to h.ins:=by unfold FV;rw[e _ (d8.2 (.inl rfl))]
 have c:h.dels.map (Bz p to)=h.dels.map (Bz q to):=jT λd a=>by
  unfold Bz Kl;rw[e _ (d8.2 (.inr (.inl ⟨d,a,rfl⟩)))]
 have f:h.layers.map (CE p to)=h.layers.map (CE q to):=jT λd a=>by
  unfold CE Kl;rw[e _ (d8.2 (.inr (.inr ⟨d,a,rfl⟩)))]
 unfold Ji;rw[b,c,f]
theorem gT.combo (S:gT l z h) (to:Int):combo l [] to h=(Ji (di z) to h,true):=by
 have c:(BV l h.ins&&h.dels.any λd=>BV l d.rev)=false:=by
  rw[S.insG];by_cases e:h.ins=z;have:(h.dels.any λd=>BV l d.rev)=false:=by
   rw[List.any_eq_false];intro d a;rw[S.del a];simpa using S.own e d a
  rw[this,Bool.and_false];have:(h.ins==z)=false:=by simpa using e
  rw[this,Bool.false_and]
 have b:Hr l [] h=h:=by
  unfold Hr Dn;rw[gt h.dels [] (λd a=>S.del a) S.dmv S.nod,S.lays _ (qa _),qi,S.insG];have:(if(h.ins==z)=true then E4 [] (h.ins,h.move) 0 else h.move)=h.move:=by
   split;rename_i e;rw[S.mv (by simpa using e)];rfl;rfl
  rw[this];cases h;simp
 unfold Sh.combo;rw[c,if_neg (by decide),b,Th (q:=di z) λy f=>S.all y f]
end
theorem O3 {l:List Int} {M:List (Int×Int)} (h:∀y∈M,BV l y.1=false):WX l M=[]:=by
 refine List.eq_nil_iff_forall_not_mem.2 λy c=>?_;obtain⟨a,b⟩:=Uy.1 c;rw[h y a]at b;cases b
theorem Vo {l:List Int} {L:List (Int×Int)} {to y:Int} (h0:y≠0) (f:y≠to) (h:AF) (b:y∈(combo l L to h).1.all):y∈h.all:=by
 unfold combo at b;split at b;rw[d8]at b;rcases b with g|⟨d,a,_⟩|⟨d,a,_⟩
 exact absurd g h0;cases a;cases a;rw[d8]at b ⊢;have i:∀x,Kl (BV l) to x=y->x=y:=λx e=>by
  unfold Kl at e;split at e;exact absurd e.symm f;exact e
 rcases b with g|⟨d,a,g⟩|⟨d,a,g⟩
 left;have g:y=FV (BV l) to h.ins:=g;unfold FV at g;split at g;exact absurd g f;exact g;right;left;have a:d∈Cz ((Dn l L h.dels).map (Bz (BV l) to)) (Dn l L h.dels).length:=a;rw[KO _ _ (by rw[qd];exact qa _)]at a;obtain⟨x,c,rfl⟩:=qy.1 a;have e:=i _ g;unfold Dn at c;rw[Ni,qE]at c;obtain⟨w,hw,j⟩:=Qv _ _ x c;exact⟨w,hw,j.trans e⟩;right;right;have a:d∈(dN l h.layers h.layers.length).map (CE (BV l) to):=a;obtain⟨x,c,rfl⟩:=qy.1 a;exact⟨x,IW _ _ x c,i _ g⟩
structure eQ (m2:List Int) (rev:Int) (h:AF):Prop where
 ok:l0 m2 h
 mv:∀y∈h.moves,y.1≠rev
 adj:eJ h.layers h.layers.length=false
 own:eo rev h h.dels.length=false
theorem iW {Y:List Am}:∀{n:Nat},eJ Y n=false->∀i,i+1<n->PY Y (i+1)=false
 | 0,_,i,hi=>by omega
 | n+1,h,i,hi=>by
  rw[eJ,Bool.or_eq_false_iff]at h;by_cases c:i+1=n;subst c;simpa using h.2;exact iW h.1 i (by omega)
section
variable {m2 : List Int} {rev nx : Int} {h : AF} {l : List Int}
theorem eQ.ins0 (P:eQ m2 rev h) (e:h.ins=rev):h.move=0:=by
 by_cases c:h.move=0;exact c;refine absurd e (P.mv (h.ins,h.move) ?_);unfold AF.moves AF.mv0;rw[if_neg c];simp
theorem eQ.del0 (P:eQ m2 rev h) {d:Az} (a:d∈h.dels) (e:d.rev=rev):d.move=0:=by
 by_cases c:d.move=0;exact c;refine absurd e (P.mv (d.rev,d.move) ?_);unfold AF.moves Hg;exact jN _ (qy.2 ⟨d,qW.2 ⟨a,by simpa using c⟩,rfl⟩)
theorem eQ.lay (P:eQ m2 rev h) (i:Nat) (y w:Am) (a:h.layers[i+1]? = some y) (h2:h.layers[i]? = some w) (b:y.rev=rev) (c:w.rev=rev):w.key≠y.key:=λe=>by
 have hi:=(qo.1 a).1;have:=iW P.adj i hi;unfold PY at this;rw[a,show i+1-1=i from rfl,h2]at this;simp[e,b,c]at this
theorem eQ.sep (P:eQ m2 rev h) (e:h.ins=rev):∀d∈h.dels,d.rev≠rev:=λd a g=>by
 have:=P.own;unfold eo at this;rw[qi,e]at this;simp only[beq_self_eq_true,Bool.true_and,List.any_eq_false]at this;exact this d a (by simpa using g)
theorem eQ.marks (P:eQ m2 rev h) {y:Int} (b:y∈h.all):y=0\/y∈m2:=by
 rcases d8.1 b with g|⟨d,a,g⟩|⟨d,a,g⟩
 rw[g];exact P.ok.2.ins;exact .inr (g▸P.ok.2.dels d a);exact .inr (g▸P.ok.2.layers d a)
variable (hn : nx ∉ m2) (n0 : nx ≠ 0) (r0 : rev ≠ 0) (hl : ∀ y, BV l y = (y == rev || y == nx))
include hn n0 hl in
theorem eQ.sol0 (P:eQ m2 rev h):gT l rev h where
 all y hy:=by
  have:y≠nx:=λe=>(P.marks hy).elim (λg=>n0 (e▸g)) λg=>hn (e▸g);rw[hl,show(y==nx)=false by simpa using this,Bool.or_false]
 mv:=P.ins0
 dmv d hd:=P.del0 hd
 nod:=TW (WM P.ok.2.inc)
 lay:=P.lay
 own:=P.sep
include hn n0 r0 hl in
theorem eQ.sol1 (P:eQ m2 rev h):gT l nx (Ji (di rev) nx h):=by
 have ro:Y_ rev nx h:=iy (.inr hn) n0 P.ok.2;have k:∀d∈(Ji (di rev) nx h).dels,∃x∈h.dels,d=Bz (di rev) nx x:=λd f=>by
  obtain⟨x,b,e⟩:=qy.1 ((gN d).1 f);exact⟨x,b,e.symm⟩
 have a:∀y,y≠nx->Kl (di rev) nx y=nx->y=rev:=λy m h2=>by
  unfold Kl di at h2;by_cases c:y=rev;exact c;rw[if_neg (by simpa using c)]at h2;exact absurd h2 m
 have p:∀x∈h.dels,x.rev≠nx:=λx b e=>hn (e▸P.ok.2.dels x b);have hi:h.ins≠nx:=λe=>P.ok.2.ins.elim (λg=>n0 (e▸g)) λg=>hn (e▸g);have j:(Ji (di rev) nx h).ins=nx->h.ins=rev:=λe=>by
  have e:FV (di rev) nx h.ins=nx:=e;unfold FV at e;split at e;rename_i c;simpa[di]using c.2;exact absurd e hi
 refine⟨λy z=>?_,λe=>P.ins0 (j e),λd f e=>?_,TW (Uu ro),λi y w m h2 t u=>?_,λe d f g=>?_⟩;have:y=nx\/y≠rev:=by
  rcases d8.1 z with g|⟨d,f,g⟩|⟨d,f,g⟩
  have g:y=FV (di rev) nx h.ins:=g;unfold FV at g;split at g;exact .inl g;rename_i c;refine .inr λe=>c ⟨by rw[<-g,e];exact r0,by simp[di,<-g,e]⟩;obtain⟨x,b,rfl⟩:=k d f;have g:Kl (di rev) nx x.rev=y:=g;unfold Kl at g;split at g;exact .inl g.symm;rename_i c;exact .inr λe=>c (by simp[di,g,e]);obtain⟨x,b,rfl⟩:=qy.1 (show d∈h.layers.map (CE (di rev) nx)from f);have g:Kl (di rev) nx x.rev=y:=g;unfold Kl at g;split at g;exact .inl g.symm;rename_i c;exact .inr λe=>c (by simp[di,g,e])
 rw[hl];rcases this with g|g;simp[g];rw[show(y==rev)=false by simpa using g,Bool.false_or];obtain⟨x,b,rfl⟩:=k d f;show x.move=0;exact P.del0 b (a _ (p x b) e);have m:(h.layers.map (CE (di rev) nx))[i+1]? = some y:=m;have h2:(h.layers.map (CE (di rev) nx))[i]? = some w:=h2;rw[qO,qX]at m h2;obtain⟨s,n,rfl⟩:=m;obtain⟨w0,o,rfl⟩:=h2;have r:∀q∈h.layers,q.rev≠nx:=λq v e=>hn (e▸P.ok.2.layers q v);exact P.lay i s w0 n o (a _ (r s (jb n)) t) (a _ (r w0 (jb o)) u);obtain⟨x,b,rfl⟩:=k d f;exact P.sep (j e) x b (a _ (p x b) g)
theorem kP {h:AF} {a:Int} (H:JY h.dels):Ji (di a) a h=h:=by
 have e:∀y:Int,Kl (di a) a y=y:=λy=>by
  unfold Kl di;split;rename_i c;exact(by simpa using c:y=a).symm;rfl
 have b:FV (di a) a h.ins=h.ins:=by
  unfold FV di;split;rename_i c;exact(by simpa using c.2:h.ins=a).symm;rfl
 have f:h.dels.map (Bz (di a) a)=h.dels:=by
  conv=>rhs;rw[<-kN h.dels]
  exact jT λd _=>by cases d;simp only[Bz,e,id]
 have g:h.layers.map (CE (di a) a)=h.layers:=by
  conv=>rhs;rw[<-kN h.layers]
  exact jT λd _=>by cases d;simp only[CE,e,id]
 unfold Ji;rw[b,f,g,TL H]
include hn n0 r0 hl in
theorem Tb (P:eQ m2 rev h) (mid:Bool):gT l (if mid then nx else rev) (gR rev nx mid h)/\(combo l [] rev (gR rev nx mid h)).1=h:=by
 cases mid with
 | false=>
  have S:=P.sol0 hn n0 hl;exact⟨S,by show(combo l [] rev h).1=h;rw[S.combo rev];exact kP (WM P.ok.2.inc)⟩
 | true=>
  have S:=P.sol1 hn n0 r0 hl;exact⟨S,by show(combo l [] rev (Ji (di rev) nx h)).1=h;rw[S.combo rev];exact S7 (iy (.inr hn) n0 P.ok.2) r0 n0⟩
end
def lc (e:Int) (R:AI):AI:=if e=0 then R else zD
def C5 (T:List Ax):Option Int->List Int->Int
 | _,[]=>0
 | p,x::r=>if(CA T x).2=false then 22 else match p with
  | none=>C5 T (some x) r
  | some y=>if x=y then 7 else if x<y then 6 else C5 T (some x) r
def EK (D:AI) (l:List Int) (to:Ax):Int:=
 if l.length=0 then 11 else if C5 D.revs none l≠0 then C5 D.revs none l else if CL to≠0 then CL to else if(CA D.revs to.id).2=true/\to.id∉l then 7 else 0
def F5 (l:List Int):Nat->Option Int
 | 0=>none
 | i+1=>l[i]?
theorem NO {T:List Ax} {l:List Int} {i:Nat} {x:Int} (h:i<l.length) (a:l[i]=x):C5 T (F5 l i) (l.drop i)=if(CA T x).2=false then 22 else match F5 l i with
 | none=>C5 T (F5 l (i+1)) (l.drop (i+1))
 | some y=>if x=y then 7 else if x<y then 6 else C5 T (F5 l (i+1)) (l.drop (i+1)):=by
 rw[qG h,a,C5.eq_def];simp only;have:F5 l (i+1)=some x:=by rw[F5,qf h,a]
 rw[this]
def OK (D:AI) (l:List Int) (to:Ax):List Ax:=F7 (IB D.revs l) (Ly (IB D.revs l) to) to
def Sz (D:AI) (l:List Int) (to:Ax) (clash:Bool):Int:=if EK D l to≠0 then EK D l to else if clash then 24 else 0
theorem NP {T:List Ax}:∀{l:List Int} {p:Option Int},C5 T p l=0->(∀x∈l,(CA T x).2=true)/\(∀y,p=some y->∀x∈l,y<x)/\l.Pairwise (· < ·)
 | [],p,_=>by simp
 | x :: l, p, h => by
  rw[C5.eq_def]at h;simp only at h;by_cases e:(CA T x).2=false;rw[if_pos e]at h;cases h;rw[if_neg e]at h;have e':(CA T x).2=true:=by simpa using e
  have key:C5 T (some x) l=0/\∀y,p=some y->y<x:=by
   cases p with
   | none=>exact⟨h,λy g=>by cases g⟩
   | some y=>
    simp only at h;by_cases c1:x=y;rw[if_pos c1]at h;cases h;rw[if_neg c1]at h;by_cases f:x<y;rw[if_pos f]at h;cases h;rw[if_neg f]at h;exact⟨h,λz g=>by cases g;omega⟩
  obtain⟨a,b,c⟩:=NP key.1;refine⟨λz d=>?_,λy i z d=>?_,qR.2 ⟨b x rfl,c⟩⟩;rcases qk.1 d with rfl|g;exact e';exact a z g;have:=key.2 y i;rcases qk.1 d with rfl|g;exact this;have:=b x rfl z g;omega
structure XK (D:AI) (l:List Int) (to:Ax):Prop where
 ne:l≠[]
 find:∀x∈l,(CA D.revs x).2=true
 inc:l.Pairwise (· < ·)
 err:CL to=0
 to:(CA D.revs to.id).2=true->to.id∈l
theorem Nj {D:AI} {l:List Int} {to:Ax} (h:EK D l to=0):XK D l to:=by
 unfold EK at h;by_cases e:l.length=0;rw[if_pos e]at h;cases h;rw[if_neg e]at h;by_cases b:C5 D.revs none l=0
 rotate_left
 rw[if_pos b]at h;exact absurd h b;rw[if_neg (by simpa using b)]at h;by_cases d:CL to=0
 rotate_left
 rw[if_pos d]at h;exact absurd h d;rw[if_neg (by simpa using d)]at h;obtain⟨a,_,c⟩:=NP b;refine⟨λg=>e (by rw[g];rfl),a,c,d,λg=>?_⟩;by_cases f:to.id∈l;exact f;rw[if_pos ⟨g,f⟩]at h;cases h
theorem QB {D:AI} {l:List Int} {to:Ax} (ht:Px D.revs) (h:EK D l to=0):(IB D.revs l).length<256/\Px (IB D.revs l)/\(∀x∈IB D.revs l,x.id≠to.id)/\Px (OK D l to)/\∀x,x∈OK D l to↔x=to\/(x∈D.revs/\x.id∉l):=by
 obtain⟨j,h2,_,k,m⟩:=Nj h;obtain⟨o,g⟩:=List.exists_mem_of_ne_nil l j;obtain⟨r0,m0,i⟩:=NM (h2 o g);have c:(IB D.revs l).length<256:=by
  have:=U6 (ids:=l) m0 (by rw[i];exact g);have:=ht.1;omega
 have f:Px (IB D.revs l):=Qj ht _;have d:∀x∈IB D.revs l,x.id≠to.id:=λx n e=>by
  obtain⟨a,b⟩:=PK.1 n;exact b (e▸m (Lx ⟨x,a,e⟩))
 refine⟨c,f,d,(RD f d).2.2 c k,λx=>?_⟩;unfold OK;rw[PJ,PK]
def RW:Tr:=.pure 0<|.pure 1<|.pure 2<|.pure 4<|.one 3<|.one 5<|.pure 6<|.pure 7<|.pure 8<|.one 9<|.one 10 .nil
theorem Od {D:AI} {l:List Int} {to:Ax} {b:Bool} (h:EK D l to=0):Sz D l to b=if b then 24 else 0:=by unfold Sz;rw[if_neg (by simpa using h)]
def ei (a b:Int):List Int:=if b<a then[b,a]else[a,b]
theorem iM {a b y:Int}:y∈ei a b↔y=a\/y=b:=by unfold ei;split<;>simp<;>omega
theorem lA {a b:Int} (ha:a≠0) (hb:b≠0) (y:Int):BV (ei a b) y=(y==a||y==b):=by
 rw[JX (λg=>by rw[iM]at g;omega)];rw[Bool.eq_iff_iff];simp[iM]
theorem lB {a b:Int} (h:a≠b):(ei a b).Pairwise (· < ·):=by unfold ei;split<;>simp<;>omega
theorem Uv {T:List Ax}:∀{l:List Int} {p:Option Int},(∀x∈l,(CA T x).2=true)->(∀y,p=some y->∀x∈l,y<x)->l.Pairwise (· < ·)->C5 T p l=0
 | [],p,_,_,_=>by cases p<;>rfl
 | x :: l, p, h1, h2, h3 => by
  obtain⟨f,g⟩:=qR.1 h3;have a:=Uv (T:=T) (l:=l) (p:=some x) (λy c=>h1 y (qL _ c)) (λy e z d=>by cases e;exact f z d) g;have b:=h1 x (jP ..);rw[C5.eq_def];simp only;rw[if_neg (by rw[b];decide)];cases p with
  | none=>exact a
  | some y=>
   have:=h2 y rfl x (jP ..);dsimp only;rw[if_neg (by omega),if_neg (by omega)];exact a
section
variable {m2 : List Int} {N K : Nat} {d : AI} {rev : Int}
theorem S_ (w:m2=Bd [] (d.revs.map (·.id))) (hd:Hk N d) (hl:Da (J5 m2) K N d.flow) (W:wf (eQ m2 rev) (λi=>i ≠ -1) N d.flow) (We:eQ m2 rev d.«end») (sc:Av) {nx:Ax} (h1:CL nx=0) (h2:(CA d.revs nx.id).2=false) (h3:(CA d.revs rev).2=true) (O:d.revs.length<256)
 (n:(CA (Wx N d rev sc nx).normal.revs nx.id).2=true) (k:(CA (Wx N d rev sc nx).normal.revs rev).2=true):
 Px (Wx N d rev sc nx).normal.revs/\EK (Wx N d rev sc nx).normal (ei rev nx.id) (CA d.revs rev).1=0/\wf (λh=>(∃z,gT (ei rev nx.id) z h)/\J5 (nx.id::m2) h) (λi=>i ≠ -1) N (Wx N d rev sc nx).normal.flow/\(∃z,gT (ei rev nx.id) z (Wx N d rev sc nx).normal.«end»)/\
  (BR (XA (ei rev nx.id) [] (CA d.revs rev).1.id) AX N (Wx N d rev sc nx).normal (OK (Wx N d rev sc nx).normal (ei rev nx.id) (CA d.revs rev).1) ()).1.normal=d.normal:=by
 have ht:=Ry hd;obtain⟨o1,o⟩:=ic ht h3;obtain⟨old,ho⟩:∃r,r=(CA d.revs rev).1:=⟨_,rfl⟩
 rw[<-ho]at o1 o ⊢;have r0:rev≠0:=o▸Wt ht o1;have n0:nx.id≠0:=by have:=Pa h1;omega
 have f:=Oh h2;have hn:nx.id∉m2:=λg=>by
  obtain⟨r,m,e⟩:=(WU w).1 g;exact f r m e
 have Q:rev≠nx.id:=λe=>f old o1 (o.trans e);obtain⟨l,E⟩:∃l,l=ei rev nx.id:=⟨_,rfl⟩
 rw[<-E];have hG:∀y,BV l y=(y==rev||y==nx.id):=λy=>by rw[E];exact lA r0 n0 y
 have a:∀y,y∈l↔y=rev\/y=nx.id:=λy=>by rw[E];exact iM
 obtain⟨D,v⟩:∃D,D=Wx N d rev sc nx:=⟨_,rfl⟩
 rw[<-v]at n k ⊢;have Y:D.flow=(Al (gF (gR rev nx.id)) sc N 0 d.flow false ()).1:=by rw[v];unfold Wx BR;rw[du]
 have De:D.«end» = d.«end»:=by rw[v];unfold Wx BR;rw[du];rfl
 have H:D.revs=F7 d.revs (eT d nx) nx:=by rw[v];rfl
 have Ds:D.settings=d.settings:=by rw[v];rfl
 have R:Px D.revs:=by
  rw[H];exact(RD ht f).2.2 O h1
 obtain⟨S,t⟩:∃S,S=D.normal:=⟨_,rfl⟩
 rw[<-t]at n k ⊢;have A:Px S.revs:=by rw[t];exact Qj R _
 have Z:S.flow=Ac D.flow:=by rw[t];rfl
 have I:S.«end» = d.«end»:=by rw[t];show D.«end» = _;rw[De]
 have Ss:S.settings=d.settings:=by rw[t];show D.settings=_;rw[Ds]
 have Sr:∀r:Ax,r.id≠0->(r∈S.revs↔r∈D.revs/\r.id∈AE.usL S.flow++S.«end».all):=λr m=>by rw[t,fL m];rfl
 have j:=λ(h:AF) (P:eQ m2 rev h) (mid:Bool)=>Tb (l:=l) hn n0 r0 hG P mid;have WD:wf (λh=>(∃z,gT l z h)/\J5 (nx.id::m2) h) (λi=>i ≠ -1) N D.flow:=by
  rw[Y];refine gn (λmid h P=>⟨⟨_,(j h P mid).1⟩,?_⟩) sc N 0 d.flow false W;cases mid;exact O0 P.ok.1;exact KU P.ok.1
 have B:wf (λh=>(∃z,gT l z h)/\J5 (nx.id::m2) h) (λi=>i ≠ -1) N S.flow:=by rw[Z];exact fF WD
 have hE:EK S l old=0:=by
  unfold EK;have M:l.length≠0:=λg=>by
   have:=(a rev).2 (.inl rfl);rw[kD g]at this;cases this
  have hs:C5 S.revs none l=0:=Uv (λx hx=>by
   rcases(a x).1 hx with e|e;rw[e];exact k;rw[e];exact n) (by rintro y ⟨⟩) (by rw[E];exact lB Q)
  rw[if_neg M,if_neg (by rw[hs];decide),if_neg (by rw[ht.2.1 _ o1];decide),if_neg λg=>g.2 ((a _).2 (.inl o))]
 refine⟨A,hE,B,⟨rev,by rw[I];exact We.sol0 hn n0 hG⟩,?_⟩;obtain⟨_,_,_,t4,t5⟩:=QB A hE;obtain⟨C,u⟩:∃C,C=(BR (XA l [] old.id) AX N S (OK S l old) ()).1:=⟨_,rfl⟩
 have G:C.revs=OK S l old:=by rw[u];rfl
 have Cs:C.settings=d.settings:=by rw[u];exact Ss
 obtain⟨c,hc⟩:∃c:AF->AF,c=λh=>(combo l [] rev h).1:=⟨_,rfl⟩
 have V:C.«end» = d.«end»:=by
  rw[u];show(combo l [] old.id S.«end»).1=_;rw[I,o];exact(j _ We false).2
 have J:∀h,((∃z,gT l z h)/\J5 (nx.id::m2) h)->(combo l [] rev h).2=true:=λh ⟨⟨z,g⟩,_⟩=>by rw[g.combo]
 have X:Ac C.flow=Ac (AE.mhL c S.flow):=by
  rw[u,o];show Ac (Al (XA l [] rev) AX N 0 S.flow false ()).1=_;rw[C1 (f':=gF λ_=>c) (λs p g=>by
   have e:=J p.head g;show((combo l [] rev p.head).1,(combo l [] rev p.head).2,s)=(c p.head,true,s);rw[e,hc]) AX N 0 S.flow false () B,im (λ_=>c) AX (λi h=>h) N 0 S.flow false B (.inr (by decide))]
 have F:Ac C.flow=Ac d.flow:=by
  have L:dX N d.flow:=eM (w▸hd.flow) hl;rw[X,Z,(fD c WD).normal,Y];exact(fG (g:=gR rev nx.id) (c:=c) (λmid h P=>by rw[hc];exact(j h P mid).2) sc N 0 d.flow false W L).normal
 rw[<-u];refine lK F V ?_ Cs;refine RC (Qj (by rw[G];exact t4) _).2.2 (Qj ht _).2.2 λr=>?_;show r∈C.normal.revs↔r∈d.normal.revs;by_cases b:r.id=0;constructor;intro m;have:r∈C.revs:=(qW.1 m).1;rw[G]at this;exact absurd b (Wt t4 this);intro m;exact absurd b (Wt ht (qW.1 m).1);rw[fL b,fL b,F,V,G,t5];refine and_congr_left λT=>?_;constructor;rintro(rfl|⟨q1,U⟩);exact o1;have:=((Sr r b).1 q1).1;rw[H,PJ]at this;rcases this with rfl|q;exact absurd ((a _).2 (.inr rfl)) U;exact q;intro m;by_cases e:r.id=rev;exact .inl (U_ ht m o1 (e.trans o.symm));right;have nt:r.id≠nx.id:=f r m;refine⟨(Sr r b).2 ⟨by rw[H,PJ];exact .inr m,?_⟩,λg=>((a _).1 g).elim e nt⟩;rw[I];rcases qe.1 T with q|q;refine kc _ ?_;rw[<-F,X]at q;have U:=fk (Pt (hp':=λ_=>True) (g:=c) (λ_ _=>trivial) B) q;exact fZ (c:=c) (λh hy=>by rw[hc]at hy;exact Vo b e h hy) S.flow U;exact jN _ q
end
def lD:Tr:=.pure 0<|.pure 2<|.one 1<|.one 3 .nil
set_option maxHeartbeats 2000000 in
theorem c29 (D:AI) (b:Bool)
 (i:∀(q n0:Nat),q<n0->∀(H:Hp) (n:Nat),n0<=n->H q=some (.cells [.bool false])->BA Tryz.prog 39 [D.enc,AX.enc,.imm 0 [] true,.fn (.func 107) [] [.ptr q 0]] H n (λv h' n'=>(∃E:AI,v=E.enc)/\h'=Aj (Qf q) b H/\n'=n)):
 PC 29 [D.enc] (.bool b):=by
 intro h n;refine Db Tryz.func29 rfl λg=>?_;have d:=g.lt;obtain⟨X,l⟩:∃X:SV,X=.iptr ([AG D.flow]++D.«end».flat++[Ao D.revs]++D.settings.flat):=⟨_,rfl⟩
 obtain⟨G,a⟩:∃G:Bool->Hp,∀c,G c=hset h (n+1) (some (.cells [.bool c])):=⟨_,λ_=>rfl⟩
 refine BP 1 [(1,X)] h (λm=>m=n+1) ?_ (λm f=>?_);rw[l];simp[go_sem,AI.enc,AF.flat,AK.flat];exact⟨AV (g.none (qa _)) (by simp[hset]),AJ d AB⟩;subst f;refine Bo 0 [(1,X),(3,.ptr (n+1) 0)] (G false) (λm=>m=n+2) (AH ?_) (λm f=>?_);rw[a];simp[go_sem,IO,AC,AS];subst f;have k:=i (n+1) (n+2) (by omega) (G false) (n+2) (qa _) (by rw[a,AC]);have o:Aj (Qf (n+1)) b (G false)=G b:=by rw[gQ,a,a,AS]
 rw[o]at k;refine AT 0 (α:=Unit) (λ_=>[(3,.ptr (n+1) 0)]) (λ_=>G b) (λ_ m=>n+2<=m) (BX lD rfl (by kernel_rfl) (by kernel_rfl) ?_) (λ_ m f=>?_);rw[l];simp[go_sem,lD,AF.flat,AK.flat];refine bH.use ?_;simp[go_sem];refine qC (by simpa[AI.enc,AF.flat,AK.flat]using k) ?_;rintro v H' n' ⟨⟨E,rfl⟩,rfl,rfl⟩;simp[go_sem,IO];refine AH ?_;simp[go_sem,a,AC];exact Ay g (AJ (λj z e=>by have:=d j z e;omega) AB) rfl rfl
set_option maxHeartbeats 2000000 in
theorem c31 (D:AI) (rev:Int) (b:Bool)
 (f:∀(q n0:Nat),q<n0->∀(H:Hp) (n:Nat),n0<=n->H q=some (.cells [.bool false])->BA Tryz.prog 39 [D.enc,AX.enc,.imm 0 [] true,.fn (.func 108) [] [.ptr q 0,.iptr [AA rev]]] H n (λv h' n'=>(∃E:AI,v=E.enc)/\h'=Aj (Qf q) b H/\n'=n)):
 PC 31 [D.enc,AA rev] (.bool b):=by
 intro h n;refine Db Tryz.func31 rfl λi=>?_;have d:=i.lt;obtain⟨X,o⟩:∃X:SV,X=.iptr ([AG D.flow]++D.«end».flat++[Ao D.revs]++D.settings.flat):=⟨_,rfl⟩
 obtain⟨R,l⟩:∃R:SV,R=.iptr [AA rev]:=⟨_,rfl⟩
 obtain⟨G,a⟩:∃G:Bool->Hp,∀c,G c=hset h (n+2) (some (.cells [.bool c])):=⟨_,λ_=>rfl⟩
 rw[<-l]at f;refine BP 1 [(2,X),(3,R)] h (λm=>m=n+2) ?_ (λm g=>?_);rw[o,l];simp[go_sem,AI.enc,AF.flat,AK.flat,qD];refine⟨⟨AV (i.none (by omega)) (by simp[hset]),AV (i.none (by omega)) (by simp[hset])⟩,λj y=>?_⟩;have:=d j y;simp only[hset];grind;subst g;refine Bo 0 [(2,X),(3,R),(5,.ptr (n+2) 0)] (G false) (λm=>m=n+3) (AH ?_) (λm g=>?_);rw[a];simp[go_sem,IO,AC,AS];subst g;have k:=f (n+2) (n+3) (by omega) (G false) (n+3) (qa _) (by rw[a,AC]);have p:Aj (Qf (n+2)) b (G false)=G b:=by rw[gQ,a,a,AS]
 rw[p]at k;refine AT 0 (α:=Unit) (λ_=>[(5,.ptr (n+2) 0)]) (λ_=>G b) (λ_ m=>n+2<=m) (BX lD rfl (by kernel_rfl) (by kernel_rfl) ?_) (λ_ m g=>?_);rw[o];simp[go_sem,lD,AF.flat,AK.flat];refine bH.use ?_;simp[go_sem];refine qC (by simpa[AI.enc,AF.flat,AK.flat]using k) ?_;rintro v H' n' ⟨⟨E,rfl⟩,rfl,rfl⟩;simp[go_sem,IO];refine AH ?_;simp[go_sem,a,AC];exact Ay i (AJ (λj z e=>by have:=d j z e;omega) AB) rfl rfl
set_option maxHeartbeats 2000000 in
theorem c30 (D:AI) (rev:Int) (L:List (Int×Int)) (c:PC 104 [D.enc,.imm 1 ([rev].map AA) false] (.imm 2 (L.map B5) false)):PC 30 [D.enc,AA rev] (.bool (decide (0<L.length))):=by
 intro h n;refine Db Tryz.func30 rfl λd=>?_;have a:=d.lt;obtain⟨X,f⟩:∃X:SV,X=.iptr ([AG D.flow]++D.«end».flat++[Ao D.revs]++D.settings.flat):=⟨_,rfl⟩
 refine AY 1 [(1,AA rev),(2,X)] h n ?_ (λm hm=>?_);rw[f];simp[go_sem,AI.enc,AF.flat,AK.flat,IO];exact⟨AV (d.none (qa _)) (by simp[hset]),AJ a AB⟩;have b:∀j y,h j=some y->j<m:=λj y e=>by have:=a j y e;omega
 refine AH ?_;rw[f];simp[go_sem,AF.flat,AK.flat];refine kU (bs:=[D.enc,.imm 1 ([rev].map AA) false]) (h2:=h) 1 (AJ b AB) ⟨by simp[AI.enc,AF.flat,AK.flat,IO],lO (AW b (qa _)) (by simp) (AC _ _ _),trivial⟩ (c.use ?_);simp[go_sem];exact As d rfl rfl
set_option maxHeartbeats 2000000 in
theorem c23 (a b:Int):PC 23 [AA a,AA b] (.imm 1 ((ei a b).map AA) false):=by
 intro h n;have e:ei a b=[if b<a then b else a,if b<a then a else b]:=by unfold ei;split<;>rfl
 rw[e];refine Db Tryz.func23 rfl λi=>?_;have f:=i.lt;refine AY 0 [(0,AA a),(1,AA b)] h n ?_ (λm g=>?_);simp[go_sem,IO];refine Bc 0 [(0,AA (if b<a then b else a)),(1,AA (if b<a then a else b))] h n (AH ?_) (λm g=>?_);by_cases c:b<a;simp[go_sem,c,IO,g];simp[go_sem,c,IO,g];generalize(if b<a then b else a)=x;generalize(if b<a then a else b)=y;have d:∀j y,h j=some y->j<m:=λj y e=>by have:=f j y e;omega
 refine AH ?_;simp[go_sem];refine Dy 1 i (AJ d AB) (DV (z:=1) (es:=[AA x,AA y]) (AW d (qa _)) (by simp) (by rw[AC];simp[SV.cells]) (by simp[SV.storable,SV.cells])) rfl
theorem bL (g:FuncId) (a b:List SV):PC 95 [.imm 0 [] true,.fn (.func g) a b] (.imm 0 [] true):=by
 intro h n;refine gq Tryz.func95 rfl λc=>?_;have hI:=Xa [] (by simp) g a b (λ_=>false) (λi hi=>by simp at hi);have hi:BD (λ_=>false) 0 0 = -1:=by unfold BD;simp
 simp[go_sem];refine kU (bs:=[.imm 2 (([]:List (Int×Int)).map B5) false,.fn (.func g) a b]) (h2:=h) 1 AB ⟨BC (by simp),IO,trivial⟩ (hI.use ?_);simp[go_sem,hi];exact As c rfl rfl
theorem XR:PC 101 [.imm 0 [] true] (.imm 0 [] true):=by
 intro h n;refine gq Tryz.func101 rfl λa=>?_;simp[go_sem];exact As a rfl rfl
theorem lq (z:Nat) (full:Bool):PC 97 [.imm z [] full,.fn (.func 98) [] []] (.tup []):=by
 intro h n;refine⟨Yd,λc vs _ R F A=>?_⟩;have⟨u,rs,ev,hv,A2⟩:∃u rs,vs=u::rs/\V c (.imm z [] full) u/\AZ (V c) [.fn (.func 98) [] []] rs:=by
  cases vs with
  | nil=>exact A.elim
  | cons u rs=>exact⟨u,rs,rfl,A.1,A.2⟩
 obtain⟨b,rfl,hv2⟩:=A2.single;subst ev;rw[V]at hv;have fin:∀(p:Option Addr) (cap:Nat),Calls Tryz.prog 97 #[.slice p 0 cap,b] c.w λe w'=>e=.returned (.tuple #[])/\w'=c.w:=λp cap=>AnyF.slices_SortFunc_none Tryz.sortB p cap b c.w;have key:∃p cap,u=.slice p 0 cap:=by
  rcases hv with⟨_,rfl⟩|⟨a,cap,_,rfl,_⟩
  exact⟨_,_,rfl⟩;exact⟨_,_,rfl⟩
 obtain⟨p,cap,rfl⟩:=key;refine(fin p cap).mono ?_;rintro e w' ⟨rfl,rfl⟩;exact⟨.tuple #[],.tup [],h,n,c,rfl,⟨rfl,rfl,rfl⟩,rfl,by simp[V,VL],R,F,ke n c⟩
end Go.Proofs.YtgakninlhfkkmaaGreat.Sh
