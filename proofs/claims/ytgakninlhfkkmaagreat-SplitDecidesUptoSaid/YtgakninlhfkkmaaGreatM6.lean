/- A part of the proof (part 6 of 17). -/
import Derived.Test.YtgakninlhfkkmaaGreatM5
namespace Go.Proofs.YtgakninlhfkkmaaGreat.Sh
abbrev kB:=@AB.nrm_fields
abbrev kM:=@AB.nrmL_eq
abbrev qP:=@SC.use
abbrev vY:=@AH.nrmL_eq
open Proofs
set_option maxRecDepth 10000
theorem PG {l:List AB} {x:AB} (h:x∈l):SizeOf.sizeOf x.flow<SizeOf.sizeOf l:=by
 have:=List.sizeOf_lt_of_mem h;cases x;simp only[AB.flow,AB.mk.sizeOf_spec]at *;omega
theorem O4 {l:List AB} {x:AB} {r:AP} {c:AH} (h:x∈l) (a:r∈x.rows) (hc:c∈r.cells):SizeOf.sizeOf c.flow<SizeOf.sizeOf l:=by
 have h1:=List.sizeOf_lt_of_mem h;have h2:=List.sizeOf_lt_of_mem a;have h3:=List.sizeOf_lt_of_mem hc;cases x;cases r;cases c;simp only[AB.rows,AP.cells,AH.flow,AB.mk.sizeOf_spec,AP.mk.sizeOf_spec,AH.mk.sizeOf_spec]at *;omega
section
variable {E : CC} {yl : Nat} {xs : List Fl} {J : Nat → (Nat → Prop) → Hp → Nat → Prop} {Jx : (Nat → Prop) → Hp → Nat → Prop}
theorem gB (Y:YJ E yl Fl.enc xs J Jx):∀(N:Nat) (l:List AB),SizeOf.sizeOf l<N->l.length<=1048576->AB.sizedL l->∀(id:Int) (p:BN) (k:Nat) (D:Nat->Prop) (h:Hp) (m:Nat),J k D h m->Vh xs k (Eh id l p)->
 Ap E Tryz.prog 248 [AA id,AK l,p.enc,.fn (.yield yl) [] []] h m (HN (J (k+(Eh id l p).length)) Jx D h m):=by
 intro N
 induction N with
 | zero=>intro l h;omega
 | succ N ih=>
 intro l hN hl hs id p k D h m hJ hseg;obtain⟨hx0,t⟩:=hseg.head;refine gq Tryz.func248 rfl λho=>?_;simp[go_sem,BN.enc,AD];have hD:∀o,D o->o<m:=Y.lt k D h m hJ;have U:J k D (hset h m (some (.cells [.bool p.body,.bool p.note,AA p.tables]))) (m+1):=Y.keep k D h m _ _ hJ (by omega) λo hDo=>AE _ _ (by have:=hD o hDo;omega);have M0:Ju J D h m [(m,.cells [.bool p.body,.bool p.note,AA p.tables])] k D (hset h m (some (.cells [.bool p.body,.bool p.note,AA p.tables]))) (m+1):=
  ⟨by omega,U,by simp[AD];exact λg=>absurd (hD m g) (by omega),λo g=>.inl g,λo _ g=>AE _ _ (by omega)⟩
 refine FV.mono (Y.step k _ D _ _ hx0 U) ?_;intro v h1 m1 W;rcases M0.step (qa _) (λ_ _=>rfl) W with⟨rfl,D1,M1⟩|⟨rfl,V⟩
 . simp[go_sem];refine Av 1 (α:=Nat×(Nat->Prop)×Hp) (λq=>[(3,.fn (.yield yl) [] []),(6,.ptr m 0),(22,AK l),(23,AA l.length),(24,AA q.1)]) (λq=>q.2.2)
    (λq m'=>q.1<=l.length/\Ju J D h m [(m,.cells [.bool p.body,.bool p.note,AA p.tables])] (k+1+(AB.flL p (l.take q.1)).length) q.2.1 q.2.2 m') (λq=>l.length-q.1) (0,D1,h1) ?_ ?_ AC ?_
   exact⟨qg _,by simpa[AB.flL]using M1⟩;simp[Ao];rintro⟨i,D2,h2⟩ m2 ⟨hi,u⟩;dsimp only at hi u ⊢;obtain⟨w,_,hne,_⟩:=u.own _ (qy.2 rfl);dsimp only at w hne;have s:m≠m2:=by omega
   by_cases n:i<l.length;have w1:=wS i (by omega);obtain⟨x,hx⟩:∃x,l[i]=x:=⟨_,rfl⟩
   have M:x∈l:=by rw[<-hx];exact qi n
   have f:=vq hs x M;obtain⟨r,B,C⟩:=AB.flL_take p l i n;rw[hx]at B C;have c:k+1+(AB.flL p (l.take (i+1))).length=k+1+(AB.flL p (l.take i)).length+(AB.fl p x).length:=by rw[C];simp;omega
   have a:Vh xs (k+1+(AB.flL p (l.take i)).length) (AB.fl p x):=by rw[B]at t;exact(t.app).2.app.1
   have F8:∀y z,∀o,o<m2->(hset (hset h2 m2 y) m2 z) o=h2 o:=λy z o g=>by rw[AE _ _ (by omega),AE _ _ (by omega)]
   by_cases k6:x.kind=6;have e:AB.fl p x=Eh x.id x.flow p.inNote:=by cases x;simp only[AB.kind]at k6;simp[AB.fl,k6,Eh,AB.id,AB.flow]
   have hxf:x.flow.length<=1048576/\AB.sizedL x.flow:=by cases x;rw[AB.sized]at f;exact⟨f.2.2.1,f.2.2.2.2.1⟩
   simp[go_sem,n,hx,qw,AD,AE,k6,w,s];refine we (ih x.flow (by have:=PG M;omega) hxf.1 hxf.2 x.id p.inNote _ D2 _ _ (u.keep Y (kz m2) (F8 _ _)) (by rw[<-e];exact a)) ?_;intro v T R W;rcases u.step (kz m2) (F8 _ _) W with⟨rfl,D3,A⟩|⟨rfl,V⟩
   simp[go_sem,w1,-Int.natCast_add];exact⟨i+1,by omega,D3,T,⟨by omega,by rw[c,e];exact A⟩,IO,AC⟩;simp[go_sem];exact .inl (Ju.any V);by_cases k7:x.kind=7;simp[go_sem,n,hx,qw,AD,k7];have e:AB.fl p x=AP.flL p.inTable x.rows:=by cases x;simp only[AB.kind]at k6 k7;simp[AB.fl,k7,AB.rows]
   have hxr:x.rows.length<=1048576/\AP.sizedL x.rows:=by cases x;rw[AB.sized]at f;exact⟨f.2.2.2.1,f.2.2.2.2.2⟩
   rw[e]at a c;generalize hk':k+1+(AB.flL p (l.take i)).length=k' at a c u;refine Av 1 (α:=Nat×(Nat->Prop)×Hp) (λq=>[(3,.fn (.yield yl) [] []),(6,.ptr m 0),(22,AK l),(23,AA l.length),(24,AA i),(45,Aw x.rows),(46,AA x.rows.length),(47,AA q.1)]) (λq=>q.2.2)
    (λq m'=>q.1<=x.rows.length/\Ju J D h m [(m,.cells [.bool p.body,.bool p.note,AA p.tables])] (k'+(AP.flL p.inTable (x.rows.take q.1)).length) q.2.1 q.2.2 m') (λq=>x.rows.length-q.1) (0,D2,_) ?_ ?_ AC ?_
   exact⟨Nat.zero_le _,by dsimp only;rw[List.take_zero,AP.flL];exact u.more Y (Nat.le_succ m2) (F8 _ _)⟩;simp[Ao];clear F8;rintro⟨j,D3,T⟩ R ⟨hj,A⟩;dsimp only at hj A ⊢;obtain⟨hp3,_,hne3,_⟩:=A.own _ (qy.2 rfl);dsimp only at hp3 hne3;have H:m≠R:=by omega
   by_cases G:j<x.rows.length;have w2:=wS j (by omega);obtain⟨y,hy⟩:∃y,x.rows[j]=y:=⟨_,rfl⟩
   have hym:y∈x.rows:=by rw[<-hy];exact qi G
   have O:=AP.sizedL_mem hxr.2 y hym;obtain⟨r2,hr1,hr2⟩:=AP.flL_take p.inTable x.rows j G;rw[hy]at hr1 hr2;have d:k'+(AP.flL p.inTable (x.rows.take (j+1))).length=k'+(AP.flL p.inTable (x.rows.take j)).length+(AP.fl p.inTable y).length:=by rw[hr2];simp;omega
   have b:Vh xs (k'+(AP.flL p.inTable (x.rows.take j)).length) (AP.fl p.inTable y):=by rw[hr1]at a;exact(a.app).2.app.1
   have hfy:AP.fl p.inTable y=AH.flL p.inTable y.cells:=by cases y;simp[AP.fl,AP.cells]
   have hyc:y.cells.length<=1048576/\AH.sizedL y.cells:=by cases y;rw[AP.sized]at O;exact⟨O.2.1,O.2.2⟩
   rw[hfy]at b d;have KL:∀y z,∀o,o<R->(hset (hset T R y) R z) o=T o:=λy z o g=>by rw[AE _ _ (by omega),AE _ _ (by omega)]
   simp[go_sem,G,hy,kl,AD];generalize hk2:k'+(AP.flL p.inTable (x.rows.take j)).length=k2 at b d A;refine Av 1 (α:=Nat×(Nat->Prop)×Hp) (λq=>[(3,.fn (.yield yl) [] []),(6,.ptr m 0),(22,AK l),(23,AA l.length),(24,AA i),(45,Aw x.rows),(46,AA x.rows.length),(47,AA j),(52,BZ y.cells),(53,AA y.cells.length),(54,AA q.1)]) (λq=>q.2.2)
    (λq m'=>q.1<=y.cells.length/\Ju J D h m [(m,.cells [.bool p.body,.bool p.note,AA p.tables])] (k2+(AH.flL p.inTable (y.cells.take q.1)).length) q.2.1 q.2.2 m') (λq=>y.cells.length-q.1) (0,D3,_) ?_ ?_ AC ?_
   exact⟨Nat.zero_le _,by dsimp only;rw[List.take_zero,AH.flL];exact A.more Y (Nat.le_succ R) (KL _ _)⟩;simp[Ao];clear KL;rintro⟨q,D4,h4⟩ S ⟨hq,Q⟩;dsimp only at hq Q ⊢;obtain⟨hp4,_,hne4,_⟩:=Q.own _ (qy.2 rfl);dsimp only at hp4 hne4;have I:m≠S:=by omega
   by_cases K:q<y.cells.length;have w3:=wS q (by omega);obtain⟨z,hz⟩:∃z,y.cells[q]=z:=⟨_,rfl⟩
   have hzm:z∈y.cells:=by rw[<-hz];exact qi K
   have P:=AH.sizedL_mem hyc.2 z hzm;obtain⟨r3,X,Z⟩:=AH.flL_take p.inTable y.cells q K;rw[hz]at X Z;have hfz:AH.fl p.inTable z=Eh z.id z.flow p.inTable:=by cases z;simp[AH.fl,Eh,AH.id,AH.flow]
   have F:k2+(AH.flL p.inTable (y.cells.take (q+1))).length=k2+(AH.flL p.inTable (y.cells.take q)).length+(Eh z.id z.flow p.inTable).length:=by rw[Z,hfz];simp;omega
   have L:Vh xs (k2+(AH.flL p.inTable (y.cells.take q)).length) (Eh z.id z.flow p.inTable):=by rw[X,hfz]at b;exact(b.app).2.app.1
   have hzf:z.flow.length<=1048576/\AB.sizedL z.flow:=by cases z;rw[AH.sized]at P;exact⟨P.2.1,P.2.2⟩
   have TD:∀y z,∀o,o<S->(hset (hset h4 S y) S z) o=h4 o:=λy z o g=>by rw[AE _ _ (by omega),AE _ _ (by omega)]
   simp[go_sem,K,hz,kO,AD,AE,hp4,I];refine we (ih z.flow (by have:=O4 M hym hzm;omega) hzf.1 hzf.2 z.id p.inTable _ D4 _ _ (Q.keep Y (kz S) (TD _ _)) L) ?_;intro v h5 m5 W;rcases Q.step (kz S) (TD _ _) W with⟨rfl,D5,M5⟩|⟨rfl,V⟩
   simp[go_sem,w3,-Int.natCast_add];exact⟨q+1,by omega,D5,h5,⟨by omega,by rw[F];exact M5⟩,IO,AC⟩;simp[go_sem];exact .inl (Ju.any V);have:q=y.cells.length:=by omega
   subst this;rw[qm]at Q;simp[go_sem,w2,-Int.natCast_add];exact⟨j+1,by omega,D4,h4,⟨by omega,by rw[d];exact Q⟩,IO,AC⟩;have:j=x.rows.length:=by omega
   subst this;rw[qm]at A;simp[go_sem,w1,-Int.natCast_add];exact⟨i+1,by omega,D3,T,⟨by omega,by rw[c];exact A⟩,IO,AC⟩;have e:AB.fl p x=[]:=by cases x;simp only[AB.kind]at k6 k7;simp[AB.fl,k6,k7]
   simp[go_sem,n,hx,qw,AD,k6,k7,w1,-Int.natCast_add];exact⟨i+1,by omega,D2,_,⟨by omega,by rw[c,e];exact u.more Y (kz m2) (F8 _ _)⟩,IO,AC⟩
   . have:i=l.length:=by omega
     subst this;simp[go_sem];rw[qm]at u;exact .inl (by have:=u.done (Jx:=Jx);simpa[Eh,qu,Nat.add_comm 1]using this)
 simp[go_sem];exact .inl (Ju.any V)
end
def Fl.ok (f:Fl):Prop:=f.items.length<=1048576/\AB.sizedL f.items
mutual
theorem AB.fl_ok (p:BN):∀x:AB,x.sized->∀f∈AB.fl p x,f.ok
 | .mk k c i t hd f r,hs=>by
  rw[AB.sized]at hs;rw[AB.fl];split;intro g hg;rcases qt.1 hg with rfl|hg;exact⟨hs.2.2.1,hs.2.2.2.2.1⟩;exact AB.flL_ok p.inNote f hs.2.2.2.2.1 g hg;split;exact AP.flL_ok p.inTable r hs.2.2.2.2.2;simp
theorem AB.flL_ok (p:BN):∀l:List AB,AB.sizedL l->∀f∈AB.flL p l,f.ok
 | [],_=>by simp[AB.flL]
 | x::l,hs=>by
  rw[AB.sizedL]at hs;intro g hg;rw[AB.flL]at hg;rcases qd.1 hg with hg|hg;exact AB.fl_ok p x hs.1 g hg;exact AB.flL_ok p l hs.2 g hg
theorem AP.fl_ok (p:BN):∀x:AP,x.sized->∀f∈AP.fl p x,f.ok
 | .mk hd c,hs=>by rw[AP.sized]at hs;rw[AP.fl];exact AH.flL_ok p c hs.2.2
theorem AP.flL_ok (p:BN):∀l:List AP,AP.sizedL l->∀f∈AP.flL p l,f.ok
 | [],_=>by simp[AP.flL]
 | x::l,hs=>by
  rw[AP.sizedL]at hs;intro g hg;rw[AP.flL]at hg;rcases qd.1 hg with hg|hg;exact AP.fl_ok p x hs.1 g hg;exact AP.flL_ok p l hs.2 g hg
theorem AH.fl_ok (p:BN):∀x:AH,x.sized->∀f∈AH.fl p x,f.ok
 | .mk i hd f,hs=>by
  rw[AH.sized]at hs;rw[AH.fl];intro g hg;rcases qt.1 hg with rfl|hg;exact⟨hs.2.1,hs.2.2⟩;exact AB.flL_ok p f hs.2.2 g hg
theorem AH.flL_ok (p:BN):∀l:List AH,AH.sizedL l->∀f∈AH.flL p l,f.ok
 | [],_=>by simp[AH.flL]
 | x::l,hs=>by
  rw[AH.sizedL]at hs;intro g hg;rw[AH.flL]at hg;rcases qd.1 hg with hg|hg;exact AH.fl_ok p x hs.1 g hg;exact AH.flL_ok p l hs.2 g hg
end
theorem KB {id:Int} {l:List AB} {p:BN} (hl:l.length<=1048576) (a:AB.sizedL l):∀f∈Eh id l p,f.ok:=by
 intro g hg;rcases qt.1 hg with rfl|hg;exact⟨hl,a⟩;exact AB.flL_ok p l a g hg
section
variable {E : CC} {yl : Nat} {xs : List Fl} {J : Nat → (Nat → Prop) → Hp → Nat → Prop} {Jx : (Nat → Prop) → Hp → Nat → Prop}
theorem fy (Y:YJ E yl Fl.enc xs J Jx) (l:List AB) (hl:l.length<=1048576) (c:AB.sizedL l) (id:Int) (p:BN) (k:Nat) (D:Nat->Prop) (h:Hp) (m:Nat) (b:J k D h m) (a:Vh xs k (Eh id l p)):
 Ap E Tryz.prog 247 [.fn (.yield yl) [] [],.iptr [AA id],.iptr [AK l],.iptr [.bool p.body,.bool p.note,AA p.tables]] h m (λ_ h' m'=>∃v,HN (J (k+(Eh id l p).length)) Jx D h m v h' m'):=by
 refine gq Tryz.func247 rfl λho=>?_;simp[go_sem];refine we (gB Y (SizeOf.sizeOf l+1) l (qY _) hl c id p k D h m b a) ?_;intro v h' m' W;simp[go_sem];exact .inl ⟨v,W⟩
end
theorem AZ {h' h:Hp} {k o:Nat} {cs:List SV} (hn:h o=none) (b:h' o=some (.cells cs)):Fz h' h (k+1) (.ptr o 0) (.iptr cs):=by
 refine .inr ⟨hn,cs,b,by simp,?_⟩;have:∀l:List SV,Ag (Fz h' h k) l l:=by
  intro l;induction l with
  | nil=>trivial
  | cons a l ih=>exact⟨IO,ih⟩
 simpa using this cs
theorem fL (id:Int) (l:List AB) (p:BN):PC 173 [AA id,AK l,p.enc] (.fn (.func 247) [] [.iptr [AA id],.iptr [AK l],.iptr [.bool p.body,.bool p.note,AA p.tables]]):=by
 intro h n;refine gq Tryz.func173 rfl λa=>?_;simp[go_sem,BN.enc];refine Dj 3 a (by repeat(first|exact AC|refine AR a (by omega) ?_)) ?_ (by simp[closed,closedL,AB.E.closedL]);have h0:=a.none (qa n);have h1:=a.none (kz n);have h2:=a.none (show n<=n+1+1 by omega);exact .inr ⟨rfl,trivial,AZ h0 (by simp[hset,qu]),AZ h1 (by simp[hset,qu]),AZ h2 (by simp[hset,qu]),trivial⟩
def Ko:BN:=⟨true,false,0⟩
theorem eg (d:AG):PC 109 [d.enc] (.fn (.func 247) [] [.iptr [AA 0],.iptr [AK d.flow],.iptr [.bool true,.bool false,AA 0]]):=by
 intro h n;refine gq Tryz.func109 rfl λa=>?_;simp[go_sem,AG.enc,AF.flat,AI.flat,AD];refine(fL 0 d.flow Ko).use ?_;simp[go_sem];exact A3 a (by repeat(first|exact AC|refine AR a (by omega) ?_)) rfl (by simp[closed,closedL,AB.E.closedL])
def Ew (d:AG):List Fl:=Eh 0 d.flow Ko
def Eg (d:AG) (id:Int):Option Fl:=(Ew d).find? λf=>decide (f.id=id)
theorem c34 (d:AG) (id:Int) (hl:d.flow.length<=1048576) (U:AB.sizedL d.flow):PC 34 [d.enc,AA id] (.tup [AK (((Eg d id).map Fl.items).getD []),.bool (Eg d id).isSome]):=by
 intro h n;refine jE Tryz.func34 rfl (by kernel_rfl) (by kernel_rfl) (by simp[go_sem]) λM B=>?_;simp[go_sem,AG.enc,AF.flat,AI.flat,AD,AE,qu];refine qz (by simpa[AG.enc,AF.flat,AI.flat]using eg d) ?_;simp[go_sem];generalize F:hset (hset (hset (hset h n _) (n+1) _) (n+2) _) (n+3) _=H;refine Et rfl rfl rfl λE1 l R X=>?_;have h1:H (n+1)=some (.cells [AA id]):=by rw[<-F];simp[hset]
 have h2:H (n+2)=some (.cells [.imm 0 [] true]):=by rw[<-F];simp[hset]
 have V:H (n+3)=some (.cells [.bool false]):=by rw[<-F];simp[hset]
 have BV:∀o,o<n->H o=h o:=λo g=>by rw[<-F];rw[AE _ _ (by omega),AE _ _ (by omega),AE _ _ (by omega),AE _ _ (by omega)]
 clear F;let C:Nat->Prop:=λo=>n<=o/\o<=n+4;let J:Nat->(Nat->Prop)->Hp->Nat->Prop:=λk D c m=>D=C/\n+4<m/\c (n+1)=some (.cells [AA id])/\c (n+2)=some (.cells [.imm 0 [] true])/\c (n+3)=some (.cells [.bool false])/\c (n+4)=some (.loop (R .ready none))/\∀x∈(Ew d).take k,x.id≠id;let Jx:(Nat->Prop)->Hp->Nat->Prop:=λD c m=>D=C/\n+4<m/\∃x,Eg d id=some x/\c (n+2)=some (.cells [AK x.items])/\c (n+3)=some (.cells [.bool true])/\c (n+4)=some (.loop (R .done (some .ret)));have Y:YJ E1 l Fl.enc (Ew d) J Jx:=by
  refine⟨λk x D c m A W=>?_,?_,?_⟩;obtain⟨rfl,K,q,j,g3,t,z⟩:=W;refine X _ _ _ _ t rfl (Je ?_);have O:x∈Ew d:=kC A;have I:x.ok:=KB hl U x O;have P:n+1≠m:=by omega
  have Q:n+2≠m:=by omega
  have S:n+3≠m:=by omega
  have T:n+4≠m:=by omega
  have N:=T.symm;simp[go_sem,J0,Fl.enc,AD,AE,t,T,q,P];by_cases r:x.id=id;have u:Eg d id=some x:=by
   obtain⟨G,w⟩:=qh.1 A;have s:Ew d=(Ew d).take k++x::(Ew d).drop (k+1):=by rw[<-w,List.getElem_cons_drop,qM]
   rw[Eg,s,List.find?_append];have:((Ew d).take k).find? (λf=>decide (f.id=id))=none:=List.find?_eq_none.2 λy p=>by simpa using z y p
   rw[this];simp[r]
  simp[go_sem,r,AD,AE,N];refine(bP _ I.1 I.2).use ?_;simp[go_sem,AD,AE,j,Q,g3,S,Hg];refine⟨by omega,C,λo g=>.inl g,λo q j=>?_,.inr ⟨rfl,rfl,by omega,x,u,?_⟩⟩;have:¬(n<=o/\o<=n+4):=q;simp only[hset];rw[if_neg (by omega),if_neg (by omega),if_neg (by omega),if_neg (by omega),if_neg (by omega),if_neg (by omega)];simp[hset];simp[go_sem,r,Hg,AD];refine⟨by omega,C,λo g=>.inl g,λo q j=>?_,.inl ⟨rfl,rfl,by omega,?_,?_,?_,?_,λy p=>?_⟩⟩;have:¬(n<=o/\o<=n+4):=q;simp only[hset];rw[if_neg (by omega),if_neg (by omega),if_neg (by omega),if_neg (by omega)];simp[hset,P,q];simp[hset,Q,j];simp[hset,S,g3];simp[hset];obtain⟨G,w⟩:=qh.1 A;rw[qb G,w]at p;rcases qd.1 p with p|p;exact z y p;rw[qy.1 p];exact r;rintro k D c m h' m' ⟨rfl,K,q,j,g3,t,z⟩ Z L;exact⟨rfl,by omega,by rw[L _ ⟨by omega,by omega⟩];exact q,by rw[L _ ⟨by omega,by omega⟩];exact j,by rw[L _ ⟨by omega,by omega⟩];exact g3,by rw[L _ ⟨by omega,by omega⟩];exact t,z⟩;rintro k D c m ⟨rfl,K,_⟩ o ⟨a,b⟩;omega
 refine we (fy Y d.flow hl U 0 Ko 0 C _ _ ⟨rfl,by omega,?_,?_,?_,?_,by simp⟩ ⟨[],by simp[Ew]⟩) ?_;rw[AE _ _ (by omega)];exact h1;rw[AE _ _ (by omega)];exact h2;rw[AE _ _ (by omega)];exact V;exact AD _ _ _;rintro _ h' m' ⟨v,Z,D',hDD,c,hv⟩;rcases hv with⟨rfl,rfl,K,q,j,g3,t,z⟩|⟨rfl,rfl,K,x,A,j,g3,t⟩
 refine⟨_,_,t,by simp,?_⟩;simp[go_sem,AD,AE,j,g3];have i:Eg d id=none:=List.find?_eq_none.2 λy p=>by simpa using z y (by simpa[Ew,Ko]using p)
 refine Dj 2 M (λo y e=>?_) (by rw[i];exact .inr ⟨Bj (by simp),IO,trivial⟩) (by rw[i];rfl);have g:=(M o y e).1;rw[AE _ _ (by omega),AE _ _ (by omega),AE _ _ (by omega),c o (λg'=>by have:n<=o/\o<=n+4:=g';omega) (by omega),AE _ _ (by omega),BV o g,e];refine⟨_,_,t,by simp,?_⟩;simp[go_sem,AE,j,g3];refine A3 M (λo y e=>?_) (by rw[A];rfl) (by rw[A];simp[closed,closedL,AB.E.closedL]);have g:=(M o y e).1;rw[AE _ _ (by omega),c o (λg'=>by have:n<=o/\o<=n+4:=g';omega) (by omega),AE _ _ (by omega),BV o g,e]
def E6:Int->List AB->List (Int×AB)
 | _,[]=>[]
 | a,x::l=>(a,x)::E6 (a+x.units) l
def dy (p:Int×AB):List SV:=[AA p.1,p.2.enc]
theorem HU:∀(a:Int) (l:List AB),(E6 a l).length=l.length
 | _,[]=>rfl
 | a,x::l=>by simp[E6,HU _ l]
theorem FM:∀(a:Int) (l:List AB) (k:Nat) (h:k<l.length),(E6 a l)[k]? = some (a+BQ (l.take k),l[k])
 | a,x::l,0,_=>by simp[E6,BQ]
 | a,x::l,k+1,h=>by
  simp only[E6,List.getElem?_cons_succ,kn,BQ,vB];rw[FM _ l k (by simpa using h),Int.add_assoc]
section
variable {E : CC} {yl : Nat} {J : Nat → (Nat → Prop) → Hp → Nat → Prop} {Jx : (Nat → Prop) → Hp → Nat → Prop}
theorem gz (l:List AB) (Y:YJ E yl dy (E6 0 l) J Jx) (hl:l.length<=1048576) (r:∀x∈l,x.text.size<=1048576) (D:Nat->Prop) (h:Hp) (m:Nat) (G:J 0 D h m):
 Ap E Tryz.prog 312 [.fn (.yield yl) [] [],.iptr [AK l]] h m (λ_ h' m'=>∃v,HN (J l.length) Jx D h m v h' m'):=by
 refine gq Tryz.func312 rfl λho=>?_;simp[go_sem];have B:Ju J D h m [] 0 D h m:=⟨qa _,G,by simp,λo g=>.inl g,λ_ _ _=>rfl⟩
 refine Av 1 (α:=Nat×(Nat->Prop)×Hp) (λq=>[(0,.fn (.yield yl) [] []),(3,AA (BQ (l.take q.1))),(8,AK l),(9,AA l.length),(10,AA q.1)]) (λq=>q.2.2)
  (λq m'=>q.1<=l.length/\Ju J D h m [] q.1 q.2.1 q.2.2 m') (λq=>l.length-q.1) (0,D,h) ?_ ?_ AC ?_
 exact⟨qg _,B⟩;simp[Ao,BQ];rintro⟨i,n,h2⟩ m2 ⟨hi,c⟩;dsimp only at hi c ⊢;by_cases a:i<l.length;have w1:=wS i (by omega);obtain⟨x,k⟩:∃x,l[i]=x:=⟨_,rfl⟩
 have f:x∈l:=by rw[<-k];exact qi a
 have Me:=Jh (l.take i) λy I=>r y (qS I);have F8:=x.units_le (r x f);have hlk:((l.take i).length:Int)<=1048576:=by simp;omega
 have s:l.take (i+1)=l.take i++[x]:=by rw[qb a,k]
 have w2:IntKind.i64.wrap (BQ (l.take i)+x.units)=BQ (l.take (i+1)):=by
  rw[DA,s,GA];simp[BQ];omega;have:((l.take i).length:Int)*1048576<=1048576*1048576:=by omega
  omega
 have b:=FM 0 l i a;rw[k,Int.zero_add]at b;have hb:∀y z,∀o,o<m2->(hset (hset h2 m2 y) m2 z) o=h2 o:=λy z o g=>by rw[AE _ _ (by omega),AE _ _ (by omega)]
 have d:dy (BQ (l.take i),x)=[AA (BQ (l.take i)),x.enc]:=rfl;rw[qw]at d;simp[go_sem,a,k,qw,AD];have e:=λhb K g=>Y.step i _ n hb K b g;rw[d]at e;have p:¬n m2:=λg=>by have:=Y.lt _ _ _ _ c.j _ g;omega
 generalize w:hset (hset h2 m2 _) m2 _=H2;have t:Ju J D h m [(m2,.cells [AA x.kind,AA x.code,AA x.id,.str x.text,AU x.head.props,AA x.head.ins,AA x.head.move,Ax x.head.dels,Ai x.head.layers,AK x.flow,Aw x.rows])] i n H2 (m2+1):=
  (c.more Y (kz m2) (by rw[<-w];exact hb _ _)).add (by rw[<-w];exact AD _ _ _) c.lt (qY m2) p
 refine FV.mono (e _ _ t.j) ?_;intro v F m3 W;rcases t.step (qa _) (λ_ _=>rfl) W with⟨rfl,A,u⟩|⟨rfl,H⟩
 obtain⟨C,_,_,_⟩:=u.own _ (qy.2 rfl);simp[go_sem,C];refine qz (by simpa[qw]using Zn x (r x f)) ?_;simp[go_sem,w1,w2,-Int.natCast_add];exact⟨i+1,by omega,A,F,⟨by omega,u.drop⟩,⟨IO,IO⟩,AC⟩;simp[go_sem];exact .inl ⟨_,Ju.any H⟩
 . have:i=l.length:=by omega
   subst this;simp[go_sem];exact .inl ⟨_,c.done⟩
end
def AB.setText (y:AB) (t:ByteArray):AB:=.mk y.kind y.code y.id t y.head y.flow y.rows
def B7 (cu:Int) (s:List AB×List AB) (p:Int×AB):List AB×List AB:=
 if p.1+p.2.units<=cu then(s.1++[p.2],s.2)else if cu<=p.1 then(s.1,s.2++[p.2])else
  (s.1++[p.2.setText (p.2.text.extract 0 (Be p.2.text (cu-p.1)).1.toNat)],s.2++[p.2.setText (p.2.text.extract (Be p.2.text (cu-p.1)).1.toNat p.2.text.size)])
def CV (l:List AB) (cu:Int) (k:Nat):List AB×List AB:=((E6 0 l).take k).foldl (B7 cu) ([],[])
def Ad (l:List AB) (cu:Int):List AB×List AB:=CV l cu l.length
theorem If (s:ByteArray):∀k,∀x∈Bh s k,0<=x/\x<k
 | 0,x,h=>by simp[Bh]at h
 | k+1,x,h=>by
  unfold Bh at h;split at h;rcases qd.1 h with h|h;have:=If s k x h;omega;have:=qy.1 h;omega;have:=If s k x h;omega
theorem Q4 (s:ByteArray) (u:Int):0<=(Be s u).1/\(Be s u).1<=s.size:=by
 unfold Be;split;simp;split;simp;simp only;rw[List.getD_eq_getElem?_getD];cases h:(Bh s s.size++[(s.size:Int)])[u.toNat]? with
 | none=>simp
 | some x=>
  have:=kC h;rcases qd.1 this with h|h;have:=If s _ x h;simp;omega;have:=qy.1 h;simp;omega
theorem Fx (l:List AB) (cu:Int) (k:Nat) (h:k<l.length):CV l cu (k+1)=B7 cu (CV l cu k) (BQ (l.take k),l[k]):=by
 have hg:=FM 0 l k h;obtain⟨a,b⟩:=qh.1 hg;unfold CV;rw[qb a,jw,b,Int.zero_add];rfl
theorem RB (cu:Int) (s:List AB×List AB) (p:Int×AB):(B7 cu s p).1.length<=s.1.length+1/\(B7 cu s p).2.length<=s.2.length+1:=by
 unfold B7;split;simp;split<;>simp
theorem NZ (l:List AB) (cu:Int):∀k,k<=l.length->(CV l cu k).1.length<=k/\(CV l cu k).2.length<=k
 | 0,_=>by simp[CV]
 | k+1,h=>by
  rw[Fx l cu k h];have h1:=RB cu (CV l cu k) (BQ (l.take k),l[k]);have h2:=NZ l cu k (by omega);omega
structure Po (l:List AB) (cu:Int) (n:Nat) (R:LoopState->Option Code->Loop) (k:Nat) (D:Nat->Prop) (hh:Hp) (m:Nat) (oL oR:Option Nat):Prop where
 lt:n+3<m
 cell:hh n=some (.cells [AA cu])
 left:hh (n+1)=some (.cells [AW 11 oL ((CV l cu k).1.map AB.enc)])
 right:hh (n+2)=some (.cells [AW 11 oR ((CV l cu k).2.map AB.enc)])
 loop:hh (n+3)=some (.loop (R .ready none))
 accL:BR (n+4) m 11 oL ((CV l cu k).1.map AB.enc)
 accR:BR (n+4) m 11 oR ((CV l cu k).2.map AB.enc)
 ne:∀j,oL=some j->oR≠some j
 objL:∀j,oL=some j->hh j=some (.cells (((CV l cu k).1.map AB.enc).flatMap SV.cells))
 objR:∀j,oR=some j->hh j=some (.cells (((CV l cu k).2.map AB.enc).flatMap SV.cells))
 dom:D=λo=>(n<=o/\o<=n+3)\/oL=some o\/oR=some o
theorem Po.keep {l:List AB} {cu:Int} {n:Nat} {R:LoopState->Option Code->Loop} {k:Nat} {D:Nat->Prop} {b:Hp} {m:Nat} {c d:Option Nat} (H:Po l cu n R k D b m c d) {h':Hp} {m':Nat} (f:m<=m') (h:∀o,D o->h' o=b o):Po l cu n R k D h' m' c d:=by
 have a:∀o,(n<=o/\o<=n+3)\/c=some o\/d=some o->h' o=b o:=λo g=>h o (by rw[H.dom];exact g);exact⟨by have:=H.lt;omega,by rw[a _ (.inl ⟨by omega,by omega⟩)];exact H.cell,by rw[a _ (.inl ⟨by omega,by omega⟩)];exact H.left,by rw[a _ (.inl ⟨by omega,by omega⟩)];exact H.right,by rw[a _ (.inl ⟨by omega,by omega⟩)];exact H.loop,H.accL.mono f,H.accR.mono f,H.ne,
  λj e=>by rw[a j (.inr (.inl e))];exact H.objL j e,λj e=>by rw[a j (.inr (.inr e))];exact H.objR j e,H.dom⟩
theorem Po.dlt {l:List AB} {cu:Int} {n:Nat} {R:LoopState->Option Code->Loop} {k:Nat} {D:Nat->Prop} {a:Hp} {m:Nat} {b c:Option Nat} (H:Po l cu n R k D a m b c):∀o,D o->o<m:=λo g=>by
 rw[H.dom]at g;have:=H.lt;rcases g with⟨_,g⟩|g|g;omega;exact(H.accL.lt o g).2;exact(H.accR.lt o g).2
theorem Po.fin {l:List AB} {cu:Int} {n:Nat} {R:LoopState->Option Code->Loop} {k:Nat} {D:Nat->Prop} {h:Hp} {m:Nat} {q r:Option Nat} (f:Po l cu n R k D h m q r) {sa:SA} {c:Hp} {m':Nat} {i p:List AB} (d:CV l cu (k+1)=(i,p)) (a b:Option Nat) (z:m<=m')
 (hc:c n=some (.cells [AA cu])) (hl:c (n+1)=some (.cells [AW 11 a (i.map AB.enc)])) (A:c (n+2)=some (.cells [AW 11 b (p.map AB.enc)])) (hb:c (n+3)=some (.loop (R .busy none)))
 (s:BR (n+4) m' 11 a (i.map AB.enc)) (t:BR (n+4) m' 11 b (p.map AB.enc))
 (B:∀j,a=some j->q=some j\/m<=j) (C:∀j,b=some j->r=some j\/m<=j) (ne:∀j,a=some j->b≠some j)
 (v:∀j,a=some j->c j=some (.cells ((i.map AB.enc).flatMap SV.cells))) (w:∀j,b=some j->c j=some (.cells ((p.map AB.enc).flatMap SV.cells)))
 (fr:∀o,¬D o->o<m->c o=h o) (Jx:(Nat->Prop)->Hp->Nat->Prop):
 Hg (n+3) R (HN (λD h m=>∃q r,Po l cu n R (k+1) D h m q r) Jx D h m) .normal sa c m':=by
 have hlt:=f.lt;have u:∀o,¬D o->o≠n+3:=λo g e=>g (by rw[f.dom];exact .inl (by omega));refine⟨hb,z,λo=>(n<=o/\o<=n+3)\/a=some o\/b=some o,λo g=>?_,λo x y=>by rw[AE _ _ (u o x)];exact fr o x y,.inl ⟨rfl,a,b,?_⟩⟩;rcases g with g|g|g;exact .inl (by rw[f.dom];exact .inl g);rcases B o g with g'|g';exact .inl (by rw[f.dom];exact .inr (.inl g'));exact .inr ⟨g',(s.lt o g).2⟩;rcases C o g with g'|g';exact .inl (by rw[f.dom];exact .inr (.inr g'));exact .inr ⟨g',(t.lt o g).2⟩;refine⟨by omega,by rw[AE _ _ (by omega)];exact hc,by rw[AE _ _ (by omega),d];exact hl,by rw[AE _ _ (by omega),d];exact A,AD _ _ _,by rw[d];exact s,by rw[d];exact t,ne,λj e=>?_,λj e=>?_,rfl⟩;have:=(s.lt j e).1;rw[AE _ _ (by omega),d];exact v j e;have:=(t.lt j e).1;rw[AE _ _ (by omega),d];exact w j e
theorem gf (l:List AB):PC 285 [AK l] (.fn (.func 312) [] [.iptr [AK l]]):=by
 intro h n;refine gq Tryz.func285 rfl λa=>?_;simp[go_sem];exact Dj 3 a (AR a (qa _) AC) (.inr ⟨rfl,trivial,AZ (a.none (qa n)) (by simp[hset]),trivial⟩) (by simp[closed,closedL,AB.E.closedL])
theorem Ac {α β:Type} (f:α->β) (a:α) (l:List α):List.map f (List.toArray (a::l)).toList=f a::List.map f (List.toArray l).toList:=rfl
theorem Am {α β:Type} (f:α->β):List.map f (List.toArray ([]:List α)).toList=[]:=rfl
theorem Cb:ofValue (.agg #[.int .i64 0,.int .i64 0,.int .i64 0,.string { data:=#[] },.slice none 0 0,.int .i64 0,.int .i64 0,.slice none 0 0,.slice none 0 0,.slice none 0 0,.slice none 0 0])=.agg [.int .i64 0,.int .i64 0,.int .i64 0,.str .empty,.imm 0 [] true,.int .i64 0,.int .i64 0,.imm 0 [] true,.imm 0 [] true,.imm 0 [] true,.imm 0 [] true]:=rfl
end Go.Proofs.YtgakninlhfkkmaaGreat.Sh
