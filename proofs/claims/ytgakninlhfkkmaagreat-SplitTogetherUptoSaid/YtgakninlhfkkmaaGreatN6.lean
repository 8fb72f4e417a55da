/- A part of the proof (part 6 of 18). -/
import Derived.Test.YtgakninlhfkkmaaGreatN5
namespace Go.Proofs.YtgakninlhfkkmaaGreat.Sh
open Tryz
abbrev Ta:=@cr.qA
abbrev Ve:=@AB.qA
abbrev WY:=@AB.nrm_fields
abbrev qP:=@SC.use
open Proofs
set_option maxRecDepth 10000
theorem PG{l:List AB}{x:AB}(h:x∈l):SizeOf.sizeOf x.W<SizeOf.sizeOf l:=by
 have:=List.sizeOf_lt_of_mem h;cases x;simp only[AB.W,AB.mk.sizeOf_spec]at *;omega
theorem O4{l:List AB}{x:AB}{r:AP}{c:cr}(h:x∈l)(a:r∈x.R)(hc:c∈r.cells):SizeOf.sizeOf c.W<SizeOf.sizeOf l:=by
 have h1:=List.sizeOf_lt_of_mem h;have h2:=List.sizeOf_lt_of_mem a;have h3:=List.sizeOf_lt_of_mem hc;cases x;cases r;cases c;simp only[AB.R,AP.cells,cr.W,AB.mk.sizeOf_spec,AP.mk.sizeOf_spec,cr.mk.sizeOf_spec]at *;omega
section
variable{E:CC}{yl:Nat}{xs:List Fl}{J:Nat->(Nat->Prop)->Hp->Nat->Prop}{Jx:(Nat->Prop)->Hp->Nat->Prop}
theorem gB(Y:YJ E yl Fl.e xs J Jx):∀(N:Nat)(l:List AB),SizeOf.sizeOf l<N->l.length<=1048576->AB.G l->∀(id:Int)(p:BN)(k:Nat)(D:Nat->Prop)(h:Hp)(m:Nat),J k D h m->Vh xs k (Eh id l p)->
 Ap E prog 248 [AA id,AK l,p.e,.fn (.yield yl) [] []] h m (HN (J (k+(Eh id l p).length)) Jx D h m):=by
 intro N
 induction N with
 | zero=>intro l h;omega
 | succ N ih=>
 intro l hN hl hs id p k D h m hJ hseg;obtain⟨hx0,t⟩:=hseg.H;refine gq func248 rfl λho=>?_;simp[go_sem,BN.e,AD];have hD:∀o,D o->o<m:=Y.lt k D h m hJ;have U:J k D (h_ h m (some (.cells [.bool p.body,.bool p.note,AA p.tables]))) (m+1):=Y.keep k D h m _ _ hJ (by omega) λo hDo=>AE _ _ (by have:=hD o hDo;omega);have M0:Ju J D h m [(m,.cells [.bool p.body,.bool p.note,AA p.tables])] k D (h_ h m (some (.cells [.bool p.body,.bool p.note,AA p.tables]))) (m+1):=
  ⟨by omega,U,by simp[AD];exact λg=>absurd (hD m g) (by omega),λo g=>.inl g,λo _ g=>AE _ _ (by omega)⟩
 refine FV.mono (Y.step k _ D _ _ hx0 U) ?_;intro v h1 m1 W;rcases M0.step (qa _) (λ_ _=>rfl) W with⟨rfl,D1,M1⟩|⟨rfl,V⟩
 . simp[go_sem];refine Av 1 (α:=Nat×(Nat->Prop)×Hp) (λq=>[(3,.fn (.yield yl) [] []),(6,.ptr m 0),(22,AK l),(23,AA l.length),(24,AA q.1)]) (λq=>q.2.2)
    (λq m'=>q.1<=l.length/\Ju J D h m [(m,.cells [.bool p.body,.bool p.note,AA p.tables])] (k+1+(AB.flL p (l.take q.1)).length) q.2.1 q.2.2 m') (λq=>l.length-q.1) (0,D1,h1) ?_ ?_ AC ?_
   exact⟨qg _,by simpa[AB.flL]using M1⟩;simp[Ao];rintro⟨i,D2,h2⟩ m2 ⟨hi,u⟩;dsimp only at hi u ⊢;obtain⟨w,_,hne,_⟩:=u.own _ (qy.2 rfl);dsimp only at w hne;have s:m≠m2:=by omega
   by_cases n:i<l.length;have w1:=wS i (by omega);obtain⟨x,hx⟩:∃x,l[i]=x:=⟨_,rfl⟩
   have M:x∈l:=by rw[<-hx];exact qi n
   have f:=vq hs x M;obtain⟨r,B,C⟩:=AB.flL_take p l i n;rw[hx]at B C;have c:k+1+(AB.flL p (l.take (i+1))).length=k+1+(AB.flL p (l.take i)).length+(AB.fl p x).length:=by rw[C];simp;omega
   have a:Vh xs (k+1+(AB.flL p (l.take i)).length) (AB.fl p x):=by rw[B]at t;exact(t.app).2.app.1
   have F8:∀y z,∀o,o<m2->(h_ (h_ h2 m2 y) m2 z) o=h2 o:=λy z o g=>by rw[AE _ _ (by omega),AE _ _ (by omega)]
   by_cases k6:x.k=6;have e:AB.fl p x=Eh x.id x.W p.inNote:=by cases x;simp only[AB.k]at k6;simp[AB.fl,k6,Eh,AB.id,AB.W]
   have hxf:x.W.length<=1048576/\AB.G x.W:=by cases x;rw[AB.D]at f;exact⟨f.2.2.1,f.2.2.2.2.1⟩
   simp[go_sem,n,hx,qw,AD,AE,k6,w,s];refine we (ih x.W (by have:=PG M;omega) hxf.1 hxf.2 x.id p.inNote _ D2 _ _ (u.keep Y (Zc m2) (F8 _ _)) (by rw[<-e];exact a)) ?_;intro v T R W;rcases u.step (Zc m2) (F8 _ _) W with⟨rfl,D3,A⟩|⟨rfl,V⟩
   simp[go_sem,w1,-Int.natCast_add];exact⟨i+1,by omega,D3,T,⟨by omega,by rw[c,e];exact A⟩,IO,AC⟩;simp[go_sem];exact .inl (Ju.any V);by_cases k7:x.k=7;simp[go_sem,n,hx,qw,AD,k7];have e:AB.fl p x=AP.flL p.cy x.R:=by cases x;simp only[AB.k]at k6 k7;simp[AB.fl,k7,AB.R]
   have hxr:x.R.length<=1048576/\AP.G x.R:=by cases x;rw[AB.D]at f;exact⟨f.2.2.2.1,f.2.2.2.2.2⟩
   rw[e]at a c;generalize hk':k+1+(AB.flL p (l.take i)).length=k' at a c u;refine Av 1 (α:=Nat×(Nat->Prop)×Hp) (λq=>[(3,.fn (.yield yl) [] []),(6,.ptr m 0),(22,AK l),(23,AA l.length),(24,AA i),(45,Aw x.R),(46,AA x.R.length),(47,AA q.1)]) (λq=>q.2.2)
    (λq m'=>q.1<=x.R.length/\Ju J D h m [(m,.cells [.bool p.body,.bool p.note,AA p.tables])] (k'+(AP.flL p.cy (x.R.take q.1)).length) q.2.1 q.2.2 m') (λq=>x.R.length-q.1) (0,D2,_) ?_ ?_ AC ?_
   exact⟨Nat.zero_le _,by dsimp only;rw[List.take_zero,AP.flL];exact u.more Y (Nat.le_succ m2) (F8 _ _)⟩;simp[Ao];clear F8;rintro⟨j,D3,T⟩ R ⟨hj,A⟩;dsimp only at hj A ⊢;obtain⟨hp3,_,hne3,_⟩:=A.own _ (qy.2 rfl);dsimp only at hp3 hne3;have H:m≠R:=by omega
   by_cases G:j<x.R.length;have w2:=wS j (by omega);obtain⟨y,hy⟩:∃y,x.R[j]=y:=⟨_,rfl⟩
   have hym:y∈x.R:=by rw[<-hy];exact qi G
   have O:=AP.qR hxr.2 y hym;obtain⟨r2,hr1,hr2⟩:=AP.flL_take p.cy x.R j G;rw[hy]at hr1 hr2;have d:k'+(AP.flL p.cy (x.R.take (j+1))).length=k'+(AP.flL p.cy (x.R.take j)).length+(AP.fl p.cy y).length:=by rw[hr2];simp;omega
   have b:Vh xs (k'+(AP.flL p.cy (x.R.take j)).length) (AP.fl p.cy y):=by rw[hr1]at a;exact(a.app).2.app.1
   have hfy:AP.fl p.cy y=cr.flL p.cy y.cells:=by cases y;simp[AP.fl,AP.cells]
   have hyc:y.cells.length<=1048576/\cr.G y.cells:=by cases y;rw[AP.D]at O;exact⟨O.2.1,O.2.2⟩
   rw[hfy]at b d;have KL:∀y z,∀o,o<R->(h_ (h_ T R y) R z) o=T o:=λy z o g=>by rw[AE _ _ (by omega),AE _ _ (by omega)]
   simp[go_sem,G,hy,Yw,AD];generalize hk2:k'+(AP.flL p.cy (x.R.take j)).length=k2 at b d A;refine Av 1 (α:=Nat×(Nat->Prop)×Hp) (λq=>[(3,.fn (.yield yl) [] []),(6,.ptr m 0),(22,AK l),(23,AA l.length),(24,AA i),(45,Aw x.R),(46,AA x.R.length),(47,AA j),(52,BZ y.cells),(53,AA y.cells.length),(54,AA q.1)]) (λq=>q.2.2)
    (λq m'=>q.1<=y.cells.length/\Ju J D h m [(m,.cells [.bool p.body,.bool p.note,AA p.tables])] (k2+(cr.flL p.cy (y.cells.take q.1)).length) q.2.1 q.2.2 m') (λq=>y.cells.length-q.1) (0,D3,_) ?_ ?_ AC ?_
   exact⟨Nat.zero_le _,by dsimp only;rw[List.take_zero,cr.flL];exact A.more Y (Nat.le_succ R) (KL _ _)⟩;simp[Ao];clear KL;rintro⟨q,D4,h4⟩ S ⟨hq,Q⟩;dsimp only at hq Q ⊢;obtain⟨hp4,_,hne4,_⟩:=Q.own _ (qy.2 rfl);dsimp only at hp4 hne4;have I:m≠S:=by omega
   by_cases K:q<y.cells.length;have w3:=wS q (by omega);obtain⟨z,hz⟩:∃z,y.cells[q]=z:=⟨_,rfl⟩
   have hzm:z∈y.cells:=by rw[<-hz];exact qi K
   have P:=Sb hyc.2 z hzm;obtain⟨r3,X,Z⟩:=cr.flL_take p.cy y.cells q K;rw[hz]at X Z;have hfz:cr.fl p.cy z=Eh z.id z.W p.cy:=by cases z;simp[cr.fl,Eh,cr.id,cr.W]
   have F:k2+(cr.flL p.cy (y.cells.take (q+1))).length=k2+(cr.flL p.cy (y.cells.take q)).length+(Eh z.id z.W p.cy).length:=by rw[Z,hfz];simp;omega
   have L:Vh xs (k2+(cr.flL p.cy (y.cells.take q)).length) (Eh z.id z.W p.cy):=by rw[X,hfz]at b;exact(b.app).2.app.1
   have hzf:z.W.length<=1048576/\AB.G z.W:=by cases z;rw[cr.D]at P;exact⟨P.2.1,P.2.2⟩
   have TD:∀y z,∀o,o<S->(h_ (h_ h4 S y) S z) o=h4 o:=λy z o g=>by rw[AE _ _ (by omega),AE _ _ (by omega)]
   simp[go_sem,K,hz,Us,AD,AE,hp4,I];refine we (ih z.W (by have:=O4 M hym hzm;omega) hzf.1 hzf.2 z.id p.cy _ D4 _ _ (Q.keep Y (Zc S) (TD _ _)) L) ?_;intro v h5 m5 W;rcases Q.step (Zc S) (TD _ _) W with⟨rfl,D5,M5⟩|⟨rfl,V⟩
   simp[go_sem,w3,-Int.natCast_add];exact⟨q+1,by omega,D5,h5,⟨by omega,by rw[F];exact M5⟩,IO,AC⟩;simp[go_sem];exact .inl (Ju.any V);have:q=y.cells.length:=by omega
   subst this;rw[qm]at Q;simp[go_sem,w2,-Int.natCast_add];exact⟨j+1,by omega,D4,h4,⟨by omega,by rw[d];exact Q⟩,IO,AC⟩;have:j=x.R.length:=by omega
   subst this;rw[qm]at A;simp[go_sem,w1,-Int.natCast_add];exact⟨i+1,by omega,D3,T,⟨by omega,by rw[c];exact A⟩,IO,AC⟩;have e:AB.fl p x=[]:=by cases x;simp only[AB.k]at k6 k7;simp[AB.fl,k6,k7]
   simp[go_sem,n,hx,qw,AD,k6,k7,w1,-Int.natCast_add];exact⟨i+1,by omega,D2,_,⟨by omega,by rw[c,e];exact u.more Y (Zc m2) (F8 _ _)⟩,IO,AC⟩
   . have:i=l.length:=by omega
     subst this;simp[go_sem];rw[qm]at u;exact .inl (by have:=u.done (Jx:=Jx);simpa[Eh,qu,Nat.add_comm 1]using this)
 simp[go_sem];exact .inl (Ju.any V)
end
def Fl.ok(f:Fl):Prop:=f.items.length<=1048576/\AB.G f.items
mutual
theorem AB.fl_ok(p:BN):∀x:AB,x.D->∀f∈AB.fl p x,f.ok
 | .mk k c i t hd f r,hs=>by
  rw[AB.D]at hs;rw[AB.fl];split;intro g hg;rcases qt.1 hg with rfl|hg;exact⟨hs.2.2.1,hs.2.2.2.2.1⟩;exact AB.flL_ok p.inNote f hs.2.2.2.2.1 g hg;split;exact AP.flL_ok p.cy r hs.2.2.2.2.2;simp
theorem AB.flL_ok(p:BN):∀l:List AB,AB.G l->∀f∈AB.flL p l,f.ok
 | [],_=>by simp[AB.flL]
 | x::l,hs=>by
  rw[AB.G]at hs;intro g hg;rw[AB.flL]at hg;rcases qd.1 hg with hg|hg;exact AB.fl_ok p x hs.1 g hg;exact AB.flL_ok p l hs.2 g hg
theorem AP.fl_ok(p:BN):∀x:AP,x.D->∀f∈AP.fl p x,f.ok
 | .mk hd c,hs=>by rw[AP.D]at hs;rw[AP.fl];exact cr.flL_ok p c hs.2.2
theorem AP.flL_ok(p:BN):∀l:List AP,AP.G l->∀f∈AP.flL p l,f.ok
 | [],_=>by simp[AP.flL]
 | x::l,hs=>by
  rw[AP.G]at hs;intro g hg;rw[AP.flL]at hg;rcases qd.1 hg with hg|hg;exact AP.fl_ok p x hs.1 g hg;exact AP.flL_ok p l hs.2 g hg
theorem cr.fl_ok(p:BN):∀x:cr,x.D->∀f∈cr.fl p x,f.ok
 | .mk i hd f,hs=>by
  rw[cr.D]at hs;rw[cr.fl];intro g hg;rcases qt.1 hg with rfl|hg;exact⟨hs.2.1,hs.2.2⟩;exact AB.flL_ok p f hs.2.2 g hg
theorem cr.flL_ok(p:BN):∀l:List cr,cr.G l->∀f∈cr.flL p l,f.ok
 | [],_=>by simp[cr.flL]
 | x::l,hs=>by
  rw[cr.G]at hs;intro g hg;rw[cr.flL]at hg;rcases qd.1 hg with hg|hg;exact cr.fl_ok p x hs.1 g hg;exact cr.flL_ok p l hs.2 g hg
end
theorem KB{id:Int}{l:List AB}{p:BN}(hl:l.length<=1048576)(a:AB.G l):∀f∈Eh id l p,f.ok:=by
 intro g hg;rcases qt.1 hg with rfl|hg;exact⟨hl,a⟩;exact AB.flL_ok p l a g hg
section
variable{E:CC}{yl:Nat}{xs:List Fl}{J:Nat->(Nat->Prop)->Hp->Nat->Prop}{Jx:(Nat->Prop)->Hp->Nat->Prop}
theorem fy(Y:YJ E yl Fl.e xs J Jx)(l:List AB)(hl:l.length<=1048576)(c:AB.G l)(id:Int)(p:BN)(k:Nat)(D:Nat->Prop)(h:Hp)(m:Nat)(b:J k D h m)(a:Vh xs k (Eh id l p)):
 Ap E prog 247 [.fn (.yield yl) [] [],.q [AA id],.q [AK l],.q [.bool p.body,.bool p.note,AA p.tables]] h m (λ_ h' m'=>∃v,HN (J (k+(Eh id l p).length)) Jx D h m v h' m'):=by
 refine gq func247 rfl λho=>?_;simp[go_sem];refine we (gB Y (SizeOf.sizeOf l+1) l (qY _) hl c id p k D h m b a) ?_;intro v h' m' W;simp[go_sem];exact .inl ⟨v,W⟩
end
theorem AZ{h' h:Hp}{k o:Nat}{cs:List SV}(hn:h o=none)(b:h' o=some (.cells cs)):Fz h' h (k+1) (.ptr o 0) (.q cs):=by
 refine .inr ⟨hn,cs,b,by simp,?_⟩;have:∀l:List SV,Ag (Fz h' h k) l l:=by
  intro l;induction l with
  | nil=>trivial
  | cons a l ih=>exact⟨IO,ih⟩
 simpa using this cs
theorem fL(id:Int)(l:List AB)(p:BN):PC 173 [AA id,AK l,p.e] (.fn (.func 247) [] [.q [AA id],.q [AK l],.q [.bool p.body,.bool p.note,AA p.tables]]):=by
 intro h n;refine gq func173 rfl λa=>?_;simp[go_sem,BN.e];refine Dj 3 a (by repeat(first|exact AC|refine AR a (by omega) ?_)) ?_ (by simp[cc,ca,AB.E.ca]);have h0:=a.none (qa n);have h1:=a.none (Zc n);have h2:=a.none (show n<=n+1+1 by omega);exact .inr ⟨rfl,trivial,AZ h0 (by simp[h_,qu]),AZ h1 (by simp[h_,qu]),AZ h2 (by simp[h_,qu]),trivial⟩
def Ko:BN:=⟨true,false,0⟩
theorem pi(d:AG):PC 109 [d.e] (.fn (.func 247) [] [.q [AA 0],.q [AK d.W],.q [.bool true,.bool false,AA 0]]):=by
 intro h n;refine gq func109 rfl λa=>?_;simp[go_sem,AG.e,AF.g,AI.g,AD];refine(fL 0 d.W Ko).use ?_;simp[go_sem];exact A3 a (by repeat(first|exact AC|refine AR a (by omega) ?_)) rfl (by simp[cc,ca,AB.E.ca])
def Ew(d:AG):List Fl:=Eh 0 d.W Ko
def Eg(d:AG)(id:Int):Option Fl:=(Ew d).find? λf=>decide (f.id=id)
theorem c34(d:AG)(id:Int)(hl:d.W.length<=1048576)(U:AB.G d.W):PC 34 [d.e,AA id] (.tup [AK (((Eg d id).map Fl.items).getD []),.bool (Eg d id).isSome]):=by
 intro h n;refine jE func34 rfl (by kernel_rfl) (by kernel_rfl) (by simp[go_sem]) λM B=>?_;simp[go_sem,AG.e,AF.g,AI.g,AD,AE,qu];refine qz (by simpa[AG.e,AF.g,AI.g]using pi d) ?_;simp[go_sem];generalize F:h_ (h_ (h_ (h_ h n _) (n+1) _) (n+2) _) (n+3) _=H;refine Et rfl rfl rfl λE1 l R X=>?_;have h1:H (n+1)=some (.cells [AA id]):=by rw[<-F];simp[h_]
 have h2:H (n+2)=some (.cells [.i 0 [] true]):=by rw[<-F];simp[h_]
 have V:H (n+3)=some (.cells [.bool false]):=by rw[<-F];simp[h_]
 have BV:∀o,o<n->H o=h o:=λo g=>by rw[<-F];rw[AE _ _ (by omega),AE _ _ (by omega),AE _ _ (by omega),AE _ _ (by omega)]
 clear F;let C:Nat->Prop:=λo=>n<=o/\o<=n+4;let J:Nat->(Nat->Prop)->Hp->Nat->Prop:=λk D c m=>D=C/\n+4<m/\c (n+1)=some (.cells [AA id])/\c (n+2)=some (.cells [.i 0 [] true])/\c (n+3)=some (.cells [.bool false])/\c (n+4)=some (.loop (R .ready none))/\∀x∈(Ew d).take k,x.id≠id;let Jx:(Nat->Prop)->Hp->Nat->Prop:=λD c m=>D=C/\n+4<m/\∃x,Eg d id=some x/\c (n+2)=some (.cells [AK x.items])/\c (n+3)=some (.cells [.bool true])/\c (n+4)=some (.loop (R .done (some .ret)));have Y:YJ E1 l Fl.e (Ew d) J Jx:=by
  refine⟨λk x D c m A W=>?_,?_,?_⟩;obtain⟨rfl,K,q,j,g3,t,z⟩:=W;refine X _ _ _ _ t rfl (Je ?_);have O:x∈Ew d:=U1 A;have I:x.ok:=KB hl U x O;have P:n+1≠m:=by omega
  have Q:n+2≠m:=by omega
  have S:n+3≠m:=by omega
  have T:n+4≠m:=by omega
  have N:=T.symm;simp[go_sem,J0,Fl.e,AD,AE,t,T,q,P];by_cases r:x.id=id;have u:Eg d id=some x:=by
   obtain⟨G,w⟩:=qh.1 A;have s:Ew d=(Ew d).take k++x::(Ew d).drop (k+1):=by rw[<-w,List.getElem_cons_drop,qM]
   rw[Eg,s,List.find?_append];have:((Ew d).take k).find? (λf=>decide (f.id=id))=none:=List.find?_eq_none.2 λy p=>by simpa using z y p
   rw[this];simp[r]
  simp[go_sem,r,AD,AE,N];refine(bP _ I.1 I.2).use ?_;simp[go_sem,AD,AE,j,Q,g3,S,Hg];refine⟨by omega,C,λo g=>.inl g,λo q j=>?_,.inr ⟨rfl,rfl,by omega,x,u,?_⟩⟩;have:¬(n<=o/\o<=n+4):=q;simp only[h_];rw[if_neg (by omega),if_neg (by omega),if_neg (by omega),if_neg (by omega),if_neg (by omega),if_neg (by omega)];simp[h_];simp[go_sem,r,Hg,AD];refine⟨by omega,C,λo g=>.inl g,λo q j=>?_,.inl ⟨rfl,rfl,by omega,?_,?_,?_,?_,λy p=>?_⟩⟩;have:¬(n<=o/\o<=n+4):=q;simp only[h_];rw[if_neg (by omega),if_neg (by omega),if_neg (by omega),if_neg (by omega)];simp[h_,P,q];simp[h_,Q,j];simp[h_,S,g3];simp[h_];obtain⟨G,w⟩:=qh.1 A;rw[qb G,w]at p;rcases qd.1 p with p|p;exact z y p;rw[qy.1 p];exact r;rintro k D c m h' m' ⟨rfl,K,q,j,g3,t,z⟩ Z L;exact⟨rfl,by omega,by rw[L _ ⟨by omega,by omega⟩];exact q,by rw[L _ ⟨by omega,by omega⟩];exact j,by rw[L _ ⟨by omega,by omega⟩];exact g3,by rw[L _ ⟨by omega,by omega⟩];exact t,z⟩;rintro k D c m ⟨rfl,K,_⟩ o ⟨a,b⟩;omega
 refine we (fy Y d.W hl U 0 Ko 0 C _ _ ⟨rfl,by omega,?_,?_,?_,?_,by simp⟩ ⟨[],by simp[Ew]⟩) ?_;rw[AE _ _ (by omega)];exact h1;rw[AE _ _ (by omega)];exact h2;rw[AE _ _ (by omega)];exact V;exact AD _ _ _;rintro _ h' m' ⟨v,Z,D',hDD,c,hv⟩;rcases hv with⟨rfl,rfl,K,q,j,g3,t,z⟩|⟨rfl,rfl,K,x,A,j,g3,t⟩
 refine⟨_,_,t,by simp,?_⟩;simp[go_sem,AD,AE,j,g3];have i:Eg d id=none:=List.find?_eq_none.2 λy p=>by simpa using z y (by simpa[Ew,Ko]using p)
 refine Dj 2 M (λo y e=>?_) (by rw[i];exact .inr ⟨Bj (by simp),IO,trivial⟩) (by rw[i];rfl);have g:=(M o y e).1;rw[AE _ _ (by omega),AE _ _ (by omega),AE _ _ (by omega),c o (λg'=>by have:n<=o/\o<=n+4:=g';omega) (by omega),AE _ _ (by omega),BV o g,e];refine⟨_,_,t,by simp,?_⟩;simp[go_sem,AE,j,g3];refine A3 M (λo y e=>?_) (by rw[A];rfl) (by rw[A];simp[cc,ca,AB.E.ca]);have g:=(M o y e).1;rw[AE _ _ (by omega),c o (λg'=>by have:n<=o/\o<=n+4:=g';omega) (by omega),AE _ _ (by omega),BV o g,e]
def E6:Int->List AB->List (Int×AB)
 | _,[]=>[]
 | a,x::l=>(a,x)::E6 (a+x.units) l
def dy(p:Int×AB):List SV:=[AA p.1,p.2.e]
theorem HU:∀(a:Int)(l:List AB),(E6 a l).length=l.length
 | _,[]=>rfl
 | a,x::l=>by simp[E6,HU _ l]
theorem FM:∀(a:Int)(l:List AB)(k:Nat)(h:k<l.length),(E6 a l)[k]? = some (a+BQ (l.take k),l[k])
 | a,x::l,0,_=>by simp[E6,BQ]
 | a,x::l,k+1,h=>by
  simp only[E6,List.getElem?_cons_succ,YP,BQ,vB];rw[FM _ l k (by simpa using h),Int.add_assoc]
section
variable{E:CC}{yl:Nat}{J:Nat->(Nat->Prop)->Hp->Nat->Prop}{Jx:(Nat->Prop)->Hp->Nat->Prop}
theorem gz(l:List AB)(Y:YJ E yl dy (E6 0 l) J Jx)(hl:l.length<=1048576)(r:∀x∈l,x.x.size<=1048576)(D:Nat->Prop)(h:Hp)(m:Nat)(G:J 0 D h m):
 Ap E prog 312 [.fn (.yield yl) [] [],.q [AK l]] h m (λ_ h' m'=>∃v,HN (J l.length) Jx D h m v h' m'):=by
 refine gq func312 rfl λho=>?_;simp[go_sem];have B:Ju J D h m [] 0 D h m:=⟨qa _,G,by simp,λo g=>.inl g,λ_ _ _=>rfl⟩
 refine Av 1 (α:=Nat×(Nat->Prop)×Hp) (λq=>[(0,.fn (.yield yl) [] []),(3,AA (BQ (l.take q.1))),(8,AK l),(9,AA l.length),(10,AA q.1)]) (λq=>q.2.2)
  (λq m'=>q.1<=l.length/\Ju J D h m [] q.1 q.2.1 q.2.2 m') (λq=>l.length-q.1) (0,D,h) ?_ ?_ AC ?_
 exact⟨qg _,B⟩;simp[Ao,BQ];rintro⟨i,n,h2⟩ m2 ⟨hi,c⟩;dsimp only at hi c ⊢;by_cases a:i<l.length;have w1:=wS i (by omega);obtain⟨x,k⟩:∃x,l[i]=x:=⟨_,rfl⟩
 have f:x∈l:=by rw[<-k];exact qi a
 have Me:=Jh (l.take i) λy I=>r y (qS I);have F8:=x.units_le (r x f);have hlk:((l.take i).length:Int)<=1048576:=by simp;omega
 have s:l.take (i+1)=l.take i++[x]:=by rw[qb a,k]
 have w2:IntKind.i64.wrap (BQ (l.take i)+x.units)=BQ (l.take (i+1)):=by
  rw[DA,s,GA];simp[BQ];omega;have:((l.take i).length:Int)*1048576<=1048576*1048576:=by omega
  omega
 have b:=FM 0 l i a;rw[k,Int.zero_add]at b;have hb:∀y z,∀o,o<m2->(h_ (h_ h2 m2 y) m2 z) o=h2 o:=λy z o g=>by rw[AE _ _ (by omega),AE _ _ (by omega)]
 have d:dy (BQ (l.take i),x)=[AA (BQ (l.take i)),x.e]:=rfl;rw[qw]at d;simp[go_sem,a,k,qw,AD];have e:=λhb K g=>Y.step i _ n hb K b g;rw[d]at e;have p:¬n m2:=λg=>by have:=Y.lt _ _ _ _ c.j _ g;omega
 generalize w:h_ (h_ h2 m2 _) m2 _=H2;have t:Ju J D h m [(m2,.cells [AA x.k,AA x.code,AA x.id,.str x.x,AU x.H.Q,AA x.H.I,AA x.H.move,Ax x.H.Y,Ai x.H.Z,AK x.W,Aw x.R])] i n H2 (m2+1):=
  (c.more Y (Zc m2) (by rw[<-w];exact hb _ _)).add (by rw[<-w];exact AD _ _ _) c.lt (qY m2) p
 refine FV.mono (e _ _ t.j) ?_;intro v F m3 W;rcases t.step (qa _) (λ_ _=>rfl) W with⟨rfl,A,u⟩|⟨rfl,H⟩
 obtain⟨C,_,_,_⟩:=u.own _ (qy.2 rfl);simp[go_sem,C];refine qz (by simpa[qw]using Zn x (r x f)) ?_;simp[go_sem,w1,w2,-Int.natCast_add];exact⟨i+1,by omega,A,F,⟨by omega,u.drop⟩,⟨IO,IO⟩,AC⟩;simp[go_sem];exact .inl ⟨_,Ju.any H⟩
 . have:i=l.length:=by omega
   subst this;simp[go_sem];exact .inl ⟨_,c.done⟩
end
def AB.C_(y:AB)(t:ByteArray):AB:=.mk y.k y.code y.id t y.H y.W y.R
def B7(cu:Int)(s:List AB×List AB)(p:Int×AB):List AB×List AB:=
 if p.1+p.2.units<=cu then(s.1++[p.2],s.2)else if cu<=p.1 then(s.1,s.2++[p.2])else
  (s.1++[p.2.C_ (p.2.x.extract 0 (Be p.2.x (cu-p.1)).1.toNat)],s.2++[p.2.C_ (p.2.x.extract (Be p.2.x (cu-p.1)).1.toNat p.2.x.size)])
def CV(l:List AB)(cu:Int)(k:Nat):List AB×List AB:=((E6 0 l).take k).foldl (B7 cu) ([],[])
def Ad(l:List AB)(cu:Int):List AB×List AB:=CV l cu l.length
theorem If(s:ByteArray):∀k,∀x∈Bh s k,0<=x/\x<k
 | 0,x,h=>by simp[Bh]at h
 | k+1,x,h=>by
  unfold Bh at h;split at h;rcases qd.1 h with h|h;have:=If s k x h;omega;have:=qy.1 h;omega;have:=If s k x h;omega
theorem Q4(s:ByteArray)(u:Int):0<=(Be s u).1/\(Be s u).1<=s.size:=by
 unfold Be;split;simp;split;simp;simp only;rw[Wn];cases h:(Bh s s.size++[(s.size:Int)])[u.toNat]? with
 | none=>simp
 | some x=>
  have:=U1 h;rcases qd.1 this with h|h;have:=If s _ x h;simp;omega;have:=qy.1 h;simp;omega
theorem Fx(l:List AB)(a:Int)(k:Nat)(h:k<l.length):CV l a (k+1)=B7 a (CV l a k) (BQ (l.take k),l[k]):=by
 have hg:=FM 0 l k h;obtain⟨b,c⟩:=qh.1 hg;unfold CV;rw[qb b,UU,c,Int.zero_add];rfl
theorem RB(a:Int)(s:List AB×List AB)(p:Int×AB):(B7 a s p).1.length<=s.1.length+1/\(B7 a s p).2.length<=s.2.length+1:=by
 unfold B7;split;simp;split<;>simp
theorem NZ(l:List AB)(a:Int):∀k,k<=l.length->(CV l a k).1.length<=k/\(CV l a k).2.length<=k
 | 0,_=>by simp[CV]
 | k+1,h=>by
  rw[Fx l a k h];have h1:=RB a (CV l a k) (BQ (l.take k),l[k]);have h2:=NZ l a k (by omega);omega
structure Po(l:List AB)(cu:Int)(n:Nat)(R:LoopState->Option Code->Loop)(k:Nat)(D:Nat->Prop)(hh:Hp)(m:Nat)(oL oR:Option Nat):Prop where
 lt:n+3<m
 cell:hh n=some (.cells [AA cu])
 left:hh (n+1)=some (.cells [AW 11 oL ((CV l cu k).1.map AB.e)])
 right:hh (n+2)=some (.cells [AW 11 oR ((CV l cu k).2.map AB.e)])
 loop:hh (n+3)=some (.loop (R .ready none))
 accL:BR (n+4) m 11 oL ((CV l cu k).1.map AB.e)
 accR:BR (n+4) m 11 oR ((CV l cu k).2.map AB.e)
 ne:∀j,oL=some j->oR≠some j
 objL:∀j,oL=some j->hh j=some (.cells (((CV l cu k).1.map AB.e).flatMap SV.cells))
 objR:∀j,oR=some j->hh j=some (.cells (((CV l cu k).2.map AB.e).flatMap SV.cells))
 dom:D=λo=>(n<=o/\o<=n+3)\/oL=some o\/oR=some o
theorem Po.keep{l:List AB}{f:Int}{n:Nat}{R:LoopState->Option Code->Loop}{k:Nat}{D:Nat->Prop}{b:Hp}{m:Nat}{c d:Option Nat}(H:Po l f n R k D b m c d){h':Hp}{m':Nat}(h:m<=m')(i:∀o,D o->h' o=b o):Po l f n R k D h' m' c d:=by
 have a:∀o,(n<=o/\o<=n+3)\/c=some o\/d=some o->h' o=b o:=λo g=>i o (by rw[H.dom];exact g);exact⟨by have:=H.lt;omega,by rw[a _ (.inl ⟨by omega,by omega⟩)];exact H.cell,by rw[a _ (.inl ⟨by omega,by omega⟩)];exact H.left,by rw[a _ (.inl ⟨by omega,by omega⟩)];exact H.right,by rw[a _ (.inl ⟨by omega,by omega⟩)];exact H.loop,H.accL.mono h,H.accR.mono h,H.ne,
  λj e=>by rw[a j (.inr (.inl e))];exact H.objL j e,λj e=>by rw[a j (.inr (.inr e))];exact H.objR j e,H.dom⟩
theorem Po.dlt{l:List AB}{a:Int}{n:Nat}{R:LoopState->Option Code->Loop}{k:Nat}{D:Nat->Prop}{b:Hp}{m:Nat}{c d:Option Nat}(H:Po l a n R k D b m c d):∀o,D o->o<m:=λo g=>by
 rw[H.dom]at g;have:=H.lt;rcases g with⟨_,g⟩|g|g;omega;exact(H.accL.lt o g).2;exact(H.accR.lt o g).2
theorem Po.fin{l:List AB}{q:Int}{n:Nat}{R:LoopState->Option Code->Loop}{k:Nat}{D:Nat->Prop}{h:Hp}{m:Nat}{r s:Option Nat}(f:Po l q n R k D h m r s){sa:SA}{c:Hp}{m':Nat}{i p:List AB}(d:CV l q (k+1)=(i,p))(a b:Option Nat)(A:m<=m')
 (hc:c n=some (.cells [AA q])) (hl:c (n+1)=some (.cells [AW 11 a (i.map AB.e)])) (B:c (n+2)=some (.cells [AW 11 b (p.map AB.e)])) (hb:c (n+3)=some (.loop (R .busy none)))
 (t:BR (n+4) m' 11 a (i.map AB.e)) (u:BR (n+4) m' 11 b (p.map AB.e))
 (C:∀j,a=some j->r=some j\/m<=j) (E:∀j,b=some j->s=some j\/m<=j) (ne:∀j,a=some j->b≠some j)
 (w:∀j,a=some j->c j=some (.cells ((i.map AB.e).flatMap SV.cells))) (x:∀j,b=some j->c j=some (.cells ((p.map AB.e).flatMap SV.cells)))
 (fr:∀o,¬D o->o<m->c o=h o) (Jx:(Nat->Prop)->Hp->Nat->Prop):
 Hg (n+3) R (HN (λD h m=>∃r s,Po l q n R (k+1) D h m r s) Jx D h m) .normal sa c m':=by
 have hlt:=f.lt;have v:∀o,¬D o->o≠n+3:=λo g e=>g (by rw[f.dom];exact .inl (by omega));refine⟨hb,A,λo=>(n<=o/\o<=n+3)\/a=some o\/b=some o,λo g=>?_,λo y z=>by rw[AE _ _ (v o y)];exact fr o y z,.inl ⟨rfl,a,b,?_⟩⟩;rcases g with g|g|g;exact .inl (by rw[f.dom];exact .inl g);rcases C o g with g'|g';exact .inl (by rw[f.dom];exact .inr (.inl g'));exact .inr ⟨g',(t.lt o g).2⟩;rcases E o g with g'|g';exact .inl (by rw[f.dom];exact .inr (.inr g'));exact .inr ⟨g',(u.lt o g).2⟩;refine⟨by omega,by rw[AE _ _ (by omega)];exact hc,by rw[AE _ _ (by omega),d];exact hl,by rw[AE _ _ (by omega),d];exact B,AD _ _ _,by rw[d];exact t,by rw[d];exact u,ne,λj e=>?_,λj e=>?_,rfl⟩;have:=(t.lt j e).1;rw[AE _ _ (by omega),d];exact w j e;have:=(u.lt j e).1;rw[AE _ _ (by omega),d];exact x j e
theorem gf(l:List AB):PC 285 [AK l] (.fn (.func 312) [] [.q [AK l]]):=by
 intro h n;refine gq func285 rfl λa=>?_;simp[go_sem];exact Dj 3 a (AR a (qa _) AC) (.inr ⟨rfl,trivial,AZ (a.none (qa n)) (by simp[h_]),trivial⟩) (by simp[cc,ca,AB.E.ca])
theorem Ac{α β:Type}(f:α->β)(a:α)(l:List α):List.map f (List.toArray (a::l)).toList=f a::List.map f (List.toArray l).toList:=rfl
theorem Am{α β:Type}(f:α->β):List.map f (List.toArray ([]:List α)).toList=[]:=rfl
theorem Cb:ofValue (.agg #[.int .i64 0,.int .i64 0,.int .i64 0,.string { data:=#[] },.slice none 0 0,.int .i64 0,.int .i64 0,.slice none 0 0,.slice none 0 0,.slice none 0 0,.slice none 0 0])=.agg [.int .i64 0,.int .i64 0,.int .i64 0,.str .empty,.i 0 [] true,.int .i64 0,.int .i64 0,.i 0 [] true,.i 0 [] true,.i 0 [] true,.i 0 [] true]:=rfl
end Go.Proofs.YtgakninlhfkkmaaGreat.Sh
