/- A part of the proof (part 6 of 17). -/
import Derived.Test.YtgakninlhfkkmaaGreatN5
namespace Go.Proofs.YtgakninlhfkkmaaGreat.Sh
abbrev QP:=@AE.nrm_fields
abbrev Uo:=@Wl.nrmL_eq
abbrev kM:=@AE.nrmL_eq
abbrev qC:=@SC.use
open Proofs
set_option maxRecDepth 10000
theorem Mn {l:List AE} {x:AE} (h:x∈l):SizeOf.sizeOf x.flow<SizeOf.sizeOf l:=by
 have:=List.sizeOf_lt_of_mem h;cases x;simp only[AE.flow,AE.mk.sizeOf_spec]at *;omega
theorem Me {l:List AE} {x:AE} {r:Aa} {c:Wl} (h:x∈l) (a:r∈x.rows) (hc:c∈r.cells):SizeOf.sizeOf c.flow<SizeOf.sizeOf l:=by
 have h1:=List.sizeOf_lt_of_mem h;have h2:=List.sizeOf_lt_of_mem a;have h3:=List.sizeOf_lt_of_mem hc;cases x;cases r;cases c;simp only[AE.rows,Aa.cells,Wl.flow,AE.mk.sizeOf_spec,Aa.mk.sizeOf_spec,Wl.mk.sizeOf_spec]at *;omega
section
variable {E : B6} {yl : Nat} {xs : List Fl} {J : Nat → (Nat → Prop) → Hp → Nat → Prop} {Jx : (Nat → Prop) → Hp → Nat → Prop}
theorem aV (Y:YJ E yl Fl.enc xs J Jx):∀(N:Nat) (l:List AE),SizeOf.sizeOf l<N->l.length<=1048576->AE.sizedL l->∀(id:Int) (p:Bl) (k:Nat) (D:Nat->Prop) (h:Hp) (m:Nat),J k D h m->Sc xs k (dK id l p)->
 Ak E Tryz.prog 248 [AA id,AG l,p.enc,.fn (.yield yl) [] []] h m (He (J (k+(dK id l p).length)) Jx D h m):=by
 intro N
 induction N with
 | zero=>intro l h;omega
 | succ N ih=>
 intro l hN hl hs id p k D h m hJ hseg;obtain⟨hx0,t⟩:=hseg.head;refine gq Tryz.func248 rfl λho=>?_;simp[go_sem,Bl.enc,AC];have hD:∀o,D o->o<m:=Y.lt k D h m hJ;have U:J k D (hset h m (some (.cells [.bool p.body,.bool p.note,AA p.tables]))) (m+1):=Y.keep k D h m _ _ hJ (by omega) λo hDo=>AD _ _ (by have:=hD o hDo;omega);have M0:Jq J D h m [(m,.cells [.bool p.body,.bool p.note,AA p.tables])] k D (hset h m (some (.cells [.bool p.body,.bool p.note,AA p.tables]))) (m+1):=
  ⟨by omega,U,by simp[AC];exact λg=>absurd (hD m g) (by omega),λo g=>.inl g,λo _ g=>AD _ _ (by omega)⟩
 refine FJ.mono (Y.step k _ D _ _ hx0 U) ?_;intro v h1 m1 W;rcases M0.step (qa _) (λ_ _=>rfl) W with⟨rfl,D1,M1⟩|⟨rfl,V⟩
 . simp[go_sem];refine An 1 (α:=Nat×(Nat->Prop)×Hp) (λq=>[(3,.fn (.yield yl) [] []),(6,.ptr m 0),(22,AG l),(23,AA l.length),(24,AA q.1)]) (λq=>q.2.2)
    (λq m'=>q.1<=l.length/\Jq J D h m [(m,.cells [.bool p.body,.bool p.note,AA p.tables])] (k+1+(AE.flL p (l.take q.1)).length) q.2.1 q.2.2 m') (λq=>l.length-q.1) (0,D1,h1) ?_ ?_ AB ?_
   exact⟨qg _,by simpa[AE.flL]using M1⟩;simp[Ai];rintro⟨i,D2,h2⟩ m2 ⟨hi,u⟩;dsimp only at hi u ⊢;obtain⟨w,_,hne,_⟩:=u.own _ (qv.2 rfl);dsimp only at w hne;have s:m≠m2:=by omega
   by_cases n:i<l.length;have w1:=wS i (by omega);obtain⟨x,hx⟩:∃x,l[i]=x:=⟨_,rfl⟩
   have M:x∈l:=by rw[<-hx];exact ql n
   have f:=ka hs x M;obtain⟨r,B,C⟩:=AE.flL_take p l i n;rw[hx]at B C;have c:k+1+(AE.flL p (l.take (i+1))).length=k+1+(AE.flL p (l.take i)).length+(AE.fl p x).length:=by rw[C];simp;omega
   have a:Sc xs (k+1+(AE.flL p (l.take i)).length) (AE.fl p x):=by rw[B]at t;exact(t.app).2.app.1
   have Hn:∀y z,∀o,o<m2->(hset (hset h2 m2 y) m2 z) o=h2 o:=λy z o g=>by rw[AD _ _ (by omega),AD _ _ (by omega)]
   by_cases k6:x.kind=6;have e:AE.fl p x=dK x.id x.flow p.inNote:=by cases x;simp only[AE.kind]at k6;simp[AE.fl,k6,dK,AE.id,AE.flow]
   have hxf:x.flow.length<=1048576/\AE.sizedL x.flow:=by cases x;rw[AE.sized]at f;exact⟨f.2.2.1,f.2.2.2.2.1⟩
   simp[go_sem,n,hx,qx,AC,AD,k6,w,s];refine kS (ih x.flow (by have:=Mn M;omega) hxf.1 hxf.2 x.id p.inNote _ D2 _ _ (u.keep Y (je m2) (Hn _ _)) (by rw[<-e];exact a)) ?_;intro v T R W;rcases u.step (je m2) (Hn _ _) W with⟨rfl,D3,A⟩|⟨rfl,V⟩
   simp[go_sem,w1,-Int.natCast_add];exact⟨i+1,by omega,D3,T,⟨by omega,by rw[c,e];exact A⟩,IO,AB⟩;simp[go_sem];exact .inl (Jq.any V);by_cases k7:x.kind=7;simp[go_sem,n,hx,qx,AC,k7];have e:AE.fl p x=Aa.flL p.inTable x.rows:=by cases x;simp only[AE.kind]at k6 k7;simp[AE.fl,k7,AE.rows]
   have hxr:x.rows.length<=1048576/\Aa.sizedL x.rows:=by cases x;rw[AE.sized]at f;exact⟨f.2.2.2.1,f.2.2.2.2.2⟩
   rw[e]at a c;generalize hk':k+1+(AE.flL p (l.take i)).length=k' at a c u;refine An 1 (α:=Nat×(Nat->Prop)×Hp) (λq=>[(3,.fn (.yield yl) [] []),(6,.ptr m 0),(22,AG l),(23,AA l.length),(24,AA i),(45,A3 x.rows),(46,AA x.rows.length),(47,AA q.1)]) (λq=>q.2.2)
    (λq m'=>q.1<=x.rows.length/\Jq J D h m [(m,.cells [.bool p.body,.bool p.note,AA p.tables])] (k'+(Aa.flL p.inTable (x.rows.take q.1)).length) q.2.1 q.2.2 m') (λq=>x.rows.length-q.1) (0,D2,_) ?_ ?_ AB ?_
   exact⟨Nat.zero_le _,by dsimp only;rw[List.take_zero,Aa.flL];exact u.more Y (Nat.le_succ m2) (Hn _ _)⟩;simp[Ai];clear Hn;rintro⟨j,D3,T⟩ R ⟨hj,A⟩;dsimp only at hj A ⊢;obtain⟨hp3,_,hne3,_⟩:=A.own _ (qv.2 rfl);dsimp only at hp3 hne3;have H:m≠R:=by omega
   by_cases G:j<x.rows.length;have w2:=wS j (by omega);obtain⟨y,hy⟩:∃y,x.rows[j]=y:=⟨_,rfl⟩
   have hym:y∈x.rows:=by rw[<-hy];exact ql G
   have O:=Aa.sizedL_mem hxr.2 y hym;obtain⟨r2,hr1,hr2⟩:=Aa.flL_take p.inTable x.rows j G;rw[hy]at hr1 hr2;have d:k'+(Aa.flL p.inTable (x.rows.take (j+1))).length=k'+(Aa.flL p.inTable (x.rows.take j)).length+(Aa.fl p.inTable y).length:=by rw[hr2];simp;omega
   have b:Sc xs (k'+(Aa.flL p.inTable (x.rows.take j)).length) (Aa.fl p.inTable y):=by rw[hr1]at a;exact(a.app).2.app.1
   have hfy:Aa.fl p.inTable y=Wl.flL p.inTable y.cells:=by cases y;simp[Aa.fl,Aa.cells]
   have hyc:y.cells.length<=1048576/\Wl.sizedL y.cells:=by cases y;rw[Aa.sized]at O;exact⟨O.2.1,O.2.2⟩
   rw[hfy]at b d;have TT:∀y z,∀o,o<R->(hset (hset T R y) R z) o=T o:=λy z o g=>by rw[AD _ _ (by omega),AD _ _ (by omega)]
   simp[go_sem,G,hy,qQ,AC];generalize hk2:k'+(Aa.flL p.inTable (x.rows.take j)).length=k2 at b d A;refine An 1 (α:=Nat×(Nat->Prop)×Hp) (λq=>[(3,.fn (.yield yl) [] []),(6,.ptr m 0),(22,AG l),(23,AA l.length),(24,AA i),(45,A3 x.rows),(46,AA x.rows.length),(47,AA j),(52,BS y.cells),(53,AA y.cells.length),(54,AA q.1)]) (λq=>q.2.2)
    (λq m'=>q.1<=y.cells.length/\Jq J D h m [(m,.cells [.bool p.body,.bool p.note,AA p.tables])] (k2+(Wl.flL p.inTable (y.cells.take q.1)).length) q.2.1 q.2.2 m') (λq=>y.cells.length-q.1) (0,D3,_) ?_ ?_ AB ?_
   exact⟨Nat.zero_le _,by dsimp only;rw[List.take_zero,Wl.flL];exact A.more Y (Nat.le_succ R) (TT _ _)⟩;simp[Ai];clear TT;rintro⟨q,D4,h4⟩ S ⟨hq,Q⟩;dsimp only at hq Q ⊢;obtain⟨hp4,_,hne4,_⟩:=Q.own _ (qv.2 rfl);dsimp only at hp4 hne4;have I:m≠S:=by omega
   by_cases K:q<y.cells.length;have w3:=wS q (by omega);obtain⟨z,hz⟩:∃z,y.cells[q]=z:=⟨_,rfl⟩
   have hzm:z∈y.cells:=by rw[<-hz];exact ql K
   have P:=Wl.sizedL_mem hyc.2 z hzm;obtain⟨r3,X,Z⟩:=Wl.flL_take p.inTable y.cells q K;rw[hz]at X Z;have hfz:Wl.fl p.inTable z=dK z.id z.flow p.inTable:=by cases z;simp[Wl.fl,dK,Wl.id,Wl.flow]
   have F:k2+(Wl.flL p.inTable (y.cells.take (q+1))).length=k2+(Wl.flL p.inTable (y.cells.take q)).length+(dK z.id z.flow p.inTable).length:=by rw[Z,hfz];simp;omega
   have L:Sc xs (k2+(Wl.flL p.inTable (y.cells.take q)).length) (dK z.id z.flow p.inTable):=by rw[X,hfz]at b;exact(b.app).2.app.1
   have hzf:z.flow.length<=1048576/\AE.sizedL z.flow:=by cases z;rw[Wl.sized]at P;exact⟨P.2.1,P.2.2⟩
   have ZP:∀y z,∀o,o<S->(hset (hset h4 S y) S z) o=h4 o:=λy z o g=>by rw[AD _ _ (by omega),AD _ _ (by omega)]
   simp[go_sem,K,hz,QS,AC,AD,hp4,I];refine kS (ih z.flow (by have:=Me M hym hzm;omega) hzf.1 hzf.2 z.id p.inTable _ D4 _ _ (Q.keep Y (je S) (ZP _ _)) L) ?_;intro v h5 m5 W;rcases Q.step (je S) (ZP _ _) W with⟨rfl,D5,M5⟩|⟨rfl,V⟩
   simp[go_sem,w3,-Int.natCast_add];exact⟨q+1,by omega,D5,h5,⟨by omega,by rw[F];exact M5⟩,IO,AB⟩;simp[go_sem];exact .inl (Jq.any V);have:q=y.cells.length:=by omega
   subst this;rw[qi]at Q;simp[go_sem,w2,-Int.natCast_add];exact⟨j+1,by omega,D4,h4,⟨by omega,by rw[d];exact Q⟩,IO,AB⟩;have:j=x.rows.length:=by omega
   subst this;rw[qi]at A;simp[go_sem,w1,-Int.natCast_add];exact⟨i+1,by omega,D3,T,⟨by omega,by rw[c];exact A⟩,IO,AB⟩;have e:AE.fl p x=[]:=by cases x;simp only[AE.kind]at k6 k7;simp[AE.fl,k6,k7]
   simp[go_sem,n,hx,qx,AC,k6,k7,w1,-Int.natCast_add];exact⟨i+1,by omega,D2,_,⟨by omega,by rw[c,e];exact u.more Y (je m2) (Hn _ _)⟩,IO,AB⟩
   . have:i=l.length:=by omega
     subst this;simp[go_sem];rw[qi]at u;exact .inl (by have:=u.done (Jx:=Jx);simpa[dK,qD,Nat.add_comm 1]using this)
 simp[go_sem];exact .inl (Jq.any V)
end
def Fl.ok (f:Fl):Prop:=f.items.length<=1048576/\AE.sizedL f.items
mutual
theorem AE.fl_ok (p:Bl):∀x:AE,x.sized->∀f∈AE.fl p x,f.ok
 | .mk k c i t hd f r,hs=>by
  rw[AE.sized]at hs;rw[AE.fl];split;intro g a;rcases qk.1 a with rfl|a;exact⟨hs.2.2.1,hs.2.2.2.2.1⟩;exact AE.flL_ok p.inNote f hs.2.2.2.2.1 g a;split;exact Aa.flL_ok p.inTable r hs.2.2.2.2.2;simp
theorem AE.flL_ok (p:Bl):∀l:List AE,AE.sizedL l->∀f∈AE.flL p l,f.ok
 | [],_=>by simp[AE.flL]
 | x::l,hs=>by
  rw[AE.sizedL]at hs;intro g a;rw[AE.flL]at a;rcases qe.1 a with a|a;exact AE.fl_ok p x hs.1 g a;exact AE.flL_ok p l hs.2 g a
theorem Aa.fl_ok (p:Bl):∀x:Aa,x.sized->∀f∈Aa.fl p x,f.ok
 | .mk hd c,hs=>by rw[Aa.sized]at hs;rw[Aa.fl];exact Wl.flL_ok p c hs.2.2
theorem Aa.flL_ok (p:Bl):∀l:List Aa,Aa.sizedL l->∀f∈Aa.flL p l,f.ok
 | [],_=>by simp[Aa.flL]
 | x::l,hs=>by
  rw[Aa.sizedL]at hs;intro g a;rw[Aa.flL]at a;rcases qe.1 a with a|a;exact Aa.fl_ok p x hs.1 g a;exact Aa.flL_ok p l hs.2 g a
theorem Wl.fl_ok (p:Bl):∀x:Wl,x.sized->∀f∈Wl.fl p x,f.ok
 | .mk i hd f,hs=>by
  rw[Wl.sized]at hs;rw[Wl.fl];intro g a;rcases qk.1 a with rfl|a;exact⟨hs.2.1,hs.2.2⟩;exact AE.flL_ok p f hs.2.2 g a
theorem Wl.flL_ok (p:Bl):∀l:List Wl,Wl.sizedL l->∀f∈Wl.flL p l,f.ok
 | [],_=>by simp[Wl.flL]
 | x::l,hs=>by
  rw[Wl.sizedL]at hs;intro g a;rw[Wl.flL]at a;rcases qe.1 a with a|a;exact Wl.fl_ok p x hs.1 g a;exact Wl.flL_ok p l hs.2 g a
end
theorem LU {id:Int} {l:List AE} {p:Bl} (hl:l.length<=1048576) (b:AE.sizedL l):∀f∈dK id l p,f.ok:=by
 intro g a;rcases qk.1 a with rfl|a;exact⟨hl,b⟩;exact AE.flL_ok p l b g a
section
variable {E : B6} {yl : Nat} {xs : List Fl} {J : Nat → (Nat → Prop) → Hp → Nat → Prop} {Jx : (Nat → Prop) → Hp → Nat → Prop}
theorem aU (Y:YJ E yl Fl.enc xs J Jx) (l:List AE) (hl:l.length<=1048576) (c:AE.sizedL l) (id:Int) (p:Bl) (k:Nat) (D:Nat->Prop) (h:Hp) (m:Nat) (b:J k D h m) (a:Sc xs k (dK id l p)):
 Ak E Tryz.prog 247 [.fn (.yield yl) [] [],.iptr [AA id],.iptr [AG l],.iptr [.bool p.body,.bool p.note,AA p.tables]] h m (λ_ h' m'=>∃v,He (J (k+(dK id l p).length)) Jx D h m v h' m'):=by
 refine gq Tryz.func247 rfl λho=>?_;simp[go_sem];refine kS (aV Y (SizeOf.sizeOf l+1) l (qP _) hl c id p k D h m b a) ?_;intro v h' m' W;simp[go_sem];exact .inl ⟨v,W⟩
end
theorem AV {h' h:Hp} {k o:Nat} {cs:List SV} (hn:h o=none) (b:h' o=some (.cells cs)):Fz h' h (k+1) (.ptr o 0) (.iptr cs):=by
 refine .inr ⟨hn,cs,b,by simp,?_⟩;have:∀l:List SV,AZ (Fz h' h k) l l:=by
  intro l;induction l with
  | nil=>trivial
  | cons a l ih=>exact⟨IO,ih⟩
 simpa using this cs
theorem Z7 (id:Int) (l:List AE) (p:Bl):PC 173 [AA id,AG l,p.enc] (.fn (.func 247) [] [.iptr [AA id],.iptr [AG l],.iptr [.bool p.body,.bool p.note,AA p.tables]]):=by
 intro h n;refine gq Tryz.func173 rfl λa=>?_;simp[go_sem,Bl.enc];refine Dy 3 a (by repeat(first|exact AB|refine AQ a (by omega) ?_)) ?_ (by simp[closed,closedL,AE.E.closedL]);have h0:=a.none (qa n);have b:=a.none (je n);have h2:=a.none (show n<=n+1+1 by omega);exact .inr ⟨rfl,trivial,AV h0 (by simp[hset,qD]),AV b (by simp[hset,qD]),AV h2 (by simp[hset,qD]),trivial⟩
def GN:Bl:=⟨true,false,0⟩
theorem Zo (d:AI):PC 109 [d.enc] (.fn (.func 247) [] [.iptr [AA 0],.iptr [AG d.flow],.iptr [.bool true,.bool false,AA 0]]):=by
 intro h n;refine gq Tryz.func109 rfl λa=>?_;simp[go_sem,AI.enc,AF.flat,AK.flat,AC];refine(Z7 0 d.flow GN).use ?_;simp[go_sem];exact Ay a (by repeat(first|exact AB|refine AQ a (by omega) ?_)) rfl (by simp[closed,closedL,AE.E.closedL])
def Dt (d:AI):List Fl:=dK 0 d.flow GN
def D9 (d:AI) (id:Int):Option Fl:=(Dt d).find? λf=>decide (f.id=id)
theorem c34 (d:AI) (id:Int) (hl:d.flow.length<=1048576) (V:AE.sizedL d.flow):PC 34 [d.enc,AA id] (.tup [AG (((D9 d id).map Fl.items).getD []),.bool (D9 d id).isSome]):=by
 intro h n;refine cA Tryz.func34 rfl (by kernel_rfl) (by kernel_rfl) (by simp[go_sem]) λN B=>?_;simp[go_sem,AI.enc,AF.flat,AK.flat,AC,AD,qD];refine qw (by simpa[AI.enc,AF.flat,AK.flat]using Zo d) ?_;simp[go_sem];generalize G:hset (hset (hset (hset h n _) (n+1) _) (n+2) _) (n+3) _=H;refine Fa rfl rfl rfl λE1 l R hY=>?_;have W:H (n+1)=some (.cells [AA id]):=by rw[<-G];simp[hset]
 have h2:H (n+2)=some (.cells [.imm 0 [] true]):=by rw[<-G];simp[hset]
 have X:H (n+3)=some (.cells [.bool false]):=by rw[<-G];simp[hset]
 have BE:∀o,o<n->H o=h o:=λo g=>by rw[<-G];rw[AD _ _ (by omega),AD _ _ (by omega),AD _ _ (by omega),AD _ _ (by omega)]
 clear G;let F:Nat->Prop:=λo=>n<=o/\o<=n+4;let J:Nat->(Nat->Prop)->Hp->Nat->Prop:=λk D c m=>D=F/\n+4<m/\c (n+1)=some (.cells [AA id])/\c (n+2)=some (.cells [.imm 0 [] true])/\c (n+3)=some (.cells [.bool false])/\c (n+4)=some (.loop (R .ready none))/\∀x∈(Dt d).take k,x.id≠id;let Jx:(Nat->Prop)->Hp->Nat->Prop:=λD c m=>D=F/\n+4<m/\∃x,D9 d id=some x/\c (n+2)=some (.cells [AG x.items])/\c (n+3)=some (.cells [.bool true])/\c (n+4)=some (.loop (R .done (some .ret)));have Y:YJ E1 l Fl.enc (Dt d) J Jx:=by
  refine⟨λk x D c m C Z=>?_,?_,?_⟩;obtain⟨rfl,L,q,j,t,u,A⟩:=Z;refine hY _ _ _ _ u rfl (Ii ?_);have P:x∈Dt d:=jb C;have K:x.ok:=LU hl V x P;have Q:n+1≠m:=by omega
  have S:n+2≠m:=by omega
  have T:n+3≠m:=by omega
  have U:n+4≠m:=by omega
  have O:=U.symm;simp[go_sem,Jp,Fl.enc,AC,AD,u,U,q,Q];by_cases r:x.id=id;have w:D9 d id=some x:=by
   obtain⟨I,z⟩:=qo.1 C;have s:Dt d=(Dt d).take k++x::(Dt d).drop (k+1):=by rw[<-z,Q6,ja]
   rw[D9,s,List.find?_append];have:((Dt d).take k).find? (λf=>decide (f.id=id))=none:=List.find?_eq_none.2 λy p=>by simpa using A y p
   rw[this];simp[r]
  simp[go_sem,r,AC,AD,O];refine(XS _ K.1 K.2).use ?_;simp[go_sem,AC,AD,j,S,t,T,ID];refine⟨by omega,F,λo g=>.inl g,λo q j=>?_,.inr ⟨rfl,rfl,by omega,x,w,?_⟩⟩;have:¬(n<=o/\o<=n+4):=q;simp only[hset];rw[if_neg (by omega),if_neg (by omega),if_neg (by omega),if_neg (by omega),if_neg (by omega),if_neg (by omega)];simp[hset];simp[go_sem,r,ID,AC];refine⟨by omega,F,λo g=>.inl g,λo q j=>?_,.inl ⟨rfl,rfl,by omega,?_,?_,?_,?_,λy p=>?_⟩⟩;have:¬(n<=o/\o<=n+4):=q;simp only[hset];rw[if_neg (by omega),if_neg (by omega),if_neg (by omega),if_neg (by omega)];simp[hset,Q,q];simp[hset,S,j];simp[hset,T,t];simp[hset];obtain⟨I,z⟩:=qo.1 C;rw[qb I,z]at p;rcases qe.1 p with p|p;exact A y p;rw[qv.1 p];exact r;rintro k D c m h' m' ⟨rfl,L,q,j,t,u,A⟩ hm M;exact⟨rfl,by omega,by rw[M _ ⟨by omega,by omega⟩];exact q,by rw[M _ ⟨by omega,by omega⟩];exact j,by rw[M _ ⟨by omega,by omega⟩];exact t,by rw[M _ ⟨by omega,by omega⟩];exact u,A⟩;rintro k D c m ⟨rfl,L,_⟩ o ⟨a,b⟩;omega
 refine kS (aU Y d.flow hl V 0 GN 0 F _ _ ⟨rfl,by omega,?_,?_,?_,?_,by simp⟩ ⟨[],by simp[Dt]⟩) ?_;rw[AD _ _ (by omega)];exact W;rw[AD _ _ (by omega)];exact h2;rw[AD _ _ (by omega)];exact X;exact AC _ _ _;rintro _ h' m' ⟨v,hm,D',hDD,c,hv⟩;rcases hv with⟨rfl,rfl,L,q,j,t,u,A⟩|⟨rfl,rfl,L,x,C,j,t,u⟩
 refine⟨_,_,u,by simp,?_⟩;simp[go_sem,AC,AD,j,t];have i:D9 d id=none:=List.find?_eq_none.2 λy p=>by simpa using A y (by simpa[Dt,GN]using p)
 refine Dy 2 N (λo y e=>?_) (by rw[i];exact .inr ⟨BC (by simp),IO,trivial⟩) (by rw[i];rfl);have g:=(N o y e).1;rw[AD _ _ (by omega),AD _ _ (by omega),AD _ _ (by omega),c o (λg'=>by have:n<=o/\o<=n+4:=g';omega) (by omega),AD _ _ (by omega),BE o g,e];refine⟨_,_,u,by simp,?_⟩;simp[go_sem,AD,j,t];refine Ay N (λo y e=>?_) (by rw[C];rfl) (by rw[C];simp[closed,closedL,AE.E.closedL]);have g:=(N o y e).1;rw[AD _ _ (by omega),c o (λg'=>by have:n<=o/\o<=n+4:=g';omega) (by omega),AD _ _ (by omega),BE o g,e]
def F8:Int->List AE->List (Int×AE)
 | _,[]=>[]
 | a,x::l=>(a,x)::F8 (a+x.units) l
def ZL (p:Int×AE):List SV:=[AA p.1,p.2.enc]
theorem KV:∀(a:Int) (l:List AE),(F8 a l).length=l.length
 | _,[]=>rfl
 | a,x::l=>by simp[F8,KV _ l]
theorem Ge:∀(a:Int) (l:List AE) (k:Nat) (h:k<l.length),(F8 a l)[k]? = some (a+CI (l.take k),l[k])
 | a,x::l,0,_=>by simp[F8,CI]
 | a,x::l,k+1,h=>by
  simp only[F8,List.getElem?_cons_succ,jl,CI,ju];rw[Ge _ l k (by simpa using h),Int.add_assoc]
section
variable {E : B6} {yl : Nat} {J : Nat → (Nat → Prop) → Hp → Nat → Prop} {Jx : (Nat → Prop) → Hp → Nat → Prop}
theorem az (l:List AE) (Y:YJ E yl ZL (F8 0 l) J Jx) (hl:l.length<=1048576) (r:∀x∈l,x.text.size<=1048576) (D:Nat->Prop) (h:Hp) (m:Nat) (G:J 0 D h m):
 Ak E Tryz.prog 312 [.fn (.yield yl) [] [],.iptr [AG l]] h m (λ_ h' m'=>∃v,He (J l.length) Jx D h m v h' m'):=by
 refine gq Tryz.func312 rfl λho=>?_;simp[go_sem];have B:Jq J D h m [] 0 D h m:=⟨qa _,G,by simp,λo g=>.inl g,λ_ _ _=>rfl⟩
 refine An 1 (α:=Nat×(Nat->Prop)×Hp) (λq=>[(0,.fn (.yield yl) [] []),(3,AA (CI (l.take q.1))),(8,AG l),(9,AA l.length),(10,AA q.1)]) (λq=>q.2.2)
  (λq m'=>q.1<=l.length/\Jq J D h m [] q.1 q.2.1 q.2.2 m') (λq=>l.length-q.1) (0,D,h) ?_ ?_ AB ?_
 exact⟨qg _,B⟩;simp[Ai,CI];rintro⟨i,n,h2⟩ m2 ⟨hi,c⟩;dsimp only at hi c ⊢;by_cases a:i<l.length;have w1:=wS i (by omega);obtain⟨x,k⟩:∃x,l[i]=x:=⟨_,rfl⟩
 have f:x∈l:=by rw[<-k];exact ql a
 have WI:=Ik (l.take i) λy I=>r y (qH I);have Hn:=x.units_le (r x f);have hlk:((l.take i).length:Int)<=1048576:=by simp;omega
 have s:l.take (i+1)=l.take i++[x]:=by rw[qb a,k]
 have w2:IntKind.i64.wrap (CI (l.take i)+x.units)=CI (l.take (i+1)):=by
  rw[Cl,s,Gt];simp[CI];omega;have:((l.take i).length:Int)*1048576<=1048576*1048576:=by omega
  omega
 have b:=Ge 0 l i a;rw[k,Int.zero_add]at b;have hb:∀y z,∀o,o<m2->(hset (hset h2 m2 y) m2 z) o=h2 o:=λy z o g=>by rw[AD _ _ (by omega),AD _ _ (by omega)]
 have d:ZL (CI (l.take i),x)=[AA (CI (l.take i)),x.enc]:=rfl;rw[qx]at d;simp[go_sem,a,k,qx,AC];have e:=λhb K g=>Y.step i _ n hb K b g;rw[d]at e;have p:¬n m2:=λg=>by have:=Y.lt _ _ _ _ c.j _ g;omega
 generalize w:hset (hset h2 m2 _) m2 _=H2;have t:Jq J D h m [(m2,.cells [AA x.kind,AA x.code,AA x.id,.str x.text,Af x.head.props,AA x.head.ins,AA x.head.move,AP x.head.dels,AL x.head.layers,AG x.flow,A3 x.rows])] i n H2 (m2+1):=
  (c.more Y (je m2) (by rw[<-w];exact hb _ _)).add (by rw[<-w];exact AC _ _ _) c.lt (qP m2) p
 refine FJ.mono (e _ _ t.j) ?_;intro v F m3 W;rcases t.step (qa _) (λ_ _=>rfl) W with⟨rfl,A,u⟩|⟨rfl,H⟩
 obtain⟨C,_,_,_⟩:=u.own _ (qv.2 rfl);simp[go_sem,C];refine qw (by simpa[qx]using Vy x (r x f)) ?_;simp[go_sem,w1,w2,-Int.natCast_add];exact⟨i+1,by omega,A,F,⟨by omega,u.drop⟩,⟨IO,IO⟩,AB⟩;simp[go_sem];exact .inl ⟨_,Jq.any H⟩
 . have:i=l.length:=by omega
   subst this;simp[go_sem];exact .inl ⟨_,c.done⟩
end
def AE.setText (y:AE) (t:ByteArray):AE:=.mk y.kind y.code y.id t y.head y.flow y.rows
def Cb (cu:Int) (s:List AE×List AE) (p:Int×AE):List AE×List AE:=
 if p.1+p.2.units<=cu then(s.1++[p.2],s.2)else if cu<=p.1 then(s.1,s.2++[p.2])else
  (s.1++[p.2.setText (p.2.text.extract 0 (Cv p.2.text (cu-p.1)).1.toNat)],s.2++[p.2.setText (p.2.text.extract (Cv p.2.text (cu-p.1)).1.toNat p.2.text.size)])
def DJ (l:List AE) (cu:Int) (k:Nat):List AE×List AE:=((F8 0 l).take k).foldl (Cb cu) ([],[])
def Bj (l:List AE) (cu:Int):List AE×List AE:=DJ l cu l.length
theorem Hv (s:ByteArray):∀k,∀x∈Bm s k,0<=x/\x<k
 | 0,x,h=>by simp[Bm]at h
 | k+1,x,h=>by
  unfold Bm at h;split at h;rcases qe.1 h with h|h;have:=Hv s k x h;omega;have:=qv.1 h;omega;have:=Hv s k x h;omega
theorem Ok (s:ByteArray) (u:Int):0<=(Cv s u).1/\(Cv s u).1<=s.size:=by
 unfold Cv;split;simp;split;simp;simp only;rw[KW];cases h:(Bm s s.size++[(s.size:Int)])[u.toNat]? with
 | none=>simp
 | some x=>
  have:=jb h;rcases qe.1 this with h|h;have:=Hv s _ x h;simp;omega;have:=qv.1 h;simp;omega
theorem Gw (l:List AE) (cu:Int) (k:Nat) (h:k<l.length):DJ l cu (k+1)=Cb cu (DJ l cu k) (CI (l.take k),l[k]):=by
 have c:=Ge 0 l k h;obtain⟨a,b⟩:=qo.1 c;unfold DJ;rw[qb a,kg,b,Int.zero_add];rfl
theorem Oo (cu:Int) (s:List AE×List AE) (p:Int×AE):(Cb cu s p).1.length<=s.1.length+1/\(Cb cu s p).2.length<=s.2.length+1:=by
 unfold Cb;split;simp;split<;>simp
theorem LO (l:List AE) (cu:Int):∀k,k<=l.length->(DJ l cu k).1.length<=k/\(DJ l cu k).2.length<=k
 | 0,_=>by simp[DJ]
 | k+1,h=>by
  rw[Gw l cu k h];have h1:=Oo cu (DJ l cu k) (CI (l.take k),l[k]);have h2:=LO l cu k (by omega);omega
structure NZ (l:List AE) (cu:Int) (n:Nat) (R:LoopState->Option Code->Loop) (k:Nat) (D:Nat->Prop) (hh:Hp) (m:Nat) (oL oR:Option Nat):Prop where
 lt:n+3<m
 cell:hh n=some (.cells [AA cu])
 left:hh (n+1)=some (.cells [AM 11 oL ((DJ l cu k).1.map AE.enc)])
 right:hh (n+2)=some (.cells [AM 11 oR ((DJ l cu k).2.map AE.enc)])
 loop:hh (n+3)=some (.loop (R .ready none))
 accL:Ar (n+4) m 11 oL ((DJ l cu k).1.map AE.enc)
 accR:Ar (n+4) m 11 oR ((DJ l cu k).2.map AE.enc)
 ne:∀j,oL=some j->oR≠some j
 objL:∀j,oL=some j->hh j=some (.cells (((DJ l cu k).1.map AE.enc).flatMap SV.cells))
 objR:∀j,oR=some j->hh j=some (.cells (((DJ l cu k).2.map AE.enc).flatMap SV.cells))
 dom:D=λo=>(n<=o/\o<=n+3)\/oL=some o\/oR=some o
theorem NZ.keep {l:List AE} {cu:Int} {n:Nat} {R:LoopState->Option Code->Loop} {k:Nat} {D:Nat->Prop} {b:Hp} {m:Nat} {c d:Option Nat} (H:NZ l cu n R k D b m c d) {h':Hp} {m':Nat} (f:m<=m') (h:∀o,D o->h' o=b o):NZ l cu n R k D h' m' c d:=by
 have a:∀o,(n<=o/\o<=n+3)\/c=some o\/d=some o->h' o=b o:=λo g=>h o (by rw[H.dom];exact g);exact⟨by have:=H.lt;omega,by rw[a _ (.inl ⟨by omega,by omega⟩)];exact H.cell,by rw[a _ (.inl ⟨by omega,by omega⟩)];exact H.left,by rw[a _ (.inl ⟨by omega,by omega⟩)];exact H.right,by rw[a _ (.inl ⟨by omega,by omega⟩)];exact H.loop,H.accL.mono f,H.accR.mono f,H.ne,
  λj e=>by rw[a j (.inr (.inl e))];exact H.objL j e,λj e=>by rw[a j (.inr (.inr e))];exact H.objR j e,H.dom⟩
theorem NZ.dlt {l:List AE} {cu:Int} {n:Nat} {R:LoopState->Option Code->Loop} {k:Nat} {D:Nat->Prop} {a:Hp} {m:Nat} {b c:Option Nat} (H:NZ l cu n R k D a m b c):∀o,D o->o<m:=λo g=>by
 rw[H.dom]at g;have:=H.lt;rcases g with⟨_,g⟩|g|g;omega;exact(H.accL.lt o g).2;exact(H.accR.lt o g).2
theorem NZ.fin {l:List AE} {cu:Int} {n:Nat} {R:LoopState->Option Code->Loop} {k:Nat} {D:Nat->Prop} {h:Hp} {m:Nat} {q r:Option Nat} (f:NZ l cu n R k D h m q r) {sa:SA} {c:Hp} {m':Nat} {i p:List AE} (d:DJ l cu (k+1)=(i,p)) (a b:Option Nat) (z:m<=m')
 (hc:c n=some (.cells [AA cu])) (hl:c (n+1)=some (.cells [AM 11 a (i.map AE.enc)])) (A:c (n+2)=some (.cells [AM 11 b (p.map AE.enc)])) (hb:c (n+3)=some (.loop (R .busy none)))
 (s:Ar (n+4) m' 11 a (i.map AE.enc)) (t:Ar (n+4) m' 11 b (p.map AE.enc))
 (B:∀j,a=some j->q=some j\/m<=j) (C:∀j,b=some j->r=some j\/m<=j) (ne:∀j,a=some j->b≠some j)
 (v:∀j,a=some j->c j=some (.cells ((i.map AE.enc).flatMap SV.cells))) (w:∀j,b=some j->c j=some (.cells ((p.map AE.enc).flatMap SV.cells)))
 (fr:∀o,¬D o->o<m->c o=h o) (Jx:(Nat->Prop)->Hp->Nat->Prop):
 ID (n+3) R (He (λD h m=>∃q r,NZ l cu n R (k+1) D h m q r) Jx D h m) .normal sa c m':=by
 have hlt:=f.lt;have u:∀o,¬D o->o≠n+3:=λo g e=>g (by rw[f.dom];exact .inl (by omega));refine⟨hb,z,λo=>(n<=o/\o<=n+3)\/a=some o\/b=some o,λo g=>?_,λo x y=>by rw[AD _ _ (u o x)];exact fr o x y,.inl ⟨rfl,a,b,?_⟩⟩;rcases g with g|g|g;exact .inl (by rw[f.dom];exact .inl g);rcases B o g with g'|g';exact .inl (by rw[f.dom];exact .inr (.inl g'));exact .inr ⟨g',(s.lt o g).2⟩;rcases C o g with g'|g';exact .inl (by rw[f.dom];exact .inr (.inr g'));exact .inr ⟨g',(t.lt o g).2⟩;refine⟨by omega,by rw[AD _ _ (by omega)];exact hc,by rw[AD _ _ (by omega),d];exact hl,by rw[AD _ _ (by omega),d];exact A,AC _ _ _,by rw[d];exact s,by rw[d];exact t,ne,λj e=>?_,λj e=>?_,rfl⟩;have:=(s.lt j e).1;rw[AD _ _ (by omega),d];exact v j e;have:=(t.lt j e).1;rw[AD _ _ (by omega),d];exact w j e
theorem aj (l:List AE):PC 285 [AG l] (.fn (.func 312) [] [.iptr [AG l]]):=by
 intro h n;refine gq Tryz.func285 rfl λa=>?_;simp[go_sem];exact Dy 3 a (AQ a (qa _) AB) (.inr ⟨rfl,trivial,AV (a.none (qa n)) (by simp[hset]),trivial⟩) (by simp[closed,closedL,AE.E.closedL])
theorem Ab {α β:Type} (f:α->β) (a:α) (l:List α):List.map f (List.toArray (a::l)).toList=f a::List.map f (List.toArray l).toList:=rfl
theorem Ag {α β:Type} (f:α->β):List.map f (List.toArray ([]:List α)).toList=[]:=rfl
theorem CO:ofValue (.agg #[.int .i64 0,.int .i64 0,.int .i64 0,.string { data:=#[] },.slice none 0 0,.int .i64 0,.int .i64 0,.slice none 0 0,.slice none 0 0,.slice none 0 0,.slice none 0 0])=.agg [.int .i64 0,.int .i64 0,.int .i64 0,.str .empty,.imm 0 [] true,.int .i64 0,.int .i64 0,.imm 0 [] true,.imm 0 [] true,.imm 0 [] true,.imm 0 [] true]:=rfl
end Go.Proofs.YtgakninlhfkkmaaGreat.Sh
