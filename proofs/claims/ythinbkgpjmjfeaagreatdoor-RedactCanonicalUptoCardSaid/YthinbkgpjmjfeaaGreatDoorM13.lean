/- A part of the proof (part 13 of 18). -/
import Derived.Test.YthinbkgpjmjfeaaGreatDoorM12
namespace Go.Proofs.YthinbkgpjmjfeaaGreatDoor.Sh
open Go.Proofs.Tryz
open Proofs
set_option maxRecDepth 10000
abbrev ZK(c:Int):Bool:=c==3||c==4
def Am:List Int->Int->Int
 | [],_=>0
 | a::l,x=>if a=x then 1 else if Am l x=0 then 0 else Am l x+1
theorem EW:∀(l:List Int)(x:Int),0<=Am l x/\Am l x<=l.length
 | [],_=>⟨Int.le_refl _,Int.le_refl _⟩
 | a::l,x=>by
  have:=EW l x;rw[Am,qo];split;omega;split<;>omega
theorem CN:∀{l:List Int} {x:Int},Am l x≠0↔x∈l
 | [],_=>by simp[Am]
 | a::l,x=>by
  have h:=@CN l x;have:=EW l x;rw[Am];split
  . next e=>simp[e]
  . next e=>
    split
    . next e2=>simp only[ne_eq,not_true_eq_false,qd,false_iff,not_or];exact⟨λg=>e g.symm,λg=>(h.2 g) e2⟩
    . next e2=>simp only[qd];exact⟨λ_=>.inr (h.1 e2),λ_=>by omega⟩
theorem CU{l:List Int}{x:Int}:Am l x=0↔x∉l:=by rw[<-CN];simp
theorem Eu{l r:List Int}{x:Int}:Am (l++r) x=if x∈l then Am l x else if x∈r then l.length+Am r x else 0:=by
 induction l with
 | nil=>
  simp only[qK,vC,if_false,vL];split;simp
  . next h=>exact CU.2 h
 | cons a l ih=>
  rw[qB,Am,Am,ih];by_cases e:a=x;simp[e];have e':¬x=a:=λg=>e g.symm;simp only[e,if_false,qd,e',false_or,qo];by_cases h:x∈l;simp only[h,if_true];simp only[h,if_false];by_cases h2:x∈r;have:=EW r x;have:=CN.2 h2;simp only[h2,if_true];rw[nR nN];push_cast;omega;simp[h2]
theorem G0{l:List Int}{x y:Int}(d:x∈l)(h:Am l x=Am l y):x=y:=by
 induction l with
 | nil=>cases d
 | cons a l ih=>
  have g1:=EW l x;have g2:=EW l y;have c:=CN.2 d;rw[Am]at c;rw[Am,Am]at h;by_cases e:a=x;by_cases b:a=y;exact e.symm.trans b;rw[nS e,nR b]at h;split at h<;>omega;rw[nR e]at h c;have hm:x∈l:=by rcases qd.1 d with r|r;exact absurd r.symm e;exact r
  have:=CN.2 hm;rw[nR this]at h;by_cases b:a=y;rw[nS b]at h;omega;rw[nR b]at h;split at h;omega;exact ih hm nN
theorem RO(l:List Int)(x:Int):(B8 l x).length=if x∈l then l.length else l.length+1:=by
 unfold B8;split<;>simp
theorem O0(l:List Int)(x y:Int):Am (B8 l x) y=if y∈l then Am l y else if y=x then l.length+1 else 0:=by
 unfold B8;split
 . next h=>
   split;rfl
   . next h2=>
     rw[nR λe=>h2 (by rw[e];exact h)];exact CU.2 h2
 . next h=>
   rw[Eu];split;rfl
   . next h2=>
     by_cases e:y=x;rw[nS (by simp[e]),nS e,e];simp[Am];rw[nR (by simpa using e),nR e]
def HG(s:List (Int×Int)×List (Int×Int))(a:Int×Int):List (Int×Int)×List (Int×Int):=if ZK a.1 then(EN s.1 a.2 s.1.length,s.2)else(s.1,EN s.2 a.2 (s.2.length+1))
def Kv(s:List (Int×Int)×List (Int×Int))(a:Int×Int):Int:=if ZK a.1 then Cl s.1 a.2 else Cl s.2 a.2
theorem N1{l:List (Int×Int)}{x v y:Int}(h:Cl l y≠0):Cl (EN l x v) y=Cl l y:=by
 unfold EN;split
 . next e=>rw[FW,nR λg=>h (by rw[<-g];exact e)]
 rfl
theorem PB{l:List (Int×Int)}{x v:Int}(h:v≠0):Cl (EN l x v) x≠0:=by
 unfold EN;split;rw[FW,nS rfl];exact h
 . next e=>exact e
theorem ap:∀(l:List (Int×Int))(x v:Int),DL l x v≠[]
 | [],_,_=>by simp[DL]
 | (a,b)::r,x,v=>by rw[DL];split<;>simp
theorem X7{l:List (Int×Int)}{x v:Int}(h:l≠[]):EN l x v≠[]:=by
 unfold EN;split;exact ap _ _ _;exact h
theorem iR:PZ HG Kv (λs=>s.1≠[]) (λ_=>True) where
 inv s a h _:=by
  unfold HG;split;exact X7 h;exact h
 keep s a b h _ hb:=by
  unfold Kv HG at *;by_cases c:ZK a.1=true;rw[nS c];by_cases d:ZK b.1=true;rw[nS d]at hb ⊢;rw[nS d];exact N1 hb;rw[nR d,nR d];rw[nR c];by_cases d:ZK b.1=true;rw[nS d,nS d];rw[nR d]at hb ⊢;rw[nR d];exact N1 hb
 new s a h _:=by
  unfold Kv HG;have:(s.1.length:Int)≠0:=by have:=qC.2 h;omega
  by_cases c:ZK a.1=true;rw[nS c,nS c];exact PB this;rw[nR c,nR c];exact PB nN
def Db(s:List Int×List Int)(a:Int×Int):List Int×List Int:=if a.1<=2 then(B8 s.1 a.2,s.2)else(s.1,B8 s.2 a.2)
def EB(s:List Int×List Int)(a:Int×Int):Int:=if a.1<=2 then Am s.1 a.2 else Am s.2 a.2
theorem O2{l:List Int}{x y:Int}(h:Am l y≠0):Am (B8 l x) y=Am l y:=by
 rw[O0,nS (CN.1 h)]
theorem RP{l:List Int}{x:Int}:Am (B8 l x) x≠0:=by
 rw[CN];unfold B8;split
 . next h=>exact h
 simp
theorem iQ:PZ Db EB (λ_=>True) (λ_=>True) where
 inv _ _ _ _:=trivial
 keep s a b _ _ hb:=by
  unfold EB Db at *;by_cases c:a.1<=2;rw[nS c];by_cases d:b.1<=2;rw[nS d]at hb ⊢;rw[nS d];exact O2 hb;rw[nR d,nR d];rw[nR c];by_cases d:b.1<=2;rw[nS d,nS d];rw[nR d]at hb ⊢;rw[nR d];exact O2 hb
 new s a _ _:=by
  unfold EB Db;by_cases c:a.1<=2;rw[nS c,nS c];exact RP;rw[nR c,nR c];exact RP
theorem Yh{l:List (Int×Int)}{x v:Int}(h:∀p∈l,p.1≠x):(DL l x v).length=l.length+1:=by
 induction l with
 | nil=>rfl
 | cons p l ih=>
  obtain⟨a,b⟩:=p;rw[DL,nR (h (a,b) nO)];simp[ih λp hp=>h p (by simp[hp])]
theorem SB:∀{l:List (Int×Int)} {x v:Int} {p:Int×Int},p∈DL l x v->p.1=x\/∃q∈l,q.1=p.1
 | [],x,v,p,h=>by rw[DL,qA]at h;exact .inl (by rw[h])
 | (a,b)::r,x,v,p,h=>by
  rw[DL]at h;split at h;rcases qd.1 h with e|e;exact .inl (by rw[e]);exact .inr ⟨p,by simp[e],rfl⟩;rcases qd.1 h with e|e;exact .inr ⟨(a,b),by simp,by rw[e]⟩;rcases SB e with g|⟨q,g1,c⟩
  exact .inl g;exact .inr ⟨q,by simp[g1],c⟩
structure In(z:Prop)(k:Nat)(s:List (Int×Int))(t:List Int):Prop where
 get:∀x,Cl s x=Am t x
 len:s.length=t.length+k
 val:∀p∈s,(z/\p.1=0)\/Cl s p.1≠0
theorem In.I{z:Prop}{k:Nat}{s:List (Int×Int)}{t:List Int}(S:In z k s t){x:Int}(hx:z->x≠0)(h:x∉t):In z k (DL s x (t.length+1)) (t++[x]) where
 get y:=by
  rw[FW,Eu,S.get y];by_cases e:x=y;rw[nS e,nR (by rw[<-e];exact h),nS (by simp[e]),e];simp[Am]
  . rw[nR e];split;rfl
    . next h2=>rw[nR (by simp;exact λg=>e g.symm)];exact CU.2 h2
 len:=by
  have:∀p∈s,p.1≠x:=λp hp e=>by
   rcases S.val p hp with⟨g1,g2⟩|g;exact hx g1 (by rw[<-e,g2]);rw[S.get,CN,e]at g;exact h g
  rw[Yh this,S.len];simp;omega
 val p hp:=by
  rcases SB hp with e|⟨q,h1,h2⟩
  right;rw[FW,nS e.symm];omega;rw[FW,<-h2];rcases S.val q h1 with g|g;exact .inl g;split;exact .inr nN;exact .inr g
theorem In.note{z:Prop}{k:Nat}{s:List (Int×Int)}{t:List Int}(S:In z k s t){x:Int}(a:z->x≠0)(v:Int)(hv:v=t.length+1):In z k (EN s x v) (B8 t x):=by
 unfold EN B8;by_cases h:x∈t;rw[nS h,nR (by rw[S.get];exact CN.2 h)];exact S;rw[nR h,nS (by rw[S.get];exact CU.2 h),hv];exact S.I a h
structure OT(s:List (Int×Int)×List (Int×Int))(t:List Int×List Int):Prop where
 cm:In True 1 s.1 t.2
 bm:In False 0 s.2 t.1
def ZR(a:Int×Int):Prop:=1<=a.1/\a.1<=4/\a.2≠0
theorem Mi{a:Int×Int}(h:ZR a):ZK a.1=true↔¬a.1<=2:=by
 obtain⟨h1,h2,_⟩:=h;simp only[ZK,vU,beq_iff_eq];omega
theorem OT.step{s:List (Int×Int)×List (Int×Int)}{t:List Int×List Int}(S:OT s t){a:Int×Int}(h:ZR a):OT (HG s a) (Db t a):=by
 unfold HG Db;by_cases c:a.1<=2;rw[nR (λg=>(Mi h).1 g c),nS c];exact⟨S.cm,S.bm.note (λg=>g.elim) _ (by rw[S.bm.len];rfl)⟩;rw[nS ((Mi h).2 c),nR c];exact⟨S.cm.note (λ_=>h.2.2) _ (by rw[S.cm.len];push_cast;rfl),S.bm⟩
theorem OT.fold:∀{l:List (Int×Int)} {s:List (Int×Int)×List (Int×Int)} {t:List Int×List Int},OT s t->(∀a∈l,ZR a)->OT (l.foldl HG s) (l.foldl Db t)
 | [],_,_,S,_=>S
 | a::l,_,_,S,h=>(S.step (h a nO)).fold λb hb=>h b (by simp[hb])
theorem OT.look{s:List (Int×Int)×List (Int×Int)}{t:List Int×List Int}(S:OT s t){a:Int×Int}(h:ZR a):Kv s a=EB t a:=by
 unfold Kv EB;by_cases c:a.1<=2;rw[nR (λg=>(Mi h).1 g c),nS c,S.bm.get];rw[nS ((Mi h).2 c),nR c,S.cm.get]
theorem Jh(l:List (Int×Int)):∀t:List Int×List Int,l.foldl Db t=(BD t.1 ((l.filter λa=>decide (a.1<=2)).map (·.2)),BD t.2 ((l.filter λa=>!decide (a.1<=2)).map (·.2))):=by
 induction l with
 | nil=>intro t;rfl
 | cons a l ih=>
  intro t;rw[qH,ih];unfold Db;by_cases c:a.1<=2;simp[c,BD];simp[c,BD]
theorem WZ(x:AD)(s:List (Int×Int)×List (Int×Int)):((DD x s).1,true,(DD x s).2)=if x.l=8 then(GI x (Kv (HG s (x.code,x.id)) (x.code,x.id)),true,HG s (x.code,x.id))else(x,true,s):=by
 unfold DD;by_cases k:x.l=8;rw[nS k,nS k];have e:RT x=ZK x.code:=by unfold RT;rw[k];rfl
 rw[e];unfold HG Kv;by_cases c:ZK x.code=true;rw[nS c,nS c,nS c];rw[nR c,nR c,nR c];rw[nR k,nR k]
theorem We(mv:List ((Int×Int)×Int))(a:List (Int×Int)):MU mv a=GP HG Kv (MC mv a):=by
 unfold MU GP;congr 1;funext x s;exact WZ x s
theorem Wg{hp:AF->Prop}{T:Int->Prop}{N:Nat}{l:List AD}(H:wf hp T N l)(mv:List ((Int×Int)×Int))(a:List (Int×Int))(id:Int)(s:List (Int×Int)×List (Int×Int))(b:s.1≠[]):
 Au (MU mv a) N id l s=(AD.miL (MC mv a) (Kv ((AD.anL l).foldl HG s)) l,(AD.anL l).foldl HG s):=by
 rw[We];exact(PJ iR N l H).1 id s _ (λ_ _=>trivial) b λ_ _=>rfl
def Wd(g:AF->AF):Pa (List Int×List Int):=GP Db EB g
theorem T7{hp:AF->Prop}{T:Int->Prop}{N:Nat}{l:List AD}(H:wf hp T N l)(g:AF->AF)(id:Int)(s:List Int×List Int):
 BK (Wd g) N id l s=(AD.miL g (EB ((AD.anL l).foldl Db s)) l,(AD.anL l).foldl Db s):=
 (PJ iQ N l H).2 id s _ (λ_ _=>trivial) trivial λ_ _=>rfl
mutual
def AD.hd:AD->List AF
 | .mk _ _ _ _ h f r=>h::(AD.hdL f++AM.hdL r)
def AD.hdL:List AD->List AF
 | []=>[]
 | x::l=>AD.hd x++AD.hdL l
def AM.hd:AM->List AF
 | .mk h c=>h::AG.hdL c
def AM.hdL:List AM->List AF
 | []=>[]
 | x::l=>AM.hd x++AM.hdL l
def AG.hd:AG->List AF
 | .mk _ h f=>h::AD.hdL f
def AG.hdL:List AG->List AF
 | []=>[]
 | x::l=>AG.hd x++AG.hdL l
end
theorem AD.hd_eq(x:AD):x.hd=x.H::(AD.hdL x.W++AM.hdL x.R):=by cases x;rw[AD.hd];rfl
theorem AM.hd_eq(x:AM):x.hd=x.H::AG.hdL x.cells:=by cases x;rw[AM.hd];rfl
theorem AG.hd_eq(x:AG):x.hd=x.H::AD.hdL x.W:=by cases x;rw[AG.hd];rfl
theorem UJ:AD.hdL []=[]:=by rw[AD.hdL]
theorem Px:AM.hdL []=[]:=by rw[AM.hdL]
section
variable{σ:Type}
def HL(F:σ->AF->σ):Pa σ:=⟨λ_ l s=>(l,s),λh s=>(h,F s h),λx s=>(x,true,s)⟩
def U9(F:σ->AF->σ)(it:Int->List AD->σ->List AD×σ)(l:List AD):Prop:=∀id s,it id l s=(l,(AD.hdL l).foldl F s)
variable{F:σ->AF->σ}{it:Int->List AD->σ->List AD×σ}{hp:AF->Prop}{T:Int->Prop}
theorem RI:∀(l:List AG)(out:List AG)(s:σ),(∀c∈l,U9 F it c.W)->l.foldl (EQ (HL F) it) (out,s)=(out++l,(AG.hdL l).foldl F s)
 | [],out,s,_=>by rw[AG.hdL];simp
 | c :: l, out, s, hc => by
  rw[AG.hdL,qX,qH];have e:EQ (HL F) it (out,s) c=(out++[c],c.hd.foldl F s):=by
   unfold EQ;simp only[HL];rw[hc c nO c.id,AG.hd_eq];cases c;rfl
  rw[e,RI l _ _ λc h=>hc c (by simp[h])];simp
theorem UL:∀(l:List AM)(out:List AM)(s:σ),(∀r∈l,∀c∈r.cells,U9 F it c.W)->l.foldl (GG (HL F) it) (out,s)=(out++l,(AM.hdL l).foldl F s)
 | [],out,s,_=>by rw[AM.hdL];simp
 | r :: l, out, s, hc => by
  rw[AM.hdL,qX,qH];have e:GG (HL F) it (out,s) r=(out++[r],r.hd.foldl F s):=by
   unfold GG JU;simp only[HL];have:=RI (F:=F) (it:=it) r.cells [] (F s r.H) (hc r nO);unfold HL at this;rw[this,AM.hd_eq];cases r;simp[AM.H,AM.cells]
  rw[e,UL l _ _ λc h=>hc c (by simp[h])];simp
theorem UK(x:AD)(k6:x.l≠6->x.W=[])(k7:x.l≠7->x.R=[])(f:U9 F it x.W)(hr:∀r∈x.R,∀c∈r.cells,U9 F it c.W)(out:List AD)(s:σ):
 Ej (HL F) it (out,s) x=(out++[x],x.hd.foldl F s)/\Eh (HL F) it (out,s) x=(out++[x],x.hd.foldl F s):=by
 rw[AD.hd_eq,qH,qX];have hi:∀s,(HL F).item x s=(x,true,s):=λ_=>rfl;have hh:∀h s,(HL F).H h s=(h,F s h):=λ_ _=>rfl;have e:=λs=>UL (F:=F) (it:=it) x.R [] s hr;have g:x.wHead x.H=.mk x.l x.code x.id x.J x.H x.W x.R:=rfl;have a:AD.mk x.l x.code x.id x.J x.H x.W x.R=x:=by cases x;rfl
 constructor;unfold Ej;dsimp only;rw[hi];dsimp only;rw[nS rfl,hh];dsimp only;rw[g,Uv];unfold Di;by_cases b:x.l=6;rw[nS b,f];dsimp only;rw[a,k7 nN,Px];rfl;rw[nR b,k6 b,UJ];by_cases d:x.l=7;rw[nS d,e];dsimp only[List.nil_append,List.foldl_nil];rw[k6 b]at a;rw[a];rw[nR d];rw[k6 b]at a;rw[a,k7 d,Px];rfl;unfold Eh;dsimp only;rw[hi];dsimp only;rw[nS rfl,hh];dsimp only;rw[g,UA];unfold Di;rw[f];dsimp only;rw[e];dsimp only[List.nil_append];rw[a]
theorem Py(G:List AD×σ->AD->List AD×σ):∀(l out:List AD)(s:σ),(∀x∈l,∀out s,G (out,s) x=(out++[x],x.hd.foldl F s))->l.foldl G (out,s)=(out++l,(AD.hdL l).foldl F s)
 | [],out,s,_=>by rw[AD.hdL];simp
 | x::l,out,s,h=>by
  rw[qH,h x nO,Py G l _ _ λy a=>h y (by simp[a]),AD.hdL,qX];simp
theorem LE:∀(N:Nat)(l:List AD),wf hp T N l->U9 F (Au (HL F) N) l/\U9 F (BK (HL F) N) l
 | 0,_,h=>h.elim
 | N+1,l,H=>by
  have key:∀x∈l,_:=λx a=>DP.1 H x a;constructor;intro id s;rw[Au];refine Py _ l [] s λx a out s=>?_;have w:=key x a;exact(UK x w.k6 w.k7 (LE N _ w.W).1 (λr hr c b=>(LE N _ ((w.R r hr).2.2 c b).2.2).1) out s).1;intro id s;rw[BK];refine Py _ l [] s λx a out s=>?_;have w:=key x a;exact(UK x w.k6 w.k7 (LE N _ w.W).2 (λr hr c b=>(LE N _ ((w.R r hr).2.2 c b).2.2).2) out s).2
end
def C0(hs:List AF):List (Int×Int):=hs.flatMap AF.mvs
theorem N2:∀(a:List AF)(s:List (Int×Int)),a.foldl (λs h=>Ei s h.mvs) s=(C0 a).foldl Dt s
 | [],_=>rfl
 | h::a,s=>by rw[qH,N2 a];simp[C0,Ei]
theorem P3{hp:AF->Prop}{T:Int->Prop}{N:Nat}{d:AH}(H:wf hp T N d.W):Hf N d=(C0 (AD.hdL d.W++[d.T0])).foldl Dt []:=by
 have e:Xw=HL λs h=>Ei s h.mvs:=rfl;unfold Hf Ia;rw[e,(LE N _ H).1];show Ei _ _=_;rw[N2,C0,C0,qS,qX];simp[Ei]
theorem Lh:∀(l:List (Int×Int))(s:List (Int×Int)),s.Nodup->(l.foldl Dt s).Nodup/\∀p,p∈l.foldl Dt s↔p∈s\/(p.2≠0/\p∈l)
 | [],s,h=>⟨h,λp=>by simp⟩
 | a :: l, s, h => by
  have hn:(Dt s a).Nodup/\∀p,p∈Dt s a↔p∈s\/(p.2≠0/\p=a):=by
   unfold Dt RN;split
   . next e=>exact⟨h,λp=>⟨.inl,λg=>g.elim id λ⟨g1,g2⟩=>absurd (by rw[g2];exact e) g1⟩⟩
   . next e=>
     split
     . next e2=>exact⟨h,λp=>⟨.inl,λg=>g.elim id λ⟨_,g2⟩=>by rw[g2];exact e2⟩⟩
     . next e2=>
       refine⟨by rw[qr];exact⟨h,by simp,λx hx y hy=>by rw[qA]at hy;rw[hy];exact λg=>e2 (by rw[<-g];exact hx)⟩,λp=>?_⟩;rw[qf,qA];exact⟨λg=>g.imp_right λg=>⟨by rw[g];exact e,g⟩,λg=>g.imp_right λg=>g.2⟩
  obtain⟨h1,h2⟩:=Lh l (Dt s a) hn.1;refine⟨h1,λp=>?_⟩;rw[qH,h2,hn.2,qd];constructor;rintro((g|⟨g1,g2⟩)|⟨g1,g2⟩);exact .inl g;exact .inr ⟨g1,.inl g2⟩;exact .inr ⟨g1,.inr g2⟩;rintro(g|⟨g1,g2|g2⟩);exact .inl (.inl g);exact .inl (.inr ⟨g1,g2⟩);exact .inr ⟨g1,g2⟩
theorem RF:∀(l:List ((Int×Int)×Int))(m:Int×Int)(v:Int)(y:Int×Int),FV (Lx l m v) y=if m=y then v else FV l y
 | [],m,v,y=>by simp[Lx,FV]
 | (a,b)::r,m,v,y=>by
  rw[Lx];split
  . next e=>subst e;simp only[FV];split<;>simp
  . next e=>
    simp only[FV,RF r m v y];split
    . next e2=>subst e2;rw[nR (λg=>e g.symm)]
    rfl
def V5(L:List (Int×Int))(r:Int):List Int:=(L.filter λp=>decide (p.1=r)).map (·.2)
theorem Ug(L M:List (Int×Int))(r:Int):V5 (L++M) r=V5 L r++V5 M r:=by simp[V5]
theorem P2{L:List (Int×Int)}{r m:Int}:m∈V5 L r↔(r,m)∈L:=by
 unfold V5;simp only[qb,qZ,decide_eq_true_eq];constructor;rintro⟨⟨a,b⟩,⟨h1,rfl⟩,rfl⟩;exact h1;intro h;exact⟨(r,m),⟨h,rfl⟩,rfl⟩
theorem Rg:∀(n:Nat)(L:List (Int×Int)),L.length=n->L.Nodup->(∀r,Cl (FL L).1 r=(V5 L r).length)/\∀r m,FV (FL L).2 (r,m)=Am (V5 L r) m:=by
 intro n
 induction n with
 | zero=>intro L h _;cases L with|nil=>exact⟨λ_=>rfl,λ_ _=>rfl⟩|cons=>cases h
 | succ n ih =>
  intro L h hn;obtain⟨M,p,rfl⟩:∃M p,L=M++[p]:=by
   rcases List.eq_nil_or_concat L with e|⟨M,p,e⟩
   rw[e]at h;cases h;exact⟨M,p,by rw[e];simp⟩
  obtain⟨a,b⟩:=p;rw[qr]at hn;have hnot:(a,b)∉M:=λg=>hn.2.2 _ g _ nO rfl;obtain⟨h1,h2⟩:=ih M (by simpa using h) hn.1;rw[Li];unfold PO;have hx:∀r,V5 [(a,b)] r=if a=r then[b]else[]:=λr=>by
   unfold V5;by_cases e:a=r<;>simp[e]
  constructor
  . intro r;dsimp only;rw[FW,h1,h1,Ug,hx];split
    . next e=>rw[<-e];simp
    simp
  . intro r m;dsimp only;rw[RF,h1,h2,Ug,hx];by_cases e:a=r
    . subst e;rw[nS rfl];by_cases e2:b=m;subst e2;rw[nS rfl,Eu,nR (λg=>hnot (P2.1 g)),nS nO];simp[Am]
      . rw[nR (λg=>e2 (by cases g;rfl)),Eu];split;rfl
        . next h3=>rw[nR (by simpa using λg=>e2 g.symm)];exact CU.2 h3
    rw[nR e,nR (λg=>e (by cases g;rfl)),vp]
theorem P0:∀{a b:List Int},a.Pairwise (· < ·)->b.Pairwise (· < ·)->(∀y,y∈a↔y∈b)->a=b
 | [],[],_,_,_=>rfl
 | [],y::b,_,_,h=>absurd ((h y).2 nO) nO
 | x::a,[],_,_,h=>absurd ((h x).1 nO) nO
 | x :: a, y :: b, ha, hb, h => by
  rw[wC]at ha hb;have e:x=y:=by
   rcases qd.1 ((h x).1 nO)with g|g;exact g;rcases qd.1 ((h y).2 nO)with d|d;exact d.symm;have:=ha.1 y d;have:=hb.1 x g;omega
  subst e;congr 1;refine P0 ha.2 hb.2 λz=>⟨λc=>?_,λc=>?_⟩
  rcases qd.1 ((h z).1 (by simp[c]))with g|g;have:=ha.1 z c;omega;exact g;rcases qd.1 ((h z).2 (by simp[c]))with g|g;have:=hb.1 z c;omega;exact g
def jh(x y:Int×Int):Bool:=!(ltOf Id) y x
theorem Mq(x y:Int×Int):jh x y=true↔x.1<y.1\/(x.1=y.1/\x.2<=y.2):=by
 have e:Id y x=if y.1<x.1 then -1 else if x.1<y.1 then 1 else Fe y.2 x.2:=by
  unfold Id Ve Ve Ve;by_cases h1:y.1<x.1;simp[Fe,h1];by_cases h2:x.1<y.1;simp[Fe,h1,h2];simp only[Fe,h1,h2,if_false];simp;split<;>simp_all
 unfold jh ltOf;simp only[qP,decide_eq_false_iff_not];rw[e];unfold Fe;split;omega;split;omega;split;omega;split<;>omega
theorem QU(l:List (Int×Int)):(DM l).Pairwise λx y=>jh x y=true:=
 wu (le:=λx y=>jh x y) (λa b c h1 h2=>by rw[Mq]at *;omega) (λa b=>by rw[vU,Mq,Mq];omega) l
theorem H7(l:List (Int×Int)):(DM l).Perm l:=List.mergeSort_perm l _
theorem aY{l:List (Int×Int)}(h:l.Nodup)(r:Int):(V5 (DM l) r).Pairwise (· < ·):=by
 have h1:=(QU l).and ((H7 l).nodup_iff.2 h);unfold V5;rw[List.pairwise_map];refine(List.Pairwise.filter _ h1).imp_of_mem ?_;intro a b c hb ⟨g1,d⟩;rw[Mq]at g1;simp only[qZ,decide_eq_true_eq]at c hb;have:a.2≠b.2:=λe=>d (Prod.ext (c.2.trans hb.2.symm) e);omega
def GA:List Int->Int->List Int
 | [],n=>[n]
 | a::l,n=>if a<n then a::GA l n else if a=n then a::l else n::a::l
theorem Hs:∀{l:List Int} {n x:Int},x∈GA l n↔x=n\/x∈l
 | [],n,x=>by simp[GA]
 | a::l,n,x=>by
  rw[GA];split;rw[qd,Hs,qd];exact or_left_comm
  . split
    . next e=>rw[<-e,qd,<-or_assoc,or_self]
    rw[qd]
theorem RQ:∀{l:List Int} {n:Int},l.Pairwise (· < ·)->(GA l n).Pairwise (· < ·)
 | [],n,_=>by simp[GA]
 | a::l,n,h=>by
  rw[wC]at h;rw[GA];split
  . next e=>
    rw[wC];refine⟨λb hb=>?_,RQ h.2⟩;rcases Hs.1 hb with g|g;omega;exact h.1 b g
  . next e=>
    split;exact wC.2 h;rw[wC];refine⟨λb hb=>?_,wC.2 h⟩;rcases qd.1 hb with g|g;omega;have:=h.1 b g;omega
def BA(R:List Int)(s:List (List Int))(p:Int×Int):List (List Int):=if Am R p.1≠0/\p.2≠0 then s.modify ((Am R p.1-1).toNat) λl=>GA l p.2 else s
def Gu(s:List (List Int))(k:Nat):List Int:=(s[k]?).getD []
def Ch(R:List Int)(s:List (List Int))(r m:Int):Int:=if Am R r≠0 then Am (Gu s (Am R r-1).toNat) m else 0
theorem PP(R:List Int)(s:List (List Int))(p:Int×Int)(k:Nat)(hk:k<s.length):Gu (BA R s p) k=if Am R p.1=k+1/\p.2≠0 then GA (Gu s k) p.2 else Gu s k:=by
 have:=EW R p.1;unfold BA;by_cases h:Am R p.1≠0/\p.2≠0;rw[nS h];unfold Gu;rw[List.getElem?_modify,qm hk];by_cases e:(Am R p.1-1).toNat=k;rw[nS ⟨by omega,h.2⟩];simp[e];rw[nR nN];simp only[e,if_false];rfl;rw[nR h,nR nN]
theorem HF(R:List Int)(s:List (List Int))(p:Int×Int):(BA R s p).length=s.length:=by unfold BA;split<;>simp
theorem No(R:List Int):∀(M:List (Int×Int))(s:List (List Int)),(∀k,(Gu s k).Pairwise (· < ·))->
 (M.foldl (BA R) s).length=s.length/\∀k,k<s.length->(Gu (M.foldl (BA R) s) k).Pairwise (· < ·)/\∀m,m∈Gu (M.foldl (BA R) s) k↔m∈Gu s k\/(m≠0/\∃p∈M,Am R p.1=k+1/\p.2=m)
 | [],s,h=>⟨rfl,λk _=>⟨h k,λm=>by simp⟩⟩
 | p :: M, s, h => by
  have h1:∀k,(Gu (BA R s p) k).Pairwise (· < ·):=λk=>by
   by_cases hk:k<s.length;rw[PP R s p k hk];split;exact RQ (h k);exact h k;unfold Gu;rw[List.getElem?_eq_none (by rw[HF];omega)];simp
  obtain⟨g1,g2⟩:=No R M (BA R s p) h1;rw[HF]at g1 g2;refine⟨g1,λk hk=>⟨(g2 k hk).1,λm=>?_⟩⟩;rw[qH,(g2 k hk).2 m,PP R s p k hk];constructor
  . rintro(g|⟨g3,q,hq,g4⟩)
    . split at g
      . next c=>
        rcases Hs.1 g with e|e;exact .inr ⟨by rw[e];exact c.2,p,by simp,c.1,e.symm⟩;exact .inl e
      exact .inl g
    exact .inr ⟨g3,q,by simp[hq],g4⟩
  rintro(g|⟨g3,q,hq,g4,g5⟩);left;split;exact Hs.2 (.inr g);exact g;rcases qd.1 hq with e|e;subst e;left;rw[nS ⟨g4,by rw[g5];exact g3⟩];exact Hs.2 (.inl g5.symm);exact .inr ⟨g3,q,e,g4,g5⟩
theorem df{R:List Int}{M S:List (Int×Int)}(e:S.Nodup)(hm:∀p,p∈S↔p.2≠0/\p∈M){r:Int}(hr:r∈R)(m:Int):
 FV (FL (DM S)).2 (r,m)=Ch R (M.foldl (BA R) (List.replicate R.length [])) r m:=by
 have hk:=CN.2 hr;have hg:=EW R r;have c:∀k,Gu (List.replicate R.length []) k=[]:=λk=>by
  unfold Gu;rw[List.getElem?_replicate];split<;>rfl
 obtain⟨h1,h2⟩:=No R M (List.replicate R.length []) λk=>by rw[c];exact List.Pairwise.nil
 rw[(Rg _ _ rfl ((H7 S).nodup_iff.2 e)).2];unfold Ch;rw[nS hk];obtain⟨g1,f⟩:=h2 (Am R r-1).toNat (by rw[List.length_replicate];omega);congr 1;refine P0 (aY e r) g1 λy=>?_;rw[f,c,P2,(H7 S).mem_iff,hm];constructor;rintro⟨g3,d⟩;exact .inr ⟨g3,(r,y),d,by dsimp only;omega,rfl⟩;rintro(g|⟨g3,⟨a,b⟩,d,h,g6⟩);cases g;dsimp only at h g6;have:a=r:=(G0 hr nN).symm;subst this;subst g6;exact⟨g3,d⟩
theorem X8{S:List (Int×Int)}(a:S.Nodup){p:Int×Int}(h:p∉S):FV (FL (DM S)).2 p=0:=by
 rw[(Rg _ _ rfl ((H7 S).nodup_iff.2 a)).2 p.1 p.2];exact CU.2 λg=>h ((H7 S).mem_iff.1 (P2.1 g))
def LW(R:List Int)(nv:Int->Int->Int)(h:AF):AF:=
 { h with I:=Am R h.I,move:=nv h.I h.move,Y:=h.Y.map λd=>{ d with rev:=Am R d.rev,move:=nv d.rev d.move },Z:=h.Z.map λl=>{ l with rev:=Am R l.rev } }
def bj(N:Nat)(R:List Int)(l:List AD):List (List Int):=(BK (HL λs h=>h.mvs.foldl (BA R) s) N 0 l (List.replicate R.length [])).2
def Na(C:List Int)(c:AX):AX:={ c with id:=Am C c.id,parent:=Am C c.parent }
def Ho(N:Nat)(e:AH):AH:=
 let R:=e.V.map (·.id)
 let g:=LW R (Ch R (bj N R e.W))
 let C:=e.S.C.map (·.id)
 ⟨(BK (Wd g) N 0 e.W ([],C)).1,g e.T0,EP e.V 0,{ e.S with C:=e.S.C.map (Na C) }⟩
def Wf(R C:List Int)(nv:Int->Int->Int)(B:List Int×List Int)(e:AH):AH:=
 ⟨AD.miL (LW R nv) (EB B) e.W,LW R nv e.T0,EP e.V 0,{ e.S with C:=e.S.C.map (Na C) }⟩
structure HR(R:List Int)(h:AF):Prop where
 I:h.I≠0->h.I∈R
 move:h.I=0->h.move=0
 Y:∀d∈h.Y,d.rev∈R
 lays:∀d∈h.Z,d.rev∈R
def GS:List Int->List AX->Prop
 | _,[]=>True
 | t,c::l=>c.id≠0/\c.id∉t/\(c.parent=0\/c.parent∈t)/\GS (t++[c.id]) l
structure Gm(N:Nat)(e:AH):Prop where
 wf:∃T,wf (HR (e.V.map (·.id))) T N e.W
 endi:e.T0.I=0
 endm:e.T0.move=0
 endd:e.T0.Y=[]
 endl:∀d∈e.T0.Z,d.rev∈e.V.map (·.id)
 revn:(e.V.map (·.id)).Nodup
 rev0:(0:Int)∉e.V.map (·.id)
 coms:GS [] e.S.C
 anch:∀a∈AD.anL e.W,ZR a
theorem In.zero:In True 1 [((0:Int),(0:Int))] [] where
 get x:=by simp[Cl,Am]
 len:=rfl
 val p hp:=by rw[qA]at hp;exact .inl ⟨trivial,by rw[hp]⟩
theorem Ru:∀(l:List CI)(m:List (Int×Int))(t:List Int),In True 1 m t->(t++l.map (·.id)).Nodup->(0:Int)∉l.map (·.id)->In True 1 (Df l t.length m) (t++l.map (·.id))
 | [],m,t,S,_,_=>by simpa[Df]using S
 | r :: l, m, t, S, hn, h0 => by
  rw[Df];have b:r.id∉t:=λg=>by
   rw[qr]at hn;exact hn.2.2 _ g _ nO rfl
  have a:=S.I (x:=r.id) (λ_ e=>h0 (by simp[e])) b;have:=Ru l _ (t++[r.id]) a (by simpa using hn) (λg=>h0 (by simp only[qg,qd];exact .inr g));simpa using this
theorem Nb:∀(l:List AX)(m:List (Int×Int))(t:List Int),In True 1 m t->GS t l->In True 1 (CE l t.length m).2 (t++l.map (·.id))/\∀C,(∃r,C=t++l.map (·.id)++r)->0∉C->(CE l t.length m).1=l.map (Na C)
 | [],m,t,S,_=>⟨by simpa[CE]using S,λ_ _ _=>rfl⟩
 | c :: l, m, t, S, hc => by
  obtain⟨c0,c1,f,h⟩:=hc;rw[CE];have a:=S.I (x:=c.id) (λ_=>c0) c1;obtain⟨h1,h2⟩:=Nb l _ (t++[c.id]) a h;rw[qk,wg]at h1 h2;refine⟨by simpa using h1,λC d h0=>?_⟩;have hC2:=d;obtain⟨r,hr⟩:=d;have e:C=t++(c.id::(l.map (·.id)++r)):=by rw[hr];simp
  rw[qg];have b:=h2 C ⟨r,by rw[hr];simp⟩ h0
  push_cast at b
  rw[b];congr 1;unfold Na;have i:Am C c.id=t.length+1:=by rw[e,Eu,nR c1,nS nO];simp[Am]
  have j:Cl (DL m c.id (t.length+1)) c.parent=Am C c.parent:=by
   rw[a.get];rcases f with g|g;rw[g,CU.2 h0];refine CU.2 λk=>?_;rcases qf.1 k with g3|g3;exact h0 (by rw[e];simp[g3]);rw[qA]at g3;exact c0 g3.symm;rw[Eu,nS g,e,Eu,nS g]
  rw[i,j]
theorem GS.pos:∀{l:List AX} {t:List Int},GS t l->(0:Int)∉l.map (·.id)
 | [],_,_=>by simp
 | c::l,t,h=>by
  obtain⟨c0,_,_,a⟩:=h;simp only[qg,qd,not_or];exact⟨λg=>c0 g.symm,a.pos⟩
theorem HR.met{R:List Int}{h:AF}(H:HR R h){p:Int×Int}(hp:p∈h.mvs)(h0:p.2≠0):p.1∈R:=by
 unfold AF.mvs at hp;rcases qd.1 hp with e|e;subst e;exact H.I λg=>h0 (H.move g);obtain⟨d,hd,rfl⟩:=qb.1 e;exact H.Y d hd
mutual
theorem Xp{hp:AF->Prop}{g g':AF->AF}{f f':Int×Int->Int}(hg:∀h,hp h->g h=g' h):∀(x:AD),(∀h∈x.hd,hp h)->(∀a∈x.an,f a=f' a)->AD.mi g f x=AD.mi g' f' x
 | .mk k c i t h fl r,hh,ha=>by
  rw[AD.hd]at hh;rw[AD.an]at ha;rw[AD.mi,AD.mi,Ht hg fl (λh m=>hh h (by simp[m])) (λa m=>ha a (by simp[m])),O9 hg r (λh m=>hh h (by simp[m])) (λa m=>ha a (by simp[m])),hg h (hh h nO)];congr 1;split
  . next e=>exact ha _ (by simp[e])
  rfl
theorem Ht{hp:AF->Prop}{g c:AF->AF}{f b:Int×Int->Int}(hg:∀h,hp h->g h=c h):∀(l:List AD),(∀h∈AD.hdL l,hp h)->(∀a∈AD.anL l,f a=b a)->AD.miL g f l=AD.miL c b l
 | [],_,_=>by rw[AD.miL,AD.miL]
 | x::l,hh,ha=>by
  rw[AD.hdL]at hh;rw[AD.anL]at ha;rw[AD.miL,AD.miL,Xp hg x (λh m=>hh h (by simp[m])) (λa m=>ha a (by simp[m])),Ht hg l (λh m=>hh h (by simp[m])) (λa m=>ha a (by simp[m]))]
theorem Vb{hp:AF->Prop}{g d:AF->AF}{f b:Int×Int->Int}(hg:∀h,hp h->g h=d h):∀(x:AM),(∀h∈x.hd,hp h)->(∀a∈x.an,f a=b a)->AM.mi g f x=AM.mi d b x
 | .mk h c,hh,ha=>by
  rw[AM.hd]at hh;rw[AM.an]at ha;rw[AM.mi,AM.mi,O8 hg c (λh m=>hh h (by simp[m])) (λa m=>ha a (by simp[m])),hg h (hh h nO)]
theorem O9{hp:AF->Prop}{g c:AF->AF}{f b:Int×Int->Int}(hg:∀h,hp h->g h=c h):∀(l:List AM),(∀h∈AM.hdL l,hp h)->(∀a∈AM.anL l,f a=b a)->AM.miL g f l=AM.miL c b l
 | [],_,_=>by rw[AM.miL,AM.miL]
 | x::l,hh,ha=>by
  rw[AM.hdL]at hh;rw[AM.anL]at ha;rw[AM.miL,AM.miL,Vb hg x (λh m=>hh h (by simp[m])) (λa m=>ha a (by simp[m])),O9 hg l (λh m=>hh h (by simp[m])) (λa m=>ha a (by simp[m]))]
theorem Va{hp:AF->Prop}{g c:AF->AF}{f b:Int×Int->Int}(hg:∀h,hp h->g h=c h):∀(x:AG),(∀h∈x.hd,hp h)->(∀a∈x.an,f a=b a)->AG.mi g f x=AG.mi c b x
 | .mk i h fl,hh,ha=>by
  rw[AG.hd]at hh;rw[AG.an]at ha;rw[AG.mi,AG.mi,Ht hg fl (λh m=>hh h (by simp[m])) (λa m=>ha a (by simp[m])),hg h (hh h nO)]
theorem O8{hp:AF->Prop}{g c:AF->AF}{f b:Int×Int->Int}(hg:∀h,hp h->g h=c h):∀(l:List AG),(∀h∈AG.hdL l,hp h)->(∀a∈AG.anL l,f a=b a)->AG.miL g f l=AG.miL c b l
 | [],_,_=>by rw[AG.miL,AG.miL]
 | x::l,hh,ha=>by
  rw[AG.hdL]at hh;rw[AG.anL]at ha;rw[AG.miL,AG.miL,Va hg x (λh m=>hh h (by simp[m])) (λa m=>ha a (by simp[m])),O8 hg l (λh m=>hh h (by simp[m])) (λa m=>ha a (by simp[m]))]
end
theorem AM.hdL_eq:∀l:List AM,AM.hdL l=l.flatMap AM.hd
 | []=>by rw[AM.hdL];rfl
 | x::l=>by rw[AM.hdL,AM.hdL_eq l];rfl
theorem AG.hdL_eq:∀l:List AG,AG.hdL l=l.flatMap AG.hd
 | []=>by rw[AG.hdL];rfl
 | x::l=>by rw[AG.hdL,AG.hdL_eq l];rfl
theorem AD.hdL_eq:∀l:List AD,AD.hdL l=l.flatMap AD.hd
 | []=>by rw[AD.hdL];rfl
 | x::l=>by rw[AD.hdL,AD.hdL_eq l];rfl
theorem Jm{hp:AF->Prop}{T:Int->Prop}:∀{N:Nat} {l:List AD},wf hp T N l->∀h∈AD.hdL l,hp h
 | 0,_,H,_,_=>H.elim
 | N+1,l,H,h,hh=>by
  rw[AD.hdL_eq,qJ]at hh;obtain⟨x,j,hm⟩:=hh;obtain⟨a,b,c,d,e,f,q⟩:=DP.1 H x j;rw[AD.hd_eq]at hm;rcases qd.1 hm with g|g;rw[g];exact a;rcases qf.1 g with g|g;exact Jm f h g;rw[AM.hdL_eq,qJ]at g;obtain⟨r,hr,hm⟩:=g;rw[AM.hd_eq]at hm;rcases qd.1 hm with g|g;rw[g];exact(q r hr).1;rw[AG.hdL_eq,qJ]at g;obtain⟨y,i,hm⟩:=g;rw[AG.hd_eq]at hm;rcases qd.1 hm with g|g;rw[g];exact((q r hr).2.2 y i).2.1;exact Jm ((q r hr).2.2 y i).2.2 h g
abbrev A5(e:AH):List Int:=e.V.map (·.id)
abbrev Es(e:AH):List Int:=e.S.C.map (·.id)
def KX(e:AH):List (List Int):=(C0 (AD.hdL e.W)).foldl (BA (A5 e)) (List.replicate (A5 e).length [])
def IA(e:AH):List Int×List Int:=(AD.anL e.W).foldl Db ([],Es e)
def Ip(e:AH):AH:=Wf (A5 e) (Es e) (Ch (A5 e) (KX e)) (IA e) e
theorem N0(R:List Int):∀(a:List AF)(s:List (List Int)),a.foldl (λs h=>h.mvs.foldl (BA R) s) s=(C0 a).foldl (BA R) s
 | [],_=>rfl
 | h::a,s=>by rw[qH,N0 R a];simp[C0]
theorem Zw{N:Nat}{e:AH}(H:Gm N e):Ho N e=Ip e:=by
 obtain⟨T,hw⟩:=H.wf;have a:bj N (A5 e) e.W=KX e:=by
  unfold bj KX;rw[(LE N _ hw).2,N0]
 unfold Ho Ip Wf;dsimp only;rw[a,T7 hw];rfl
theorem T8{N:Nat}{e:AH}(H:Gm N e):Jf N e=Ip e:=by
 obtain⟨T,hw⟩:=H.wf;have n:=H.coms.pos;have k:=Ru e.V _ [] In.zero (by simpa using H.revn) H.rev0;obtain⟨l,q⟩:=Nb e.S.C _ [] In.zero H.coms;have o:=q (Es e) ⟨[],by simp[Es]⟩ n;simp only[qK,vL,Int.natCast_zero]at k l o;have s:OT ((CE e.S.C 0 [(0,0)]).2,[]) ([],Es e):=⟨l,⟨λx=>rfl,rfl,λp hp=>by cases hp⟩⟩
 have b:∀p,p∈Hf N e↔p.2≠0/\p∈C0 (AD.hdL e.W):=λp=>by
  rw[P3 hw,(Lh _ [] List.nodup_nil).2];simp only[vC,false_or];refine and_congr_right λh0=>?_;simp only[C0,qS,qf];refine⟨λg=>g.elim id λg=>?_,.inl⟩;simp only[qV,List.flatMap_nil,vp,AF.mvs,H.endd,H.endi,H.endm,vW,qA]at g;exact absurd (by rw[g]) h0
 have f:(Hf N e).Nodup:=by rw[P3 hw];exact(Lh _ [] List.nodup_nil).1
 have i:∀r∈A5 e,∀m,FV (FL (DM (Hf N e))).2 (r,m)=Ch (A5 e) (KX e) r m:=λr hr m=>df f b hr m;have j:∀h:AF,HR (A5 e) h->FV (FL (DM (Hf N e))).2 (h.I,h.move)=Ch (A5 e) (KX e) h.I h.move:=λh hh=>by
  by_cases h0:h.I=0;rw[h0,hh.move h0,X8 f (λg=>((b _).1 g).1 rfl),Ch,nR (by rw[CU.2 H.rev0];simp)];exact i _ (hh.I h0) _
 have hg:∀h,HR (A5 e) h->MC (FL (DM (Hf N e))).2 (Df e.V 0 [(0,0)]) h=LW (A5 e) (Ch (A5 e) (KX e)) h:=λh hh=>by
  have hd:h.Y.map (λd=>{ d with rev:=Cl (Df e.V 0 [(0,0)]) d.rev,move:=FV (FL (DM (Hf N e))).2 (d.rev,d.move) })=h.Y.map λd=>{ d with rev:=Am (A5 e) d.rev,move:=Ch (A5 e) (KX e) d.rev d.move }:=
   qN λd hd=>by rw[k.get,i _ (hh.Y d hd)]
  have v:h.Z.map (λd=>{ d with rev:=Cl (Df e.V 0 [(0,0)]) d.rev })=h.Z.map λd=>{ d with rev:=Am (A5 e) d.rev }:=
   qN λd hd=>by rw[k.get]
  unfold MC LW;rw[hd,v,j h hh,k.get]
 have c:HR (A5 e) e.T0:=⟨λg=>absurd H.endi g,λ_=>H.endm,λd hd=>(by rw[H.endd]at hd;cases hd),H.endl⟩
 unfold Jf Ip Wf Ia;dsimp only;rw[Wg hw _ _ _ _ (λg=>by have:=l.len;dsimp only at g;rw[g]at this;simp at this)];dsimp only;rw[o];have u:((MU (FL (DM (Hf N e))).2 (Df e.V 0 [(0,0)])).H e.T0 ((AD.anL e.W).foldl HG ((CE e.S.C 0 [(0,0)]).2,[]))).1=LW (A5 e) (Ch (A5 e) (KX e)) e.T0:=hg _ c;rw[u];congr 1;exact Ht (hp:=HR (A5 e)) hg _ (Jm hw) λa t=>(s.fold H.anch).look (H.anch a t)
mutual
def AD.gm(g:AF->AF)(p:Int->Int->Int->Int)(q:Int->Int):AD->AD
 | .mk k c i t h f r=>.mk k c (p k c i) t (g h) (AD.gmL g p q f) (AM.gmL g p q r)
def AD.gmL(g:AF->AF)(p:Int->Int->Int->Int)(q:Int->Int):List AD->List AD
 | []=>[]
 | x::l=>AD.gm g p q x::AD.gmL g p q l
def AM.gm(g:AF->AF)(p:Int->Int->Int->Int)(q:Int->Int):AM->AM
 | .mk h c=>.mk (g h) (AG.gmL g p q c)
def AM.gmL(g:AF->AF)(p:Int->Int->Int->Int)(q:Int->Int):List AM->List AM
 | []=>[]
 | x::l=>AM.gm g p q x::AM.gmL g p q l
def AG.gm(g:AF->AF)(p:Int->Int->Int->Int)(q:Int->Int):AG->AG
 | .mk i h f=>.mk (q i) (g h) (AD.gmL g p q f)
def AG.gmL(g:AF->AF)(p:Int->Int->Int->Int)(q:Int->Int):List AG->List AG
 | []=>[]
 | x::l=>AG.gm g p q x::AG.gmL g p q l
end
section
variable(g:AF->AF)(p:Int->Int->Int->Int)(q:Int->Int)
theorem AD.gmL_eq:∀l:List AD,AD.gmL g p q l=l.map (AD.gm g p q)
 | []=>by rw[AD.gmL];rfl
 | x::l=>by rw[AD.gmL,AD.gmL_eq l];rfl
theorem AM.gmL_eq:∀l:List AM,AM.gmL g p q l=l.map (AM.gm g p q)
 | []=>by rw[AM.gmL];rfl
 | x::l=>by rw[AM.gmL,AM.gmL_eq l];rfl
theorem AG.gmL_eq:∀l:List AG,AG.gmL g p q l=l.map (AG.gm g p q)
 | []=>by rw[AG.gmL];rfl
 | x::l=>by rw[AG.gmL,AG.gmL_eq l];rfl
theorem AD.gm_eq(x:AD):AD.gm g p q x=.mk x.l x.code (p x.l x.code x.id) x.J (g x.H) (AD.gmL g p q x.W) (x.R.map (AM.gm g p q)):=by cases x;rw[AD.gm,AM.gmL_eq];rfl
theorem AM.gm_eq(x:AM):AM.gm g p q x=.mk (g x.H) (x.cells.map (AG.gm g p q)):=by cases x;rw[AM.gm,AG.gmL_eq];rfl
theorem AG.gm_eq(x:AG):AG.gm g p q x=.mk (q x.id) (g x.H) (AD.gmL g p q x.W):=by cases x;rw[AG.gm];rfl
end
section
variable(g:AF->AF)(f:Int×Int->Int)
abbrev WJ(f:Int×Int->Int)(k c i:Int):Int:=if k=8 then f (c,i)else i
mutual
theorem iS:∀x:AD,AD.mi g f x=AD.gm g (WJ f) id x
 | .mk k c i t h fl r=>by rw[AD.mi,AD.gm,Lg fl,Xr r]
theorem Lg:∀l:List AD,AD.miL g f l=AD.gmL g (WJ f) id l
 | []=>by rw[AD.miL,AD.gmL]
 | x::l=>by rw[AD.miL,AD.gmL,iS x,Lg l]
theorem db:∀x:AM,AM.mi g f x=AM.gm g (WJ f) id x
 | .mk h c=>by rw[AM.mi,AM.gm,Xq c]
theorem Xr:∀l:List AM,AM.miL g f l=AM.gmL g (WJ f) id l
 | []=>by rw[AM.miL,AM.gmL]
 | x::l=>by rw[AM.miL,AM.gmL,db x,Xr l]
theorem da:∀x:AG,AG.mi g f x=AG.gm g (WJ f) id x
 | .mk i h fl=>by rw[AG.mi,AG.gm,Lg fl];rfl
theorem Xq:∀l:List AG,AG.miL g f l=AG.gmL g (WJ f) id l
 | []=>by rw[AG.miL,AG.gmL]
 | x::l=>by rw[AG.miL,AG.gmL,da x,Xq l]
end
end
section
variable{hp hp':AF->Prop}{T T':Int->Prop}{p:Int->Int->Int->Int}{q:Int->Int}
theorem ZC{g:AF->AF}(hg:∀x,hp x->hp' (g x)):∀{N:Nat} {l:List AD},wf hp T N l->wf hp' (λ_=>True) N (AD.gmL g p q l)
 | 0,_,h=>h.elim
 | N+1,l,H=>DP.2 λy i=>by
  rw[AD.gmL_eq]at i;obtain⟨x,m,rfl⟩:=qb.1 i;obtain⟨a,b,c,d,e,f,w⟩:=DP.1 H x m;rw[AD.gm_eq];refine⟨hg _ a,λk=>?_,λk=>?_,λk=>?_,λ_=>trivial,ZC hg f,λr hr=>?_⟩;show AD.gmL g p q x.W=[];rw[b k,AD.gmL];show x.R.map _=[];rw[c k];rfl;show x.R.map _≠[];simpa using d k;obtain⟨r0,h0,rfl⟩:=qb.1 hr;obtain⟨u,v,z⟩:=w r0 h0;rw[AM.gm_eq];refine⟨hg _ u,by show r0.cells.map _≠[];simpa using v,λc j=>?_⟩;obtain⟨c0,h1,rfl⟩:=qb.1 j;obtain⟨u1,n,o⟩:=z c0 h1;rw[AG.gm_eq];exact⟨trivial,hg _ n,ZC hg o⟩
theorem Ni(g:AF->AF)(x:AD):Bg (AD.gm g p q x)↔Bg x:=by
 rw[AD.gm_eq];unfold Bg;show(x.l=7/\x.R.map _=[]\/x.l=1/\x.J.size=0)↔_;rw[vV]
end
def jj(x y:AD):Prop:=y.l=1/\x.l=1/\x.H=y.H
def ST:List AD->Prop
 | []=>True
 | [x]=>¬Bg x
 | x::y::l=>¬Bg x/\¬jj x y/\ST (y::l)
theorem ST.snoc:∀{l:List AD} {y:AD},ST l->¬Bg y->(∀z,l.getLast? = some z->¬jj z y)->ST (l++[y])
 | [],y,_,h,_=>h
 | [x],y,h1,h2,h3=>⟨h1,h3 x rfl,h2⟩
 | x::z::l,y,h1,h2,h3=>⟨h1.1,h1.2.1,ST.snoc (l:=z::l) h1.2.2 h2 λw hw=>h3 w (by rw[List.getLast?_cons_cons];exact hw)⟩
theorem NF.adj{l:List AD}(h:NF l):ST l:=by
 induction h with
 | nil=>trivial
 | @snoc out y h e ih =>
  unfold Ah at e;have nd:¬Bg y:=λc=>by
   rw[nS c]at e;have:=congrArg List.length e;simp at this
  rw[nR nd]at e;refine ih.snoc nd λz b k=>?_;rw[b]at e;dsimp only at e;unfold jj at k;rw[nS k]at e;have a:out≠[]:=λh=>by rw[h]at b;cases b
  have:=congrArg List.length e;have:=qC.2 a;simp at *;omega
theorem ST.fold:∀{l:List AD} {x:AD} {out:List AD},ST (x::l)->l.foldl Ah (out++[x])=out++x::l
 | [],_,_,_=>rfl
 | y :: l, x, out, h => by
  have nd:¬Bg y:=by
   cases l with
   | nil=>exact h.2.2
   | cons=>exact h.2.2.1
  have e:Ah (out++[x]) y=(out++[x])++[y]:=by
   unfold Ah;rw[nR nd,ws];dsimp only;have a:=h.2.1;unfold jj at a;rw[nR a]
  rw[qH,e,ST.fold h.2.2];simp
theorem ST.fix{l:List AD}(h:ST l):l.foldl Ah []=l:=by
 cases l with
 | nil=>rfl
 | cons x l =>
  have nd:¬Bg x:=by
   cases l with
   | nil=>exact h
   | cons=>exact h.1
  have e:Ah [] x=[]++[x]:=by unfold Ah;rw[nR nd];rfl
  rw[qH,e,h.fold];rfl
def Uc:Nat->List AD->Prop
 | 0,_=>False
 | N+1,l=>ST l/\∀x∈l,Uc N x.W/\∀r∈x.R,r.cells≠[]/\∀c∈r.cells,Uc N c.W
theorem Uc.fix:∀{N:Nat} {l:List AD},Uc N l->Ae l=l
 | 0,_,h=>h.elim
 | N + 1, l, ⟨h1, h2⟩ => by
  have:AD.nrmL l=l:=by
   rw[wL]
   conv=>rhs;rw[<-wz l]
   refine qN λx f=>?_;obtain⟨g1,a⟩:=h2 x f;have hr:=F7 λr hr=>(a r hr).1;have e:x.R.map AM.N=x.R:=by
    conv=>rhs;rw[<-wz x.R]
    refine qN λr hr=>?_;have b:r.cells.map AG.N=r.cells:=by
     conv=>rhs;rw[<-wz r.cells]
     refine qN λc d=>?_;rw[AG.zj,Uc.fix ((a r hr).2 c d)];cases c;rfl
    rw[AM.zj,b];cases r;rfl
   rw[AD.zj,hr,e,Uc.fix g1];cases x;rfl
  unfold Ae Eg;rw[this,h1.fix]
section
variable{hp:AF->Prop}{T:Int->Prop}
theorem KC:∀{N:Nat} {l:List AD},wf hp T N l->Uc N (Ae l)
 | 0,_,h=>h.elim
 | N+1,l,H=>by
  refine⟨(NF.folds _ .nil).adj,?_⟩;unfold Ae Eg;rw[wL];refine JL (p:=λx=>Uc N x.W/\∀r∈x.R,r.cells≠[]/\∀c∈r.cells,Uc N c.W) (λx t h=>h) _ _ (λy g=>by cases g) λy g=>?_;obtain⟨x,j,rfl⟩:=qb.1 g;obtain⟨a,b,c,d,e,f,w⟩:=DP.1 H x j;have hr:=F7 λr hr=>(w r hr).2.1;rw[AD.zj,hr];refine⟨KC f,λr hr=>?_⟩;obtain⟨r0,h0,rfl⟩:=qb.1 hr;obtain⟨u,v,z⟩:=w r0 h0;rw[AM.zj];refine⟨by show r0.cells.map _≠[];simpa using v,λc i=>?_⟩;obtain⟨c0,h1,rfl⟩:=qb.1 i;rw[AG.zj];exact KC (z c0 h1).2.2
theorem WH{g:AF->AF}{p:Int->Int->Int->Int}{q:Int->Int}(hg:∀a b,hp a->hp b->g a=g b->a=b):∀{l:List AD},(∀x∈l,hp x.H)->ST l->ST (l.map (AD.gm g p q))
 | [],_,_=>trivial
 | [x],_,h=>λe=>h ((Ni g x).1 e)
 | x::y::l,hh,h=>by
  refine⟨λe=>h.1 ((Ni g x).1 e),λe=>h.2.1 ?_,WH hg (l:=y::l) (λz i=>hh z (by simp only[qd];exact .inr (by simpa using i))) h.2.2⟩;obtain⟨d,f,c⟩:=e;rw[AD.gm_eq]at d f c;rw[AD.gm_eq g p q y]at c;exact⟨d,f,hg _ _ (hh x nO) (hh y nO) c⟩
theorem TM{g:AF->AF}{p:Int->Int->Int->Int}{q:Int->Int}(hg:∀a b,hp a->hp b->g a=g b->a=b):∀{N:Nat} {l:List AD},wf hp T N l->Uc N l->Uc N (AD.gmL g p q l)
 | 0,_,h,_=>h.elim
 | N+1,l,H,⟨h1,h2⟩=>by
  rw[AD.gmL_eq];have H:=DP.1 H;refine⟨WH hg (λx i=>(H x i).H) h1,λy m=>?_⟩;obtain⟨x,i,rfl⟩:=qb.1 m;obtain⟨a,b,c,d,e,f,w⟩:=H x i;rw[AD.gm_eq];refine⟨TM hg f (h2 x i).1,λr hr=>?_⟩;obtain⟨r0,h0,rfl⟩:=qb.1 hr;rw[AM.gm_eq];refine⟨by show r0.cells.map _≠[];simpa using((h2 x i).2 r0 h0).1,λc k=>?_⟩;obtain⟨c0,j,rfl⟩:=qb.1 k;rw[AG.gm_eq];exact TM hg ((w r0 h0).2.2 c0 j).2.2 (((h2 x i).2 r0 h0).2 c0 j)
end
mutual
theorem eM:∀(x:AD)(c:Int),Ft c (Ft c x).1=Ft c x
 | .mk k co i t h f r,c=>by
  rw[Ft];split
  . next e=>dsimp only;rw[Ft,nS e,QJ f]
  . next e=>
    split
    . next e2=>dsimp only;rw[Ft,nR e,nS e2,YW r]
    . next e2=>dsimp only;rw[Ft,nR e,nR e2]
theorem QJ:∀(l:List AD)(c:Int),Cz c (Cz c l).1=Cz c l
 | [],c=>by rw[Cz,Cz]
 | x::l,c=>by rw[Cz];dsimp only;rw[Cz,eM x,QJ l]
theorem eN:∀(x:AM)(c:Int),Ii c (Ii c x).1=Ii c x
 | .mk h cs,c=>by rw[Ii];dsimp only;rw[Ii,YV cs]
theorem YW:∀(l:List AM)(c:Int),Dh c (Dh c l).1=Dh c l
 | [],c=>by rw[Dh,Dh]
 | x::l,c=>by rw[Dh];dsimp only;rw[Dh,eN x,YW l]
theorem eL:∀(x:AG)(c:Int),Ih c (Ih c x).1=Ih c x
 | .mk i h f,c=>by rw[Ih];dsimp only;rw[Ih,QJ f]
theorem YV:∀(l:List AG)(c:Int),Dg c (Dg c l).1=Dg c l
 | [],c=>by rw[Dg,Dg]
 | x::l,c=>by rw[Dg];dsimp only;rw[Dg,eL x,YV l]
end
mutual
theorem eJ:∀(x:AD)(c:Int),AD.hd (Ft c x).1=AD.hd x
 | .mk k co i t h f r,c=>by
  rw[Ft];split
  . next e=>dsimp only;rw[AD.hd,AD.hd,N8 f]
  . next e=>
    split
    . next e2=>dsimp only;rw[AD.hd,AD.hd,YU r]
    rfl
theorem N8:∀(l:List AD)(c:Int),AD.hdL (Cz c l).1=AD.hdL l
 | [],c=>by rw[Cz]
 | x::l,c=>by rw[Cz];dsimp only;rw[AD.hdL,AD.hdL,eJ x,N8 l]
theorem eK:∀(x:AM)(c:Int),AM.hd (Ii c x).1=AM.hd x
 | .mk h cs,c=>by rw[Ii];dsimp only;rw[AM.hd,AM.hd,YT cs]
theorem YU:∀(l:List AM)(c:Int),AM.hdL (Dh c l).1=AM.hdL l
 | [],c=>by rw[Dh]
 | x::l,c=>by rw[Dh];dsimp only;rw[AM.hdL,AM.hdL,eK x,YU l]
theorem eI:∀(x:AG)(c:Int),AG.hd (Ih c x).1=AG.hd x
 | .mk i h f,c=>by rw[Ih];dsimp only;rw[AG.hd,AG.hd,N8 f]
theorem YT:∀(l:List AG)(c:Int),AG.hdL (Dg c l).1=AG.hdL l
 | [],c=>by rw[Dg]
 | x::l,c=>by rw[Dg];dsimp only;rw[AG.hdL,AG.hdL,eI x,YT l]
end
mutual
theorem eF:∀(x:AD)(c:Int),AD.an (Ft c x).1=AD.an x
 | .mk k co i t h f r,c=>by
  rw[Ft];split
  . next e=>dsimp only;rw[AD.an,AD.an,QI f,nR (show ¬k=8 by omega),nR (show ¬k=8 by omega)]
  . next e=>
    split
    . next e2=>dsimp only;rw[AD.an,AD.an,YN r,nR (show ¬k=8 by omega),nR (show ¬k=8 by omega)]
    rfl
theorem QI:∀(l:List AD)(c:Int),AD.anL (Cz c l).1=AD.anL l
 | [],c=>by rw[Cz]
 | x::l,c=>by rw[Cz];dsimp only;rw[AD.anL,AD.anL,eF x,QI l]
theorem eG:∀(x:AM)(c:Int),AM.an (Ii c x).1=AM.an x
 | .mk h cs,c=>by rw[Ii];dsimp only;rw[AM.an,AM.an,YM cs]
theorem YN:∀(l:List AM)(c:Int),AM.anL (Dh c l).1=AM.anL l
 | [],c=>by rw[Dh]
 | x::l,c=>by rw[Dh];dsimp only;rw[AM.anL,AM.anL,eG x,YN l]
theorem eE:∀(x:AG)(c:Int),AG.an (Ih c x).1=AG.an x
 | .mk i h f,c=>by rw[Ih];dsimp only;rw[AG.an,AG.an,QI f]
theorem YM:∀(l:List AG)(c:Int),AG.anL (Dg c l).1=AG.anL l
 | [],c=>by rw[Dg]
 | x::l,c=>by rw[Dg];dsimp only;rw[AG.anL,AG.anL,eE x,YM l]
end
mutual
theorem eS:∀(x:AD)(c:Int),AD.us (Ft c x).1=AD.us x
 | .mk k co i t h f r,c=>by
  rw[Ft];split
  . next e=>dsimp only;rw[AD.us,AD.us,QL f]
  . next e=>
    split
    . next e2=>dsimp only;rw[AD.us,AD.us,Yb r]
    rfl
theorem QL:∀(l:List AD)(c:Int),AD.U (Cz c l).1=AD.U l
 | [],c=>by rw[Cz]
 | x::l,c=>by rw[Cz];dsimp only;rw[AD.U,AD.U,eS x,QL l]
theorem eT:∀(x:AM)(c:Int),AM.us (Ii c x).1=AM.us x
 | .mk h cs,c=>by rw[Ii];dsimp only;rw[AM.us,AM.us,Ya cs]
theorem Yb:∀(l:List AM)(c:Int),AM.U (Dh c l).1=AM.U l
 | [],c=>by rw[Dh]
 | x::l,c=>by rw[Dh];dsimp only;rw[AM.U,AM.U,eT x,Yb l]
theorem eR:∀(x:AG)(c:Int),AG.us (Ih c x).1=AG.us x
 | .mk i h f,c=>by rw[Ih];dsimp only;rw[AG.us,AG.us,QL f]
theorem Ya:∀(l:List AG)(c:Int),AG.U (Dg c l).1=AG.U l
 | [],c=>by rw[Dg]
 | x::l,c=>by rw[Dg];dsimp only;rw[AG.U,AG.U,eR x,Ya l]
end
abbrev p6(p:Int->Int->Int->Int)(k c i:Int):Int:=if k=6\/k=7 then i else p k c i
section
variable{g:AF->AF}{p:Int->Int->Int->Int}{q:Int->Int}{hp:AF->Prop}{T:Int->Prop}
def ZX(g:AF->AF)(p:Int->Int->Int->Int)(q:Int->Int)(l:List AD):Prop:=∀c,Cz c (AD.gmL g p q l)=(AD.gmL g (p6 p) id (Cz c l).1,(Cz c l).2)
theorem YQ:∀(l:List AG)(c:Int),(∀y∈l,ZX g p q y.W)->Dg c (AG.gmL g p q l)=(AG.gmL g (p6 p) id (Dg c l).1,(Dg c l).2)
 | [],c,_=>by rw[AG.gmL,Dg,AG.gmL]
 | .mk i h f::l,c,hl=>by
  have h1:ZX g p q f:=hl (.mk i h f) nO;rw[AG.gmL,AG.gm,Dg,Dg,Ih,Ih,h1];dsimp only;rw[YQ l _ λy a=>hl y (by simp[a]),AG.gmL,AG.gm];rfl
theorem YR:∀(l:List AM)(c:Int),(∀r∈l,∀y∈r.cells,ZX g p q y.W)->Dh c (AM.gmL g p q l)=(AM.gmL g (p6 p) id (Dh c l).1,(Dh c l).2)
 | [],c,_=>by rw[AM.gmL,Dh,AM.gmL]
 | .mk h cs::l,c,hl=>by
  have h1:∀y∈cs,ZX g p q y.W:=hl (.mk h cs) nO;rw[AM.gmL,AM.gm,Dh,Dh,Ii,Ii,YQ cs _ h1];dsimp only;rw[YR l _ λy a=>hl y (by simp[a]),AM.gmL,AM.gm]
theorem eH(x:AD)(c:Int)(k6:x.l≠6->x.W=[])(k7:x.l≠7->x.R=[])(b:ZX g p q x.W)(hr:∀r∈x.R,∀y∈r.cells,ZX g p q y.W):Ft c (AD.gm g p q x)=(AD.gm g (p6 p) id (Ft c x).1,(Ft c x).2):=by
 obtain⟨k,co,i,t,h,f,r⟩:=x;have k6:k≠6->f=[]:=k6;have k7:k≠7->r=[]:=k7;have b:ZX g p q f:=b;have hr:∀x∈r,∀y∈x.cells,ZX g p q y.W:=hr;rw[AD.gm,Ft,Ft];by_cases e:k=6;rw[nS e,nS e,b,k7 nN,AD.gm,p6,nS (.inl e),AM.gmL,AM.gmL];rw[nR e,nR e,k6 e];by_cases a:k=7;rw[nS a,nS a,YR r _ hr,AD.gm,p6,nS (.inr a),AD.gmL,AD.gmL];rw[nR a,nR a,k7 a,AD.gm,p6,nR nN,AD.gmL,AD.gmL,AM.gmL,AM.gmL]
theorem YS:∀(l:List AD)(c:Int),(∀x∈l,∀c,Ft c (AD.gm g p q x)=(AD.gm g (p6 p) id (Ft c x).1,(Ft c x).2))->Cz c (AD.gmL g p q l)=(AD.gmL g (p6 p) id (Cz c l).1,(Cz c l).2)
 | [],c,_=>by rw[AD.gmL,Cz,AD.gmL]
 | x::l,c,h=>by
  rw[AD.gmL,Cz,Cz,h x nO];dsimp only;rw[YS l _ λy a=>h y (by simp[a]),AD.gmL]
theorem YO:∀(N:Nat)(l:List AD),wf hp T N l->ZX g p q l
 | 0,_,h=>h.elim
 | N+1,l,H=>λc=>by
  refine YS l c λx a c=>?_;have w:=DP.1 H x a;exact eH x c w.k6 w.k7 (YO N _ w.W) λr hr y b=>YO N _ ((w.R r hr).2.2 y b).2.2
end
section
variable{hp:AF->Prop}{T:Int->Prop}
structure cU(x y:AD):Prop where
 l:y.l=x.l
 code:y.code=x.code
 J:y.J=x.J
 H:y.H=x.H
 R:y.R=[]↔x.R=[]
theorem aj(l:List AM)(c:Int):(Dh c l).1=[]↔l=[]:=by cases l<;>simp[Dh]
theorem Uq(l:List AG)(c:Int):(Dg c l).1=[]↔l=[]:=by cases l<;>simp[Dg]
theorem Ry(x:AD)(c:Int):cU x (Ft c x).1:=by
 obtain⟨k,co,i,t,h,f,r⟩:=x;rw[Ft];split;exact⟨rfl,rfl,rfl,rfl,Iff.rfl⟩;split;exact⟨rfl,rfl,rfl,rfl,aj r _⟩;exact⟨rfl,rfl,rfl,rfl,Iff.rfl⟩
theorem cU.drop{x y:AD}(h:cU x y):Bg y↔Bg x:=by unfold Bg;rw[h.l,h.R,h.J]
theorem WI:∀{l:List AD} (c:Int),ST l->ST (Cz c l).1
 | [],c,_=>by rw[Cz];trivial
 | [x],c,h=>by rw[Cz,Cz];exact λe=>h ((Ry x c).drop.1 e)
 | x::y::l,c,h=>by
  have h2:=WI (l:=y::l) (Ft c x).2 h.2.2;rw[Cz];rw[Cz]at h2 ⊢;refine⟨λe=>h.1 ((Ry x c).drop.1 e),λe=>h.2.1 ?_,h2⟩;obtain⟨a,b,d⟩:=e;rw[(Ry _ _).l]at a b;rw[(Ry _ _).H,(Ry _ _).H]at d;exact⟨a,b,d⟩
theorem Mw:∀{l:List AD} {c:Int} {y:AD},y∈(Cz c l).1->∃x∈l,∃a,y=(Ft a x).1
 | [],c,y,h=>by rw[Cz]at h;cases h
 | x::l,c,y,h=>by
  rw[Cz]at h;rcases qd.1 h with e|e;exact⟨x,by simp,c,e⟩;obtain⟨z,b,a,e⟩:=Mw e;exact⟨z,by simp[b],a,e⟩
theorem My:∀{l:List AM} {c:Int} {y:AM},y∈(Dh c l).1->∃x∈l,∃a,y=(Ii a x).1
 | [],c,y,h=>by rw[Dh]at h;cases h
 | x::l,c,y,h=>by
  rw[Dh]at h;rcases qd.1 h with e|e;exact⟨x,by simp,c,e⟩;obtain⟨z,b,a,e⟩:=My e;exact⟨z,by simp[b],a,e⟩
theorem Mv:∀{l:List AG} {c:Int} {y:AG},y∈(Dg c l).1->∃x∈l,∃a,y=(Ih a x).1
 | [],c,y,h=>by rw[Dg]at h;cases h
 | x::l,c,y,h=>by
  rw[Dg]at h;rcases qd.1 h with e|e;exact⟨x,by simp,c,e⟩;obtain⟨z,b,a,e⟩:=Mv e;exact⟨z,by simp[b],a,e⟩
theorem LA(x:AD)(c:Int):(Ft c x).1.W=x.W\/∃c',(Ft c x).1.W=(Cz c' x.W).1:=by
 obtain⟨k,co,i,t,h,f,r⟩:=x;rw[Ft];split;exact .inr ⟨c+1,rfl⟩;split<;>exact .inl rfl
theorem LB(x:AD)(c:Int):(Ft c x).1.R=x.R\/∃c',(Ft c x).1.R=(Dh c' x.R).1:=by
 obtain⟨k,co,i,t,h,f,r⟩:=x;rw[Ft];split;exact .inl rfl;split;exact .inr ⟨c+1,rfl⟩;exact .inl rfl
theorem TN:∀{N:Nat} {l:List AD} (c:Int),Uc N l->Uc N (Cz c l).1
 | 0,_,_,h=>h.elim
 | N+1,l,c,⟨h1,h2⟩=>by
  refine⟨WI c h1,λy b=>?_⟩;obtain⟨x,m,d,rfl⟩:=Mw b;obtain⟨g1,j⟩:=h2 x m;refine⟨?_,λr hr=>?_⟩;rcases LA x d with e|⟨g,e⟩
  rw[e];exact g1;rw[e];exact TN g g1;rcases LB x d with e|⟨g,e⟩
  rw[e]at hr;exact j r hr;rw[e]at hr;obtain⟨r0,h0,c3,rfl⟩:=My hr;obtain⟨v,z⟩:=j r0 h0;obtain⟨hd,k⟩:=r0;rw[Ii];refine⟨λe=>v ((Uq k _).1 e),λy b=>?_⟩;obtain⟨c0,a,c4,rfl⟩:=Mv b;have:=z c0 a;obtain⟨i,hh,f⟩:=c0;rw[Ih];exact TN _ this
theorem ZE:∀{N:Nat} {l:List AD} (c:Int),wf hp T N l->wf hp (λ_=>True) N (Cz c l).1
 | 0,_,_,h=>h.elim
 | N+1,l,c,H=>DP.2 λy m=>by
  obtain⟨x,p,b,rfl⟩:=Mw m;have W:=DP.1 H x p;have S:=Ry x b;have a:∀{l:List AD},wf hp T N l->wf hp (λ_=>True) N l:=λh=>OQ (λ_ h=>h) (λ_ _=>trivial) h;refine⟨by rw[S.H];exact W.H,λk=>?_,λk=>?_,λk=>?_,λ_=>trivial,?_,λr hr=>?_⟩;rw[S.l]at k;have:=W.k6 k;rcases LA x b with e|⟨d,e⟩
  rw[e];exact this;rw[e,this,Cz];rw[S.l]at k;exact S.R.2 (W.k7 k);rw[S.l]at k;exact λg=>W.ne k (S.R.1 g);rcases LA x b with e|⟨d,e⟩
  rw[e];exact a W.W;rw[e];exact ZE d W.W;rcases LB x b with e|⟨d,e⟩
  rw[e]at hr;obtain⟨u,v,z⟩:=W.R r hr;exact⟨u,v,λc n=>⟨trivial,(z c n).2.1,a (z c n).2.2⟩⟩;rw[e]at hr;obtain⟨r0,h0,c3,rfl⟩:=My hr;obtain⟨u,v,z⟩:=W.R r0 h0;obtain⟨hd,o⟩:=r0;rw[Ii];refine⟨u,λe=>v ((Uq o _).1 e),λy m=>?_⟩;obtain⟨c0,j,c4,rfl⟩:=Mv m;obtain⟨_,q,z3⟩:=z c0 j;obtain⟨i,hh,f⟩:=c0;rw[Ih];exact⟨trivial,q,ZE _ z3⟩
end
theorem G4{u:Int->Int}{x:Int}:∀{L:List Int},(∀a∈L,u a=u x->a=x)->Am (L.map u) (u x)=Am L x
 | [],_=>rfl
 | a::L,h=>by
  rw[qg,Am,Am,G4 λb hb=>h b (by simp[hb])];by_cases e:a=x;rw[nS e,nS (by rw[e])];rw[nR e,nR λg=>e (h a nO g)]
theorem NJ{w:Int->Int}:∀(l t:List Int),(∀a∈t++l,∀b∈l,w a=w b->a=b)->BD (t.map w) (l.map w)=(BD t l).map w
 | [],_,_=>rfl
 | x :: l, t, h => by
  have e:B8 (t.map w) (w x)=(B8 t x).map w:=by
   unfold B8;by_cases c:x∈t;rw[nS c,nS (qb.2 ⟨x,c,rfl⟩)];rw[nR c,nR];simp;intro g;obtain⟨a,d,hh⟩:=qb.1 g;exact c (by rw[<-h a (by simp[d]) x nO hh];exact d)
  show BD (B8 (t.map w) (w x)) (l.map w)=(BD (B8 t x) l).map w;rw[e];refine NJ l _ λa d b hb=>h a ?_ b (by simp[hb]);rcases qf.1 d with g|g;unfold B8 at g;split at g;simp[g];rcases qf.1 g with g|g;simp[g];rw[qA]at g;simp[g];simp[g]
section
variable(g g':AF->AF)(f f':Int×Int->Int)
mutual
theorem iT:∀x:AD,AD.mi g' f' (AD.mi g f x)=AD.mi (λh=>g' (g h)) (λa=>f' (a.1,f a)) x
 | .mk k c i t h fl r=>by
  rw[AD.mi,AD.mi,AD.mi,P5 fl,Xu r];congr 1;split
  . next e=>rfl
  rfl
theorem P5:∀l:List AD,AD.miL g' f' (AD.miL g f l)=AD.miL (λh=>g' (g h)) (λa=>f' (a.1,f a)) l
 | []=>by rw[AD.miL,AD.miL,AD.miL]
 | x::l=>by rw[AD.miL,AD.miL,AD.miL,iT x,P5 l]
theorem dd:∀x:AM,AM.mi g' f' (AM.mi g f x)=AM.mi (λh=>g' (g h)) (λa=>f' (a.1,f a)) x
 | .mk h c=>by rw[AM.mi,AM.mi,AM.mi,Xt c]
theorem Xu:∀l:List AM,AM.miL g' f' (AM.miL g f l)=AM.miL (λh=>g' (g h)) (λa=>f' (a.1,f a)) l
 | []=>by rw[AM.miL,AM.miL,AM.miL]
 | x::l=>by rw[AM.miL,AM.miL,AM.miL,dd x,Xu l]
theorem dc:∀x:AG,AG.mi g' f' (AG.mi g f x)=AG.mi (λh=>g' (g h)) (λa=>f' (a.1,f a)) x
 | .mk i h fl=>by rw[AG.mi,AG.mi,AG.mi,P5 fl]
theorem Xt:∀l:List AG,AG.miL g' f' (AG.miL g f l)=AG.miL (λh=>g' (g h)) (λa=>f' (a.1,f a)) l
 | []=>by rw[AG.miL,AG.miL,AG.miL]
 | x::l=>by rw[AG.miL,AG.miL,AG.miL,dc x,Xt l]
end
mutual
theorem fk:∀x:AD,(AD.mi g f x).an=x.an.map λa=>(a.1,f a)
 | .mk k c i t h fl r=>by
  rw[AD.mi,AD.an,AD.an,NN fl,WN r,qc,qc];congr 1;split
  . next e=>rfl
  rfl
theorem NN:∀l:List AD,AD.anL (AD.miL g f l)=(AD.anL l).map λa=>(a.1,f a)
 | []=>by rw[AD.miL,AD.anL];rfl
 | x::l=>by rw[AD.miL,AD.anL,AD.anL,fk x,NN l,qc]
theorem ck:∀x:AM,(AM.mi g f x).an=x.an.map λa=>(a.1,f a)
 | .mk h c=>by rw[AM.mi,AM.an,AM.an,WM c]
theorem WN:∀l:List AM,AM.anL (AM.miL g f l)=(AM.anL l).map λa=>(a.1,f a)
 | []=>by rw[AM.miL,AM.anL];rfl
 | x::l=>by rw[AM.miL,AM.anL,AM.anL,ck x,WN l,qc]
theorem cj:∀x:AG,(AG.mi g f x).an=x.an.map λa=>(a.1,f a)
 | .mk i h fl=>by rw[AG.mi,AG.an,AG.an,NN fl]
theorem WM:∀l:List AG,AG.anL (AG.miL g f l)=(AG.anL l).map λa=>(a.1,f a)
 | []=>by rw[AG.miL,AG.anL];rfl
 | x::l=>by rw[AG.miL,AG.anL,AG.anL,cj x,WM l,qc]
end
end
section
variable(g:AF->AF)(p:Int->Int->Int->Int)(q:Int->Int)
mutual
theorem gz:∀x:AD,(AD.gm g p q x).hd=x.hd.map g
 | .mk k c i t h fl r=>by rw[AD.gm,AD.hd,AD.hd,Np fl,XR r,qg,qc]
theorem Np:∀l:List AD,AD.hdL (AD.gmL g p q l)=(AD.hdL l).map g
 | []=>by rw[AD.gmL,AD.hdL];rfl
 | x::l=>by rw[AD.gmL,AD.hdL,AD.hdL,gz x,Np l,qc]
theorem dO:∀x:AM,(AM.gm g p q x).hd=x.hd.map g
 | .mk h c=>by rw[AM.gm,AM.hd,AM.hd,XQ c,qg]
theorem XR:∀l:List AM,AM.hdL (AM.gmL g p q l)=(AM.hdL l).map g
 | []=>by rw[AM.gmL,AM.hdL];rfl
 | x::l=>by rw[AM.gmL,AM.hdL,AM.hdL,dO x,XR l,qc]
theorem dN:∀x:AG,(AG.gm g p q x).hd=x.hd.map g
 | .mk i h fl=>by rw[AG.gm,AG.hd,AG.hd,Np fl,qg]
theorem XQ:∀l:List AG,AG.hdL (AG.gmL g p q l)=(AG.hdL l).map g
 | []=>by rw[AG.gmL,AG.hdL];rfl
 | x::l=>by rw[AG.gmL,AG.hdL,AG.hdL,dN x,XQ l,qc]
end
variable{g p q}{u:Int->Int}(hg:∀ h,(g h).all=h.all.map u)
include hg
mutual
theorem jC:∀x:AD,(AD.gm g p q x).us=x.us.map u
 | .mk k c i t h fl r=>by
  rw[AD.gm,AD.us,AD.us,hg,qc];congr 1;split;exact Qa fl;split;exact ZA r;rfl
theorem Qa:∀l:List AD,AD.U (AD.gmL g p q l)=(AD.U l).map u
 | []=>by have _:=hg;rw[AD.gmL,AD.U];rfl
 | x::l=>by rw[AD.gmL,AD.U,AD.U,jC x,Qa l,qc]
theorem fF:∀x:AM,(AM.gm g p q x).us=x.us.map u
 | .mk h c=>by rw[AM.gm,AM.us,AM.us,Y9 c,hg,qc]
theorem ZA:∀l:List AM,AM.U (AM.gmL g p q l)=(AM.U l).map u
 | []=>by have _:=hg;rw[AM.gmL,AM.U];rfl
 | x::l=>by rw[AM.gmL,AM.U,AM.U,fF x,ZA l,qc]
theorem fE:∀x:AG,(AG.gm g p q x).us=x.us.map u
 | .mk i h fl=>by rw[AG.gm,AG.us,AG.us,Qa fl,hg,qc]
theorem Y9:∀l:List AG,AG.U (AG.gmL g p q l)=(AG.U l).map u
 | []=>by have _:=hg;rw[AG.gmL,AG.U];rfl
 | x::l=>by rw[AG.gmL,AG.U,AG.U,fE x,Y9 l,qc]
end
end
def KS(u:Int->Int)(v:Int->Int->Int)(h:AF):AF:=
 { h with I:=u h.I,move:=v h.I h.move,Y:=h.Y.map λd=>{ d with rev:=u d.rev,move:=v d.rev d.move },Z:=h.Z.map λl=>{ l with rev:=u l.rev } }
theorem Tz(u:Int->Int)(v:Int->Int->Int)(h:AF):(KS u v h).all=h.all.map u:=by
 simp[AF.all,KS,wt]
theorem aT(u:Int->Int)(v:Int->Int->Int)(h:AF):(KS u v h).mvs=h.mvs.map λp=>(u p.1,v p.1 p.2):=by
 simp[AF.mvs,KS,wt]
theorem aQ(u:Int->Int)(v:Int->Int->Int)(a:List AF):C0 (a.map (KS u v))=(C0 a).map λp=>(u p.1,v p.1 p.2):=by
 unfold C0;rw[List.flatMap_map,List.map_flatMap];congr 1;funext h;exact aT u v h
def Mc(u:Int->Int)(v:Int->Int->Int)(f:Int×Int->Int)(wc:Int->Int)(e:AH):AH:=
 ⟨AD.miL (KS u v) f e.W,KS u v e.T0,e.V.map λr=>{ r with id:=u r.id },{ e.S with C:=e.S.C.map λc=>{ c with id:=wc c.id,parent:=wc c.parent } }⟩
structure VD(u:Int->Int)(v:Int->Int->Int)(f:Int×Int->Int)(wb wc:Int->Int)(e:AH):Prop where
 u0:u 0=0
 ui:∀a∈A5 e,∀b,b∈A5 e\/b=0->u a=u b->a=b
 v0:∀r,v r 0=0
 vn:∀r m,(r,m)∈C0 (AD.hdL e.W)->m≠0->v r m≠0
 vm:∀r m m',(r,m)∈C0 (AD.hdL e.W)->(r,m')∈C0 (AD.hdL e.W)->m≠0->m'≠0->m<m'->v r m<v r m'
 fe:∀a∈AD.anL e.W,f a=if a.1<=2 then wb a.2 else wc a.2
 wbi:∀a∈AD.anL e.W,a.1<=2->∀b∈AD.anL e.W,b.1<=2->wb a.2=wb b.2->a.2=b.2
 wc0:wc 0=0
 wci:∀x y,(x∈Es e\/(∃a∈AD.anL e.W,¬a.1<=2/\a.2=x))->(y∈Es e\/y=0\/(∃a∈AD.anL e.W,¬a.1<=2/\a.2=y))->wc x=wc y->x=y
theorem Uf(u:Int->Int):∀(l:List CI)(i:Int),EP (l.map λr=>{ r with id:=u r.id }) i=EP l i
 | [],_=>rfl
 | r::l,i=>by rw[qg,EP,EP,Uf u l]
theorem GS.par:∀{l:List AX} {t:List Int},GS t l->∀c∈l,c.parent=0\/c.parent∈t++l.map (·.id)
 | [],_,_,c,h=>by cases h
 | x::l,t,h,c,hc=>by
  obtain⟨_,_,h2,a⟩:=h;rcases qd.1 hc with e|e;rw[e];exact h2.imp_right λg=>qx _ g;rcases a.par c e with g|g;exact .inl g;right;simpa using g
theorem HR.mvs{R:List Int}{h:AF}(H:HR R h){p:Int×Int}(hp:p∈h.mvs):p.1∈R\/p=(0,0):=by
 unfold AF.mvs at hp;rcases qd.1 hp with e|e;subst e;by_cases h0:h.I=0;right;rw[h0,H.move h0];exact .inl (H.I h0);obtain⟨d,hd,rfl⟩:=qb.1 e;exact .inl (H.Y d hd)
section
variable{u:Int->Int}{v:Int->Int->Int}{f:Int×Int->Int}{wb wc:Int->Int}{e:AH}{N:Nat}
theorem L5(_H:Gm N e)(K:VD u v f wb wc e){r:Int}(hr:r∈A5 e\/r=0):Am ((A5 e).map u) (u r)=Am (A5 e) r:=
 G4 λa b h=>K.ui a b r hr h
theorem fC(H:Gm N e)(K:VD u v f wb wc e){r m:Int}(hm:(r,m)∈C0 (AD.hdL e.W)):
 Ch ((A5 e).map u) (((C0 (AD.hdL e.W)).map λp=>(u p.1,v p.1 p.2)).foldl (BA ((A5 e).map u)) (List.replicate ((A5 e).map u).length [])) (u r) (v r m)=Ch (A5 e) (KX e) r m:=by
 obtain⟨T,hw⟩:=H.wf;have w:∀p∈C0 (AD.hdL e.W),p.1∈A5 e\/p=(0,0):=λp hp=>by
  unfold C0 at hp;obtain⟨h,hh,hp⟩:=qJ.1 hp;exact(Jm hw h hh).mvs hp
 have l:∀p∈C0 (AD.hdL e.W),Am ((A5 e).map u) (u p.1)=Am (A5 e) p.1:=λp hp=>by
  rcases w p hp with g|g;exact L5 H K (.inl g);rw[g];exact L5 H K (.inr rfl)
 have hk:=l (r,m) hm;dsimp only at hk;unfold Ch;rw[hk];by_cases h0:Am (A5 e) r≠0;rw[nS h0,nS h0];have hr:=CN.1 h0;have hg:=EW (A5 e) r;have d:∀n k,Gu (List.replicate n ([]:List Int)) k=[]:=λn k=>by unfold Gu;rw[List.getElem?_replicate];split<;>rfl
 obtain⟨_,a2⟩:=No (A5 e) (C0 (AD.hdL e.W)) (List.replicate (A5 e).length []) λk=>by rw[d];exact List.Pairwise.nil
 obtain⟨_,q⟩:=No ((A5 e).map u) ((C0 (AD.hdL e.W)).map λp=>(u p.1,v p.1 p.2)) (List.replicate ((A5 e).map u).length []) λk=>by rw[d];exact List.Pairwise.nil
 obtain⟨a3,a4⟩:=a2 (Am (A5 e) r-1).toNat (by rw[List.length_replicate];omega);obtain⟨s,t⟩:=q (Am (A5 e) r-1).toNat (by rw[List.length_replicate,qj];omega);rw[show(C0 (AD.hdL e.W)).foldl (BA (A5 e)) (List.replicate (A5 e).length [])=KX e from rfl]at a3 a4;have c:∀y,y∈Gu (KX e) (Am (A5 e) r-1).toNat↔y≠0/\(r,y)∈C0 (AD.hdL e.W):=λy=>by
  rw[a4,d];constructor;rintro(g|⟨g1,⟨a,b⟩,i,g3,j⟩);cases g;dsimp only at g3 j;have:a=r:=(G0 hr nN).symm;subst this;subst j;exact⟨g1,i⟩;rintro⟨g1,i⟩;exact .inr ⟨g1,(r,y),i,by dsimp only;omega,rfl⟩
 have el:Gu (((C0 (AD.hdL e.W)).map λp=>(u p.1,v p.1 p.2)).foldl (BA ((A5 e).map u)) (List.replicate ((A5 e).map u).length [])) (Am (A5 e) r-1).toNat=(Gu (KX e) (Am (A5 e) r-1).toNat).map (v r):=by
  refine P0 s ?_ λy=>?_;rw[List.pairwise_map];refine a3.imp_of_mem fun {a b} o hb hab=>?_
  exact K.vm r a b ((c a).1 o).2 ((c b).1 hb).2 ((c a).1 o).1 ((c b).1 hb).1 hab;rw[t,d];constructor;rintro(g|⟨g1,p',i,g3,j⟩);cases g;obtain⟨⟨a,b⟩,hp,rfl⟩:=qb.1 i;dsimp only at g3 j;have h1:=l _ hp;dsimp only at h1;have:a=r:=(G0 hr nN).symm;subst this;subst j;exact qb.2 ⟨b,(c b).2 ⟨λg=>g1 (by rw[g];exact K.v0 _),hp⟩,rfl⟩;intro g;obtain⟨b,hb,rfl⟩:=qb.1 g;obtain⟨m1,m2⟩:=(c b).1 hb;exact .inr ⟨K.vn r b m2 m1,(u r,v r b),List.mem_map.2 ⟨(r,b),m2,rfl⟩,by dsimp only;rw[hk];omega,rfl⟩
 rw[el];refine G4 λa o h=>?_;obtain⟨m1,m2⟩:=(c a).1 o;by_cases m0:m=0;rw[m0,K.v0]at h;exact absurd h (K.vn r a m2 m1);rcases Int.lt_trichotomy a m with g|g|g;have:=K.vm r a m m2 hm m1 m0 g;omega;exact g;have:=K.vm r m a hm m2 m0 m1 g;omega;rw[nR h0,nR h0]
theorem dC(H:Gm N e)(K:VD u v f wb wc e):Ip (Mc u v f wc e)=Ip e:=by
 obtain⟨T,hw⟩:=H.wf;have L:A5 (Mc u v f wc e)=(A5 e).map u:=by simp[A5,Mc,wt]
 have J:Es (Mc u v f wc e)=(Es e).map wc:=by simp[Es,Mc,wt]
 have G:AD.anL (Mc u v f wc e).W=(AD.anL e.W).map λa=>(a.1,f a):=NN _ _ _;have P:AD.hdL (Mc u v f wc e).W=(AD.hdL e.W).map (KS u v):=by show AD.hdL (AD.miL _ _ _)=_;rw[Lg,Np]
 have hC0:=H.coms.pos;have q:=H.coms.par;have z:(IA (Mc u v f wc e)).1=(IA e).1.map wb:=by
  unfold IA;rw[Jh,Jh,G];show BD [] _=(BD [] _).map wb;rw[<-NJ];congr 1;rw[List.filter_map,wo,wo];refine qN λa i=>?_;simp only[wt,qZ,decide_eq_true_eq]at i ⊢;rw[K.fe a i.1,nS i.2];intro a i b hb h;rw[qK]at i;obtain⟨x,j,rfl⟩:=qb.1 i;obtain⟨y,k,rfl⟩:=qb.1 hb;simp only[qZ,decide_eq_true_eq]at j k;exact K.wbi x j.1 j.2 y k.1 k.2 h
 have A:(IA (Mc u v f wc e)).2=(IA e).2.map wc:=by
  unfold IA;rw[Jh,Jh,G,J];show BD ((Es e).map wc) _=(BD (Es e) _).map wc;rw[<-NJ];congr 1;rw[List.filter_map,wo,wo];refine qN λa i=>?_;simp only[wt,qZ,qP,decide_eq_false_iff_not]at i ⊢;rw[K.fe a i.1,nR i.2];intro a i b hb h;obtain⟨y,k,rfl⟩:=qb.1 hb;simp only[qZ,qP,decide_eq_false_iff_not]at k;refine K.wci a _ ?_ (.inr (.inr ⟨y,k.1,k.2,rfl⟩)) h;rcases qf.1 i with g|g;exact .inl g;obtain⟨x,j,rfl⟩:=qb.1 g;simp only[qZ,qP,decide_eq_false_iff_not]at j;exact .inr ⟨x,j.1,j.2,rfl⟩
 have n:∀x∈(IA e).1,∃a∈AD.anL e.W,a.1<=2/\a.2=x:=λx j=>by
  unfold IA at j;rw[Jh]at j;have:=(Do _ _ _).1 j;simp only[vC,false_or,qb,qZ,decide_eq_true_eq]at this;obtain⟨a,h1,h2⟩:=this;exact⟨a,h1.1,h1.2,h2⟩
 have o:∀x∈(IA e).2,x∈Es e\/∃a∈AD.anL e.W,¬a.1<=2/\a.2=x:=λx j=>by
  unfold IA at j;rw[Jh]at j;have:=(Do _ _ _).1 j;refine this.imp_right λg=>?_;obtain⟨a,h1,h2⟩:=qb.1 g;simp only[qZ,qP,decide_eq_false_iff_not]at h1;exact⟨a,h1.1,h1.2,h2⟩
 have m:∀a∈AD.anL e.W,EB (IA (Mc u v f wc e)) (a.1,f a)=EB (IA e) a:=λa i=>by
  unfold EB;dsimp only;rw[z,A,K.fe a i];by_cases c:a.1<=2;rw[nS c,nS c,nS c];refine G4 λb hb h=>?_;obtain⟨y,k,h1,rfl⟩:=n b hb;exact K.wbi y k h1 a i c h;rw[nR c,nR c,nR c];exact G4 λb hb h=>K.wci b _ (o b hb) (.inr (.inr ⟨a,i,c,rfl⟩)) h
 have Q:KX (Mc u v f wc e)=((C0 (AD.hdL e.W)).map λp=>(u p.1,v p.1 p.2)).foldl (BA ((A5 e).map u)) (List.replicate ((A5 e).map u).length []):=by
  unfold KX;rw[P,aQ,L]
 have t:∀h∈AD.hdL e.W,∀p∈h.mvs,p∈C0 (AD.hdL e.W):=λh hh p hp=>qJ.2 ⟨h,hh,hp⟩;have l:∀h,HR (A5 e) h->(∀p∈h.mvs,p∈C0 (AD.hdL e.W)\/p=(0,0))->LW ((A5 e).map u) (Ch ((A5 e).map u) (KX (Mc u v f wc e))) (KS u v h)=LW (A5 e) (Ch (A5 e) (KX e)) h:=λh hh hp=>by
  have w:∀p∈h.mvs,Ch ((A5 e).map u) (KX (Mc u v f wc e)) (u p.1) (v p.1 p.2)=Ch (A5 e) (KX e) p.1 p.2:=λp E=>by
   rcases hp p E with g|g;rw[Q];exact fC H K g;rw[g];have h1:=L5 H K (r:=0) (.inr rfl);have h2:Am (A5 e) 0=0:=CU.2 H.rev0;unfold Ch;dsimp only;rw[h1,h2,nR nO,nR nO]
  have n1:=w (h.I,h.move) (by simp[AF.mvs]);have X:Am ((A5 e).map u) (u h.I)=Am (A5 e) h.I:=L5 H K (by by_cases h0:h.I=0;exact .inr h0;exact .inl (hh.I h0));have hd:(h.Y.map λd=>({ d with rev:=u d.rev,move:=v d.rev d.move }:Dx)).map (λd=>{ d with rev:=Am ((A5 e).map u) d.rev,move:=Ch ((A5 e).map u) (KX (Mc u v f wc e)) d.rev d.move })=h.Y.map λd=>{ d with rev:=Am (A5 e) d.rev,move:=Ch (A5 e) (KX e) d.rev d.move }:=by
   rw[wo];refine qN λd hd=>?_;have O:=w (d.rev,d.move) (by simp only[AF.mvs,qd,qb];exact .inr ⟨d,hd,rfl⟩);have F:=L5 H K (.inl (hh.Y d hd));dsimp only[Function.comp]at O ⊢;rw[O,F]
  have R:(h.Z.map λd=>({ d with rev:=u d.rev }:BC)).map (λd=>{ d with rev:=Am ((A5 e).map u) d.rev })=h.Z.map λd=>{ d with rev:=Am (A5 e) d.rev }:=by
   rw[wo];refine qN λd hd=>?_;have F:=L5 H K (.inl (hh.lays d hd));dsimp only[Function.comp];rw[F]
  unfold LW KS;dsimp only at n1 ⊢;rw[hd,R,n1,X]
 have s:HR (A5 e) e.T0:=⟨λg=>absurd H.endi g,λ_=>H.endm,λd hd=>(by rw[H.endd]at hd;cases hd),H.endl⟩
 unfold Ip Wf;rw[L,J];congr 1;show AD.miL _ _ (AD.miL _ _ _)=_;rw[P5];exact Ht (hp:=λh=>HR (A5 e) h/\∀p∈h.mvs,p∈C0 (AD.hdL e.W)) (λh hh=>l h hh.1 λp hp=>.inl (hh.2 p hp)) _ (λh hh=>⟨Jm hw h hh,t h hh⟩) m;exact l _ s λp hp=>.inr (by simpa[AF.mvs,H.endi,H.endm,H.endd]using hp);exact Uf u _ _;have B:((Mc u v f wc e).S.C.map (Na ((Es e).map wc)))=e.S.C.map (Na (Es e)):=?_;rw[B];rfl;show(e.S.C.map _).map _=_;rw[wo];refine qN λc M=>?_;have D:c.id∈Es e:=qb.2 ⟨c,M,rfl⟩;have U:Am ((Es e).map wc) (wc c.id)=Am (Es e) c.id:=G4 λa i h=>K.wci a _ (.inl i) (.inl D) h;have V:Am ((Es e).map wc) (wc c.parent)=Am (Es e) c.parent:=G4 λa i h=>K.wci a _ (.inl i) (by
  rcases q c M with g|g;exact .inr (.inl g);exact .inl (by simpa using g)) h
 simp only[wt,Na];rw[U,V]
end
theorem Qb{hp g:AF->Prop}{T:Int->Prop}:∀{N:Nat} {l:List AD},wf hp T N l->(∀h∈AD.hdL l,g h)->wf (λh=>hp h/\g h) T N l
 | 0,_,h,_=>h.elim
 | N+1,l,H,hh=>DP.2 λx n=>by
  obtain⟨a,b,c,d,e,f,q⟩:=DP.1 H x n;have i:∀h∈x.hd,g h:=λh hm=>hh h (by rw[AD.hdL_eq,qJ];exact⟨x,n,hm⟩);rw[AD.hd_eq]at i;refine⟨⟨a,i _ nO⟩,b,c,d,e,Qb f λh hm=>i h (by simp[hm]),λr hr=>?_⟩;have k:∀h∈r.hd,g h:=λh hm=>i h (by rw[AM.hdL_eq];simp only[qd,qf,qJ];exact .inr (.inr ⟨r,hr,hm⟩));rw[AM.hd_eq]at k;obtain⟨u,v,w⟩:=q r hr;refine⟨⟨u,k _ nO⟩,v,λc m=>?_⟩;obtain⟨o,p,s⟩:=w c m;have j:∀h∈c.hd,g h:=λh hm=>k h (by rw[AG.hdL_eq];simp only[qd,qJ];exact .inr ⟨c,m,hm⟩);rw[AG.hd_eq]at j;exact⟨o,⟨p,j _ nO⟩,Qb s λh hm=>j h (by simp[hm])⟩
theorem KA{α β:Type}{F:α->β}:∀{l c:List α},(∀a∈l,∀b∈c,F a=F b->a=b)->l.map F=c.map F->l=c
 | [],[],_,_=>rfl
 | [],b::c,_,h=>by cases h
 | a::l,[],_,h=>by cases h
 | a::l,b::c,hi,h=>by
  rw[qg,qg,List.cons.injEq]at h;rw[hi a nO b nO h.1,KA (λx d y e=>hi x (by simp[d]) y (by simp[e])) h.2]
theorem Kx{F:Int->Int}:∀{l:List Int},l.Nodup->(∀a∈l,∀b∈l,F a=F b->a=b)->(l.map F).Nodup
 | [],_,_=>List.nodup_nil
 | a::l,hn,hi=>by
  rw[qY]at hn;rw[qg,qY];refine⟨λg=>?_,Kx hn.2 λx c y d=>hi x (by simp[c]) y (by simp[d])⟩;obtain⟨b,hb,e⟩:=qb.1 g;exact hn.1 (by rw[hi a nO b (by simp[hb]) e.symm];exact hb)
structure Fk(N:Nat)(e:AH):Prop extends Gm N e where
 nf:Uc N e.W
 rn:(Cz 0 e.W).1=e.W
 used:∀r∈e.V,r.id∈AD.U e.W++e.T0.all
theorem Rf{e:AH}(h1:Ae e.W=e.W)(h2:∀r∈e.V,r.id∈AD.U e.W++e.T0.all)(h0:(0:Int)∉A5 e):e.normal=e:=by
 have hr:e.normal.V=e.V:=by
  show e.V.filter _=e.V;rw[vI];intro r hr;have:r∈e.normal.V:=(KB (λg=>h0 (by rw[<-g];exact qb.2 ⟨r,hr,rfl⟩))).2 ⟨hr,by rw[h1];exact h2 r hr⟩;exact(qZ.1 this).2
 exact W6 h1 rfl hr rfl
theorem Fk.normal{N:Nat}{e:AH}(H:Fk N e):e.normal=e:=Rf H.nf.fix H.used H.rev0
theorem Fk.renum{N:Nat}{e:AH}(H:Fk N e):e.renum=e:=W6 H.rn rfl rfl rfl
section
variable{u:Int->Int}{v:Int->Int->Int}{f:Int×Int->Int}{wb wc:Int->Int}{e:AH}{N:Nat}
theorem HR.tr{R:List Int}{h:AF}(H:HR R h)(u0:u 0=0)(v0:∀r,v r 0=0)(ui:∀a∈R,∀b,b∈R\/b=0->u a=u b->a=b)(_r0:(0:Int)∉R):HR (R.map u) (KS u v h) where
 I hi:=by
  have:h.I≠0:=λg=>hi (by show u h.I=0;rw[g,u0]);exact qb.2 ⟨h.I,H.I this,rfl⟩
 move hi:=by
  have hi:u h.I=0:=hi;have:h.I=0:=wG λg=>by
   have hm:=H.I g;exact g (ui _ hm 0 (.inr rfl) (by rw[hi,u0]))
  show v h.I h.move=0;rw[H.move this,v0]
 Y d hd:=by
  obtain⟨c,h0,rfl⟩:=qb.1 hd;exact qb.2 ⟨c.rev,H.Y c h0,rfl⟩
 lays d hd:=by
  obtain⟨c,h0,rfl⟩:=qb.1 hd;exact qb.2 ⟨c.rev,H.lays c h0,rfl⟩
theorem GS.tr{a:Int->Int}(wc0:a 0=0){S:Int->Prop}(wci:∀x y,S x->(S y\/y=0)->a x=a y->x=y):∀{l:List AX} {t:List Int},GS t l->(∀x∈t,S x)->(∀c∈l,S c.id)->GS (t.map a) (l.map λc=>{ c with id:=a c.id,parent:=a c.parent })
 | [],_,_,_,_=>trivial
 | c::l,t,⟨c0,c1,c2,c3⟩,ht,hl=>by
  have d:=hl c nO;refine⟨λg=>c0 (wci _ 0 d (.inr rfl) (by rw[wc0];exact g)),λg=>?_,?_,?_⟩;obtain⟨x,b,e⟩:=qb.1 g;exact c1 (by rw[<-wci x _ (ht x b) (.inl d) e];exact b);rcases c2 with g|g;exact .inl (by show a c.parent=0;rw[g,wc0]);exact .inr (qb.2 ⟨_,g,rfl⟩);have:=GS.tr wc0 wci c3 (λx b=>by
   rcases qf.1 b with g|g;exact ht x g;rw[qA]at g;rw[g];exact d) λc f=>hl c (by simp[f])
  simpa using this
theorem fB(_H:Gm N e)(K:VD u v f wb wc e)(a b:AF)(j:HR (A5 e) a/\∀p∈a.mvs,p∈C0 (AD.hdL e.W))(hb:HR (A5 e) b/\∀p∈b.mvs,p∈C0 (AD.hdL e.W))(h:KS u v a=KS u v b):a=b:=by
 have w:∀r m m',(r,m)∈C0 (AD.hdL e.W)->(r,m')∈C0 (AD.hdL e.W)->v r m=v r m'->m=m':=λr m m' h1 h2 g=>by
  by_cases m0:m=0;by_cases m1:m'=0;rw[m0,m1];rw[m0,K.v0]at g;exact absurd g.symm (K.vn r m' h2 m1);by_cases m1:m'=0;rw[m1,K.v0]at g;exact absurd g (K.vn r m h1 m0);rcases Int.lt_trichotomy m m' with q|q|q;have:=K.vm r m m' h1 h2 m0 m1 q;omega;exact q;have:=K.vm r m' m h2 h1 m1 m0 q;omega
 have t:∀{x:AF},HR (A5 e) x->x.I∈A5 e\/x.I=0:=fun {x} g=>by
  by_cases h0:x.I=0;exact .inr h0;exact .inl (g.I h0)
 have i:∀x y,(x∈A5 e\/x=0)->(y∈A5 e\/y=0)->u x=u y->x=y:=λx y c d g=>by
  rcases c with c|c;exact K.ui x c y d g;rcases d with d|d;exact(K.ui y d x (.inr c) g.symm).symm;rw[c,d]
 obtain⟨p1,o,m1,z,J⟩:=a;obtain⟨p2,G,m2,A,L⟩:=b;simp only[KS,AF.mk.injEq]at h;obtain⟨B,C,D,E,F⟩:=h;have M:o=G:=i _ _ (t j.1) (t hb.1) C;subst M;have O:m1=m2:=w o m1 m2 (j.2 _ (by simp[AF.mvs])) (hb.2 _ (by simp[AF.mvs])) D;have P:z=A:=KA (λx c y d g=>by
  obtain⟨k,n1⟩:=x;obtain⟨l,s⟩:=y;simp only[Dx.mk.injEq]at g;have n:k=l:=i _ _ (.inl (j.1.Y _ c)) (.inl (hb.1.Y _ d)) g.1;subst n;rw[w k n1 s (j.2 _ (by simp only[AF.mvs,qd,qb];exact .inr ⟨_,c,rfl⟩)) (hb.2 _ (by simp only[AF.mvs,qd,qb];exact .inr ⟨_,d,rfl⟩)) g.2]) E
 have Q:J=L:=KA (λx c y d g=>by
  obtain⟨k,n1,b1,c1⟩:=x;obtain⟨l,s,b2,c2⟩:=y;simp only[BC.mk.injEq]at g;have n:k=l:=i _ _ (.inl (j.1.lays _ c)) (.inl (hb.1.lays _ d)) g.1;rw[n,g.2.1,g.2.2.1,g.2.2.2]) F
 subst B O P Q;rfl
theorem VG(H:Gm N e):wf (λh=>HR (A5 e) h/\∀p∈h.mvs,p∈C0 (AD.hdL e.W)) (λ_=>True) N e.W:=by
 obtain⟨T,hw⟩:=H.wf;exact OQ (λ_ h=>h) (λ_ _=>trivial) (Qb hw λh hh p hp=>qJ.2 ⟨h,hh,hp⟩)
theorem jA(H:Fk N e)(K:VD u v f wb wc e)(B:∀a∈AD.anL e.W,f a≠0):Fk N (Mc u v f wc e):=by
 obtain⟨T,hw⟩:=H.wf;have z:A5 (Mc u v f wc e)=(A5 e).map u:=by simp[A5,Mc,wt]
 have j:(Mc u v f wc e).V.map (·.id)=(A5 e).map u:=z;have un:∀a∈A5 e,u a≠0:=λa l g=>by
  have:=K.ui a l 0 (.inr rfl) (by rw[g,K.u0]);exact H.rev0 (by rw[<-this];exact l)
 have n:(Mc u v f wc e).W=AD.gmL (KS u v) (WJ f) id e.W:=Lg _ _ _;have w:AD.anL (Mc u v f wc e).W=(AD.anL e.W).map λa=>(a.1,f a):=NN _ _ _;refine { wf:=⟨λ_=>True,?_⟩,endi:=?_,endm:=?_,endd:=?_,endl:=?_,revn:=?_,rev0:=?_,coms:=?_,anch:=?_,nf:=?_,rn:=?_,used:=?_ };rw[j,n];exact ZC (λh hh=>hh.tr K.u0 K.v0 K.ui H.rev0) hw;show u e.T0.I=0;rw[H.endi,K.u0];show v _ e.T0.move=0;rw[H.endm,K.v0];show e.T0.Y.map _=[];rw[H.endd];rfl;intro d hd;obtain⟨s,h0,rfl⟩:=qb.1 (show d∈e.T0.Z.map _ from hd);rw[j];exact qb.2 ⟨s.rev,H.endl s h0,rfl⟩;rw[j];exact Kx H.revn λa l b hb=>K.ui a l b (.inl hb);rw[j];intro g;obtain⟨a,l,h⟩:=qb.1 g;exact un a l h;exact GS.tr (t:=[]) (S:=λx=>x∈Es e) K.wc0 (λx y p C=>K.wci x y (.inl p) (C.elim .inl λg=>.inr (.inl g))) H.coms (λx p=>by cases p) λc A=>qb.2 ⟨c,A,rfl⟩;rw[w];intro a l;obtain⟨a0,h0,rfl⟩:=qb.1 l;have:=H.anch a0 h0;exact⟨this.1,this.2.1,B a0 h0⟩;rw[n];exact TM (λa b=>fB H.toGm K a b) (VG H.toGm) H.nf;have q:p6 (WJ f)=WJ f:=by
  funext k c i;unfold p6 WJ;by_cases h:k=6\/k=7;rw[nS h,nR nN];rw[nR h]
 rw[n,YO N _ hw,q,H.rn];intro r hr;obtain⟨r0,h0,rfl⟩:=qb.1 (show r∈e.V.map _ from hr);have o:AD.U (Mc u v f wc e).W=(AD.U e.W).map u:=by rw[n];exact Qa (Tz u v) _
 have m:(Mc u v f wc e).T0.all=e.T0.all.map u:=Tz u v _;rw[o,m,<-qc];exact qb.2 ⟨_,H.used r0 h0,rfl⟩
end
theorem Ue:∀(l:List CI)(t:List Int),(t++l.map (·.id)).Nodup->EP l t.length=l.map λr=>{ r with id:=Am (t++l.map (·.id)) r.id }
 | [],_,_=>rfl
 | r :: l, t, hn => by
  have b:r.id∉t:=λg=>by
   rw[qr]at hn;exact hn.2.2 _ g _ nO rfl
  have a:=Ue l (t++[r.id]) (by simpa using hn);rw[qk,wg]at a
  push_cast at a
  rw[EP,a,qg];congr 1;rw[Eu,nR b,nS nO];simp[Am];simp
theorem UO:∀{L:List Int} {a b:Int},L.Pairwise (· < ·)->a∈L->b∈L->a<b->Am L a<Am L b
 | [],_,_,_,h,_,_=>by cases h
 | x :: L, a, b, hp, ha, hb, hab => by
  rw[wC]at hp;have c:b∈L:=by
   rcases qd.1 hb with e|e;rcases qd.1 ha with g|g;omega;have:=hp.1 a g;omega;exact e
  have i:¬x=b:=by have:=hp.1 b c;omega
  have j:=CN.2 c;have gb:=EW L b;rw[Am,Am,nR i,nR j];by_cases d:x=a;rw[nS d];omega;have f:a∈L:=by rcases qd.1 ha with e|e;exact absurd e.symm d;exact e
  rw[nR d,nR (CN.2 f)];have:=UO hp.2 f c hab;omega
theorem Ld{t:List Int}{x:Int}(a:x∈t):∀(l:List Int) ,Am (BD t l) x=Am t x
 | []=>rfl
 | y::l=>by
  have h1:x∈B8 t y:=by unfold B8;split<;>simp[a]
  show Am (BD (B8 t y) l) x=_;rw[Ld h1 l,O0,nS a]
section
variable{e:AH}{N:Nat}
theorem TK(_H:Gm N e){r:Int}(hr:r∈A5 e):(Gu (KX e) (Am (A5 e) r-1).toNat).Pairwise (· < ·)/\∀y,y∈Gu (KX e) (Am (A5 e) r-1).toNat↔y≠0/\(r,y)∈C0 (AD.hdL e.W):=by
 have h0:=CN.2 hr;have hg:=EW (A5 e) r;have c:∀n k,Gu (List.replicate n ([]:List Int)) k=[]:=λn k=>by unfold Gu;rw[List.getElem?_replicate];split<;>rfl
 obtain⟨_,a2⟩:=No (A5 e) (C0 (AD.hdL e.W)) (List.replicate (A5 e).length []) λk=>by rw[c];exact List.Pairwise.nil
 obtain⟨a3,a4⟩:=a2 (Am (A5 e) r-1).toNat (by rw[List.length_replicate];omega);refine⟨a3,λy=>?_⟩;unfold KX;rw[a4,c];constructor;rintro(g|⟨g1,⟨a,b⟩,d,g3,f⟩);cases g;dsimp only at g3 f;have:a=r:=(G0 hr nN).symm;subst this;subst f;exact⟨g1,d⟩;rintro⟨g1,d⟩;exact .inr ⟨g1,(r,y),d,by dsimp only;omega,rfl⟩
theorem Ol(H:Gm N e):Ip e=Mc (Am (A5 e)) (Ch (A5 e) (KX e)) (EB (IA e)) (Am (IA e).2) e:=by
 have d:=H.coms.pos;have b:=H.coms.par;have a2:(IA e).2=BD (Es e) (((AD.anL e.W).filter λa=>!decide (a.1<=2)).map (·.2)):=by unfold IA;rw[Jh]
 have z:Am (IA e).2 0=0:=CU.2 λg=>by
  rw[a2,Do]at g;rcases g with g|g;exact d g;obtain⟨a,h1,h2⟩:=qb.1 g;exact(H.anch a (qZ.1 h1).1).2.2 h2
 unfold Ip Wf Mc;have i:EP e.V 0=e.V.map λr=>{ r with id:=Am (A5 e) r.id }:=by
  have:=Ue e.V [] (by simpa using H.revn);simpa using this
 have j:e.S.C.map (Na (Es e))=e.S.C.map λc=>{ c with id:=Am (IA e).2 c.id,parent:=Am (IA e).2 c.parent }:=by
  refine qN λc h=>?_;have f:c.id∈Es e:=qb.2 ⟨c,h,rfl⟩;have k:Am (IA e).2 c.id=Am (Es e) c.id:=by rw[a2,Ld f]
  have l:Am (IA e).2 c.parent=Am (Es e) c.parent:=by
   rcases b c h with g|g;rw[g,z];exact(CU.2 d).symm;rw[a2,Ld (by simpa using g)]
  unfold Na;rw[k,l]
 rw[i,j];rfl
theorem NU(H:Gm N e):VD (Am (A5 e)) (Ch (A5 e) (KX e)) (EB (IA e)) (Am (IA e).1) (Am (IA e).2) e/\∀a∈AD.anL e.W,EB (IA e) a≠0:=by
 obtain⟨T,hw⟩:=H.wf;have hC0:=H.coms.pos;have a1:(IA e).1=BD [] (((AD.anL e.W).filter λa=>decide (a.1<=2)).map (·.2)):=by unfold IA;rw[Jh]
 have a2:(IA e).2=BD (Es e) (((AD.anL e.W).filter λa=>!decide (a.1<=2)).map (·.2)):=by unfold IA;rw[Jh]
 have m1:∀a∈AD.anL e.W,a.1<=2->a.2∈(IA e).1:=λa ha c=>by
  rw[a1,Do];exact .inr (qb.2 ⟨a,qZ.2 ⟨ha,by simpa using c⟩,rfl⟩)
 have m2:∀a∈AD.anL e.W,¬a.1<=2->a.2∈(IA e).2:=λa ha c=>by
  rw[a2,Do];exact .inr (qb.2 ⟨a,qZ.2 ⟨ha,by simpa using c⟩,rfl⟩)
 have m3:∀x∈Es e,x∈(IA e).2:=λx hx=>by rw[a2,Do];exact .inl hx
 have z:(0:Int)∉(IA e).2:=λg=>by
  rw[a2,Do]at g;rcases g with g|g;exact hC0 g;obtain⟨a,h1,h2⟩:=qb.1 g;exact(H.anch a (qZ.1 h1).1).2.2 h2
 have hR:∀r m,(r,m)∈C0 (AD.hdL e.W)->m≠0->r∈A5 e:=λr m hm h0=>by
  obtain⟨h,hh,hp⟩:=qJ.1 hm;exact(Jm hw h hh).met hp h0
 refine⟨{ u0:=CU.2 H.rev0,ui:=λa ha b _ h=>G0 ha h,v0:=λr=>?_,vn:=λr m hm h0=>?_,vm:=λr m m' h1 h2 n1 n2 hlt=>?_,fe:=λa _=>rfl,wbi:=λa ha ca b hb cb h=>G0 (m1 a ha ca) h,wc0:=CU.2 z,wci:=λx y hx hy h=>?_ },λa ha=>?_⟩
 . unfold Ch;split
   . next h=>exact CU.2 λg=>(((TK H (CN.1 h)).2 0).1 g).1 rfl
   rfl
 have hr:=hR r m hm h0;unfold Ch;rw[nS (CN.2 hr)];exact CN.2 (((TK H hr).2 m).2 ⟨h0,hm⟩);have hr:=hR r m h1 n1;unfold Ch;rw[nS (CN.2 hr),nS (CN.2 hr)];obtain⟨g1,g2⟩:=TK H hr;exact UO g1 ((g2 m).2 ⟨n1,h1⟩) ((g2 m').2 ⟨n2,h2⟩) hlt;refine G0 ?_ h;rcases hx with g|⟨a,ha,c,rfl⟩
 exact m3 x g;exact m2 a ha c
 . unfold EB;split
   . next c=>exact CN.2 (m1 a ha c)
   . next c=>exact CN.2 (m2 a ha c)
theorem NV{d:AH}(H:Fk N d.normal.renum):HT N d=Ip d.normal.renum/\Fk N (Ip d.normal.renum):=by
 have h2:Fk N (Ip d.normal.renum):=by
  rw[Ol H.toGm];exact jA H (NU H.toGm).1 (NU H.toGm).2
 refine⟨?_,h2⟩;unfold HT;rw[T8 H.toGm,h2.normal]
theorem Sm{d:AH}(H:Fk N d.normal.renum):HT N (HT N d)=HT N d:=by
 obtain⟨b,h2⟩:=NV H;rw[b];have a:(Ip d.normal.renum).normal.renum=Ip d.normal.renum:=by rw[h2.normal,h2.renum]
 obtain⟨c,_⟩:=NV (N:=N) (d:=Ip d.normal.renum) (by rw[a];exact h2);rw[c,a]
 conv=>lhs;rw[Ol H.toGm]
 exact dC H.toGm (NU H.toGm).1
end
def EC(f:FuncId)(args:List SV):Prop:=∃e:Int,PC f args (AA e)
theorem EC.fam{f:FuncId}{A:Nat->List SV}{N:Nat}(h:∀j,j<N->EC f (A j)):∃F:Nat->Int,∀j,j<N->PC f (A j) (AA (F j)):=by
 have h2:∀j,∃e:Int,j<N->PC f (A j) (AA e):=λj=>by
  by_cases g:j<N;obtain⟨e,a⟩:=h j g;exact⟨e,λ_=>a⟩;exact⟨0,λk=>absurd k g⟩
 exact⟨λj=>(h2 j).choose,λj g=>(h2 j).choose_spec g⟩
noncomputable def Rh(q:Int->Prop):Int:=open Classical in if h:∃e:Int,q e then h.choose else 0
theorem KE{q:Int->Prop}(h:∃e:Int,q e):q (Rh q):=by
 unfold Rh;rw[dif_pos h];exact h.choose_spec
theorem c83(s:AO){b c d f:Int}(h1:PC 139 [AW s.A] (AA b))(h2:PC 140 [CA s.L] (AA c))(k:PC 141 [A8 s.C] (AA d))(l:PC 142 [CW s.vars] (AA f)):PC 79 [s.h] (AA (BH [b,c,d,f])):=by
 intro h n;refine E8 func79 rfl λi=>?_;have a:=i.lt;refine Ao 1 [(1,.q s.j)] h n ?_ (λm hm=>?_);simp[go_sem,AO.h,AO.j];exact⟨Ak (Ac a (IO _)) (AC _ _ _),AV a AE⟩;refine AR 0 (α:=Unit) (λ_=>[(2,AA (BH [b,c,d,f]))]) (λ_=>h) (λ_ m=>n<=m) (CJ trS rfl nQ nQ ?_) (λ_ m hm=>?_);have g:∀j y,h j=some y->j<m:=λj y e=>by have:=a j y e;omega
 simp[go_sem,trS,AO.j];refine qO h1 ?_;simp[go_sem];refine qO h2 ?_;simp[go_sem];refine qO k ?_;simp[go_sem];refine qO l ?_;simp[go_sem];refine wT (bs:=[.x 1 ([b,c,d,f].map AA) false]) (h2:=h) 1 (AV g AE) ⟨?_,trivial⟩ ?_;exact Ez (es:=[AA b,AA c,AA d,AA f]) (Ac g (IO _)) nO (by rw[AC];simp[SV.cells]) (by simp[SV.B,SV.cells]);refine(SY _ nO).use ?_;simp[go_sem,Or];omega;refine AJ ?_;simp[go_sem];exact An i rfl rfl
theorem lf(l:List Fb)(hl:l.length<=1048576)(g:∀i,i<l.length->EC 189 [AA i,.q [CA l]]):EC 140 [CA l]:=by
 obtain⟨F,d⟩:=EC.fam (A:=λi=>[AA i,.q [CA l]]) g;refine⟨BH [if(64:Int)<l.length then 9 else 0,CK F (min l.length 64)],?_⟩;intro h n;refine E8 func140 rfl λc=>?_;have a:=c.lt;refine Ao 1 [(1,.q [CA l])] h n ?_ (λm hm=>?_);simp[go_sem];exact⟨Ak (Ac a (IO _)) (AC _ _ _),AV a AE⟩;refine AR 0 (α:=Unit) (λ_=>[(2,AA (BH [if(64:Int)<l.length then 9 else 0,CK F (min l.length 64)]))]) (λ_=>h) (λ_ m=>n<=m) (CJ fV rfl nQ nQ ?_) (λ_ m hm=>?_);have b:∀j y,h j=some y->j<m:=λj y e=>by have:=a j y e;omega
 have f:(if(64:Int)<l.length then(64:Int)else l.length)=((min l.length 64:Nat):Int):=by split<;>omega
 simp[go_sem,fV];refine(Kc _ _).use ?_;simp[go_sem,f];refine(Zp (min l.length 64) nN 189 [] [.q [CA l]] F (λj hj=>d j nN)).use ?_;simp[go_sem];generalize CK F (min l.length 64)=e2;generalize(if 64<(l.length:Int)then(9:Int)else 0)=e1;refine wT (bs:=[.x 1 ([e1,e2].map AA) false]) (h2:=h) 1 (AV b AE) ⟨?_,trivial⟩ ?_;exact Ez (es:=[AA e1,AA e2]) (Ac b (IO _)) nO (by rw[AC];simp[SV.cells]) (by simp[SV.B,SV.cells]);refine(SY _ nO).use ?_;simp[go_sem,Or];omega;refine AJ ?_;simp[go_sem];exact An c rfl rfl
theorem kK(l:List AX)(hl:l.length<=1048576)(F:Nat->Int)(d:∀i,i<l.length->PC 192 [AA i,.q [A8 l]] (AA (F i))):PC 141 [A8 l] (AA (BH [if(1024:Int)<l.length then 9 else 0,CK F (min l.length 1024)])):=by
 intro h n;refine E8 func141 rfl λc=>?_;have a:=c.lt;refine Ao 1 [(1,.q [A8 l])] h n ?_ (λm hm=>?_);simp[go_sem];exact⟨Ak (Ac a (IO _)) (AC _ _ _),AV a AE⟩;refine AR 0 (α:=Unit) (λ_=>[(2,AA (BH [if(1024:Int)<l.length then 9 else 0,CK F (min l.length 1024)]))]) (λ_=>h) (λ_ m=>n<=m) (CJ fV rfl nQ nQ ?_) (λ_ m hm=>?_);have b:∀j y,h j=some y->j<m:=λj y e=>by have:=a j y e;omega
 have f:(if(1024:Int)<l.length then(1024:Int)else l.length)=((min l.length 1024:Nat):Int):=by split<;>omega
 simp[go_sem,fV];refine(Kc _ _).use ?_;simp[go_sem,f];refine(Zp (min l.length 1024) nN 192 [] [.q [A8 l]] F (λj hj=>d j nN)).use ?_;simp[go_sem];generalize CK F (min l.length 1024)=e2;generalize(if 1024<(l.length:Int)then(9:Int)else 0)=e1;refine wT (bs:=[.x 1 ([e1,e2].map AA) false]) (h2:=h) 1 (AV b AE) ⟨?_,trivial⟩ ?_;exact Ez (es:=[AA e1,AA e2]) (Ac b (IO _)) nO (by rw[AC];simp[SV.cells]) (by simp[SV.B,SV.cells]);refine(SY _ nO).use ?_;simp[go_sem,Or];omega;refine AJ ?_;simp[go_sem];exact An c rfl rfl
theorem lg(l:List Gq)(hl:l.length<=1048576)(g:∀i,i<l.length->EC 197 [AA i,.q [CW l]]):EC 142 [CW l]:=by
 obtain⟨F,d⟩:=EC.fam (A:=λi=>[AA i,.q [CW l]]) g;refine⟨BH [if(128:Int)<l.length then 9 else 0,CK F (min l.length 128)],?_⟩;intro h n;refine E8 func142 rfl λc=>?_;have a:=c.lt;refine Ao 1 [(1,.q [CW l])] h n ?_ (λm hm=>?_);simp[go_sem];exact⟨Ak (Ac a (IO _)) (AC _ _ _),AV a AE⟩;refine AR 0 (α:=Unit) (λ_=>[(2,AA (BH [if(128:Int)<l.length then 9 else 0,CK F (min l.length 128)]))]) (λ_=>h) (λ_ m=>n<=m) (CJ fV rfl nQ nQ ?_) (λ_ m hm=>?_);have b:∀j y,h j=some y->j<m:=λj y e=>by have:=a j y e;omega
 have f:(if(128:Int)<l.length then(128:Int)else l.length)=((min l.length 128:Nat):Int):=by split<;>omega
 simp[go_sem,fV];refine(Kc _ _).use ?_;simp[go_sem,f];refine(Zp (min l.length 128) nN 197 [] [.q [CW l]] F (λj hj=>d j nN)).use ?_;simp[go_sem];generalize CK F (min l.length 128)=e2;generalize(if 128<(l.length:Int)then(9:Int)else 0)=e1;refine wT (bs:=[.x 1 ([e1,e2].map AA) false]) (h2:=h) 1 (AV b AE) ⟨?_,trivial⟩ ?_;exact Ez (es:=[AA e1,AA e2]) (Ac b (IO _)) nO (by rw[AC];simp[SV.cells]) (by simp[SV.B,SV.cells]);refine(SY _ nO).use ?_;simp[go_sem,Or];omega;refine AJ ?_;simp[go_sem];exact An c rfl rfl
theorem lj(l:List Fb)(hl:l.length<=1048576)(i:Nat)(hi:i<l.length)(f:EC 191 [DK (l[i]).levels]):EC 189 [AA i,.q [CA l]]:=by
 obtain⟨d,f⟩:=f;obtain⟨a,k⟩:∃a,a=HV (λj=>match l[j]? with|some r=>r.id|none=>0) i:=⟨_,rfl⟩
 refine⟨BH [a,d],?_⟩;intro h n;refine E8 func189 rfl λo=>?_;have g:=o.lt;obtain⟨x,p⟩:∃x,l[i]=x:=⟨_,rfl⟩
 rw[p]at f;refine Ao 0 [(0,AA i),(1,.q [CA l])] h n ?_ (λm hm=>?_);simp[go_sem,Or];refine AR 0 (α:=Unit) (λ_=>[(3,AA (BH [a,d]))]) (λ_=>h) (λ_ m=>n<=m) (CJ trO rfl nQ nQ ?_) (λ_ m hm=>?_);have b:∀j y,h j=some y->j<m:=λj y e=>by have:=g j y e;omega
 simp[go_sem,trO,hi,p,Fb.h];have s:∀j,j<=i->PC 190 ([]++[AA j]++[.q [CA l]]) (AA (match l[j]? with|some r=>r.id|none=>0)):=λj hj=>by
  have c:j<l.length:=by omega
  simpa[c]using ka l j c
 refine(cw i nN 190 [] [.q [CA l]] (λj=>match l[j]? with|some r=>r.id|none=>0) s).use ?_;rw[<-k];simp[go_sem];refine f.use ?_;simp[go_sem];refine wT (bs:=[.x 1 ([a,d].map AA) false]) (h2:=h) 1 (AV b AE) ⟨?_,trivial⟩ ?_;exact Ez (es:=[AA a,AA d]) (Ac b (IO _)) nO (by rw[AC];simp[SV.cells]) (by simp[SV.B,SV.cells]);refine(SY _ nO).use ?_;simp[go_sem,Or];omega;refine AJ ?_;simp[go_sem];exact An o rfl rfl
def VJ(l:List AX)(i:Nat):Int:=match l[i]? with
 | none=>0
 | some x=>BH [HV (λj=>match l[j]? with|some r=>r.id|none=>0) i,if(decide (x.parent=0)||MT (λj=>match(l.take i)[j]? with|some y=>decide (y.id=x.parent)|none=>false) (l.take i).length)=false then 8 else 0,if Ds x.O=false then 39 else 0,if x.time<0\/1099511627776<x.time then 40 else 0,IT x.J]
theorem ke(l:List AX)(hl:l.length<=1048576)(L:∀x∈l,x.O.size<=1048576/\x.J.size<=1048576)(i:Nat)(hi:i<l.length):PC 192 [AA i,.q [A8 l]] (AA (VJ l i)):=by
 obtain⟨x,F⟩:∃x,l[i]=x:=⟨_,rfl⟩
 obtain⟨b,hb⟩:∃b:Bool,b=(decide (x.parent=0)||MT (λj=>match(l.take i)[j]? with|some y=>decide (y.id=x.parent)|none=>false) (l.take i).length):=⟨_,rfl⟩
 obtain⟨c,f⟩:∃c,c=HV (λj=>match l[j]? with|some r=>r.id|none=>0) i:=⟨_,rfl⟩
 obtain⟨e,G⟩:∃e,e=BH [c,if b=false then 8 else 0,if Ds x.O=false then 39 else 0,if x.time<0\/1099511627776<x.time then 40 else 0,IT x.J]:=⟨_,rfl⟩
 have D:VJ l i=e:=by
  rw[VJ,qm hi,F];dsimp only;rw[G,f,hb]
 rw[D];intro h n;refine E8 func192 rfl λI=>?_;have a:=I.lt;have hxs:=L x (by rw[<-F];exact qp hi);obtain⟨X,A⟩:∃X:SV,X=.q [AA x.id,AA x.parent,.str x.O,AA x.time,.str x.J,.bool x.done]:=⟨_,rfl⟩
 refine Ai 0 [(0,AA i),(1,.q [A8 l])] h n ?_ (λm hm=>?_);simp[go_sem,Or];subst hm;refine Ao 1 [(0,AA i),(1,.q [A8 l]),(4,X)] h n ?_ (λm hm=>?_);rw[A];simp[go_sem,Or,hi,F,AX.h,AC];exact⟨Ak (Ac a (IO _)) (AC _ _ _),AV a (AV a AE)⟩;refine Ao 0 [(0,AA i),(1,.q [A8 l]),(4,X),(5,.bool b)] h n ?_ (λm hm=>?_)
 . rw[A];by_cases t:x.parent=0;have:b=true:=by rw[hb];simp[t]
   simp[go_sem,t,Or,hm,this]
   . have E:i<=l.length:=by omega
     have C:=kf (l.take i) (by simp;omega) 194 [] [.q [AA x.id,AA x.parent,.str x.O,AA x.time,.str x.J,.bool x.done]] (λj=>match(l.take i)[j]? with|some y=>decide (y.id=x.parent)|none=>false) (λj H=>by rw[qm H];exact kg x _);have Ig:MT (λj=>match(l.take i)[j]? with|some y=>decide (y.id=x.parent)|none=>false) (l.take i).length=b:=by rw[hb];simp[t]
     rw[Ig]at C;rw[vT]at C;simp[go_sem,t,E,-List.map_take];refine qO C ?_;simp[go_sem,Or,hm,t]
 refine AR 0 (α:=Unit) (λ_=>[(3,AA e)]) (λ_=>h) (λ_ m=>n<=m) (CJ trT rfl nQ nQ ?_) (λ_ m hm=>?_);have d:∀j y,h j=some y->j<m:=λj y e=>by have:=a j y e;omega
 rw[A];simp[go_sem,trT];have K:∀j,j<=i->PC 195 ([]++[AA j]++[.q [A8 l]]) (AA (match l[j]? with|some r=>r.id|none=>0)):=λj H=>by
  have s:j<l.length:=by omega
  simpa[s]using kh l j s
 refine(cw i nN 195 [] [.q [A8 l]] (λj=>match l[j]? with|some r=>r.id|none=>0) K).use ?_;rw[<-f];simp[go_sem];refine(Kc _ _).use ?_;simp[go_sem];refine(fx x.O nN).use ?_;simp[go_sem];refine(Kc _ _).use ?_;simp[go_sem];refine(LV _ _ _).use ?_;simp[go_sem];refine(Kc _ _).use ?_;simp[go_sem];refine(cy x.J nN).use ?_;simp[go_sem];obtain⟨u,g⟩:∃u,u=(if b=false then(8:Int)else 0):=⟨_,rfl⟩
 obtain⟨v,k⟩:∃v,v=(if Ds x.O=false then(39:Int)else 0):=⟨_,rfl⟩
 obtain⟨w,o⟩:∃w,w=(if x.time<0\/1099511627776<x.time then(40:Int)else 0):=⟨_,rfl⟩
 obtain⟨z,p⟩:∃z,z=IT x.J:=⟨_,rfl⟩
 rw[<-g,<-k,<-o,<-p];refine wT (bs:=[.x 1 ([c,u,v,w,z].map AA) false]) (h2:=h) 1 (AV d AE) ⟨?_,trivial⟩ ?_;exact Ez (es:=[AA c,AA u,AA v,AA w,AA z]) (Ac d (IO _)) nO (by rw[AC];simp[SV.cells]) (by simp[SV.B,SV.cells]);refine(SY _ nO).use ?_;simp[go_sem];exact⟨by omega,by rw[G,<-g,<-k,<-o,<-p];exact Or⟩;refine AJ ?_;simp[go_sem];exact An I rfl rfl
def Mj(l:List AX):Int:=BH [if(1024:Int)<l.length then 9 else 0,CK (VJ l) (min l.length 1024)]
noncomputable def bE(s:AO):Int:=BH [Rh (λe=>PC 139 [AW s.A] (AA e)),Rh (λe=>PC 140 [CA s.L] (AA e)),Mj s.C,Rh (λe=>PC 142 [CW s.vars] (AA e))]
theorem WA{s:AO}(h1:EC 139 [AW s.A])(h2:EC 140 [CA s.L])(a:s.C.length<=1048576)(c:∀x∈s.C,x.O.size<=1048576/\x.J.size<=1048576)(b:EC 142 [CW s.vars]):PC 79 [s.h] (AA (bE s)):=
 c83 s (KE h1) (KE h2) (kK _ a (VJ s.C) λi hi=>ke _ a c i hi) (KE b)
end Go.Proofs.YthinbkgpjmjfeaaGreatDoor.Sh
