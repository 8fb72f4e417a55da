/- A part of the proof (part 17 of 17). -/
import Derived.Test.YtgakninlhfkkmaaGreatM16
import Derived.Shelf.SlSortCmp.NoneTotal
import Derived.Test.YtgakninlhfkkmaaGreatMF
namespace Go.Proofs.YtgakninlhfkkmaaGreat.Sh
open Proofs
set_option maxRecDepth 10000
def AG.flat (d:AG):List SV:=[AK d.flow]++d.«end».flat++[BE d.revs]++d.settings.flat
theorem eC (x:AF) (a:x.sized):PC 58 [x.enc,x.enc] (.bool true):=by simpa using c58 x x a a
theorem jZ (l:List Bi) (hl:l.length<=1048576):PC 125 [AU l,AU l] (.bool true):=by simpa using bS l l hl hl
theorem jc (l:List Bi) (hl:l.length<=1048576):PC 130 [AU l,AU l] (.bool true):=by
 intro h n;refine gq Tryz.func130 rfl λa=>?_;simp[go_sem];refine(jZ l hl).use ?_;simp[go_sem];exact As a rfl rfl
theorem q55 (x:GQ) (c:x.levels.length<=1048576):PC 55 [x.enc,x.enc] (.bool true):=by
 intro h n;refine gq Tryz.func55 rfl λa=>?_;have b:∀y z,∀o x,h o=some x->hset (hset h n y) (n+1) z o=some x:=λy z=>by repeat(first|exact AC|refine AR a (by omega) ?_)
 simp[go_sem,GQ.enc,AD,AE];refine(q56 _ c).use ?_;simp[go_sem];exact A3 a (b _ _) rfl rfl
theorem jb (x:A7) (c:x.props.length<=1048576):PC 129 [x.enc,x.enc] (.bool true):=by
 intro h n;refine gq Tryz.func129 rfl λa=>?_;have b:∀y z,∀o x,h o=some x->hset (hset h n y) (n+1) z o=some x:=λy z=>by repeat(first|exact AC|refine AR a (by omega) ?_)
 simp[go_sem,A7.enc,AD,AE];refine(jc _ c).use ?_;simp[go_sem];exact A3 a (b _ _) rfl rfl
theorem q60 (l:List A7) (hl:l.length<=1048576) (hp:∀x∈l,x.props.length<=1048576):PC 60 [Aj l,Aj l] (.bool true):=by
 intro h n;refine gq Tryz.func60 rfl λa=>?_;simp[go_sem];refine(ja l hl 129 λx b=>jb x (hp x b)).use ?_;simp[go_sem];exact As a rfl rfl
theorem jg (x:AH) (d:x.head.sized) (b:PC 57 [AK x.flow,AK x.flow] (.bool true)):PC 259 [x.enc,x.enc] (.bool true):=by
 intro h n;refine gq Tryz.func259 rfl λa=>?_;have c:∀y z,∀o x,h o=some x->hset (hset h n y) (n+1) z o=some x:=λy z=>by repeat(first|exact AC|refine AR a (by omega) ?_)
 have e:=eC _ d;rw[AF.enc,AF.flat]at e;simp[go_sem,kO,AD,AE];refine e.use ?_;simp[go_sem,AD,AE];refine b.use ?_;simp[go_sem];exact A3 a (c _ _) rfl rfl
theorem je (x:AP) (f:x.head.sized) (hl:x.cells.length<=1048576) (b:∀c∈x.cells,PC 259 [c.enc,c.enc] (.bool true)):PC 192 [x.enc,x.enc] (.bool true):=by
 intro h n;refine gq Tryz.func192 rfl λa=>?_;have d:∀y z,∀o x,h o=some x->hset (hset h n y) (n+1) z o=some x:=λy z=>by repeat(first|exact AC|refine AR a (by omega) ?_)
 have e:=eC _ f;rw[AF.enc,AF.flat]at e;simp[go_sem,kl,AD,AE];refine e.use ?_;simp[go_sem,AD,AE];refine(jf _ hl 259 b).use ?_;simp[go_sem];exact A3 a (d _ _) rfl rfl
theorem jY (x:AB) (f:x.head.sized) (b:PC 57 [AK x.flow,AK x.flow] (.bool true)) (hl:x.rows.length<=1048576) (d:∀r∈x.rows,PC 192 [r.enc,r.enc] (.bool true)):PC 124 [x.enc,x.enc] (.bool true):=by
 intro h n;refine gq Tryz.func124 rfl λa=>?_;have c:∀y z,∀o x,h o=some x->hset (hset h n y) (n+1) z o=some x:=λy z=>by repeat(first|exact AC|refine AR a (by omega) ?_)
 have e:=eC _ f;rw[AF.enc,AF.flat]at e;simp[go_sem,qw,AD,AE];refine e.use ?_;simp[go_sem,AD,AE];refine b.use ?_;simp[go_sem,AD,AE];refine(jd _ hl 192 d).use ?_;simp[go_sem];exact A3 a (c _ _) rfl rfl
theorem jh {hp:AF->Prop} (f:∀x,hp x->x.sized) {K:Nat} (i:K<=1048576):∀(N:Nat) (l:List AB),Dq hp K N l->PC 57 [AK l,AK l] (.bool true)
 | 0,_,H=>H.elim
 | N + 1, l, H => by
  obtain⟨h1,h2,k⟩:=Ci.1 H;have hi:∀x∈l,PC 124 [x.enc,x.enc] (.bool true):=λx o=>by
   obtain⟨a,b,c,d⟩:=k x o;exact jY x (f _ a) (jh f i N _ b) (by omega) λr g=>je r (f _ (d r g).1) (by have:=(d r g).2.1;omega) λe j=>jg e (f _ ((d r g).2.2 e j).1) (jh f i N _ ((d r g).2.2 e j).2)
  intro h n;refine gq Tryz.func57 rfl λm=>?_;simp[go_sem];refine(jX l (by omega) 124 hi).use ?_;simp[go_sem];exact As m rfl rfl
theorem ji (l:List GQ) (hl:l.length<=1048576) (hp:∀x∈l,x.levels.length<=1048576):PC 61 [Dg l,Dg l,.fn (.func 55) [] []] (.bool true):=q61 l hl 55 λx a=>q55 x (hp x a)
def Za:Tr:=.pure 0<|.pure 1<|.pure 2<|.pure 3<|.two 4 5 (.one 5 (.one 6 (.one 7 .nil))) (.one 4 (.one 6 (.one 7 .nil)))
theorem q17 {hp:AF->Prop} (o:∀x,hp x->x.sized) {K:Nat} (k:K<=1048576) (N:Nat) (d:AG) (hl:Dq hp K N d.flow) (l:d.«end».sized) (r:d.revs.length<=1048576) (a:d.settings.sized):PC 17 [d.enc,d.enc] (.bool true):=by
 intro h n;refine DO Tryz.func17 rfl λf=>?_;have b:=f.lt;obtain⟨X,i⟩:∃X:SV,X=.iptr ([AK d.flow]++d.«end».flat++[BE d.revs]++d.settings.flat):=⟨_,rfl⟩
 refine Aa 1 [(2,X),(3,X)] h n ?_ (λm p=>?_);rw[i];simp[go_sem,AG.enc,AF.flat,AI.flat];exact⟨by omega,⟨AZ (f.none (by omega)) (by simp[hset]),AZ (f.none (by omega)) (by simp[hset])⟩,λj y e=>by have:=b j y e;simp only[hset];grind⟩;have c:∀j y,h j=some y->j<m:=λj y e=>by have:=b j y e;omega
 refine AX 1 (α:=Unit) (λ_=>[(2,X),(3,X),(5,.iptr d.settings.flat),(6,.iptr d.settings.flat)]) (λ_=>h) (λ_ m=>n<=m) (CK Za rfl (by kernel_rfl) (by kernel_rfl) ?_) (λ_ m p=>?_);rw[i];simp[go_sem,Za,AF.flat,AI.flat,AD,AE];have g:∀q,m<=q->h q=none:=λq hq=>by cases e:h q with|none=>rfl|some y=>(have:=c q y e;omega)
 refine⟨⟨by omega,⟨AZ (g _ (by omega)) (by simp[hset]),AZ (g _ (by omega)) (by simp[hset])⟩,λj y e=>?_⟩,by omega,⟨AZ (g _ (by omega)) (by simp[hset]),AZ (g _ (by omega)) (by simp[hset])⟩,λj y e=>?_⟩ <;>
 . have:=c j y e;simp only[hset];grind
 have e:=eC _ l;rw[AF.enc,AF.flat]at e;refine AJ ?_;rw[i];simp[go_sem,AF.flat,AI.flat];refine(jh o k N _ hl).use ?_;simp[go_sem];refine e.use ?_;simp[go_sem];refine(q59 _ r).use ?_;simp[go_sem];refine(q60 _ a.styles a.props).use ?_;simp[go_sem];refine(ji _ a.lists a.levels).use ?_;simp[go_sem];refine(q62 _ a.comments).use ?_;simp[go_sem];refine(q63 _ a.vars).use ?_;simp[go_sem];exact As f rfl rfl
set_option maxHeartbeats 4000000 in
theorem c22 (D A R:AG) (l:List Int) (f:PC 80 [D.enc,.imm 1 (l.map AA) false] (.tup [A.enc,AA 0])) (g:PC 81 [D.enc,.imm 1 (l.map AA) false] (.tup [R.enc,AA 0])):PC 22 [D.enc,.imm 1 (l.map AA) false] (.tup [A.enc,R.enc,.bool true]):=by
 intro h n;refine DO Tryz.func22 rfl λp=>?_;have a:=p.lt;obtain⟨X,d⟩:∃X:SV,X=.iptr D.flat:=⟨_,rfl⟩
 obtain⟨G,c⟩:∃G:Hp,G=hset (hset h (n+1) (some (.cells Cq))) (n+2) (some (.cells Cq)):=⟨_,rfl⟩
 have i:G (n+1)=some (.cells Cq):=by rw[c,AE _ _ (by omega),AD]
 have q:G (n+2)=some (.cells Cq):=by rw[c,AD]
 have k:∀j y,G j=some y->j<n+3:=λj y e=>by
  rw[c]at e;simp only[hset]at e;split at e;omega;split at e;omega;have:=a j y e;omega
 have s:∀j y,h j=some y->G j=some y:=λj y e=>by have:=a j y e;rw[c,AE _ _ (by omega),AE _ _ (by omega)];exact e
 refine By 1 [(1,.imm 1 (l.map AA) false),(2,X),(4,.ptr (n+1) 0),(5,.ptr (n+2) 0)] G (λm=>n+2<m) ?_ (λm o=>?_);rw[d,c];simp[go_sem,IO,AG.enc,AG.flat,AF.flat,AI.flat,Cq,qu];refine⟨AZ (by simp only[hset];rw[if_neg (by omega),if_neg (by omega)];exact AS a (qa _)) (by simp[hset]),λj y=>?_⟩;have:=a j y;simp only[hset];grind;refine By 1 [(1,.imm 1 (l.map AA) false),(2,X),(4,.ptr (n+1) 0),(5,.ptr (n+2) 0),(7,.iptr A.flat),(8,AA 0)] G (λm=>n+2<m) ?_ (λm o=>?_);have b:∀j y,G j=some y->j<m:=λj y e=>by have:=k j y e;omega
 rw[d];simp[go_sem,AG.flat,AF.flat,AI.flat];refine qz (by simpa[AG.enc,AF.flat,AI.flat]using f) ?_;simp[go_sem,IO,AD,Ah];exact⟨by omega,AZ (AS b (qa _)) (AD _ _ _),AL b AC⟩;refine By 1 [(4,.ptr (n+1) 0),(5,.ptr (n+2) 0),(7,.iptr A.flat),(8,AA 0),(9,.iptr R.flat),(10,AA 0)] G (λm=>n+2<m) ?_ (λm o=>?_);have b:∀j y,G j=some y->j<m:=λj y e=>by have:=k j y e;omega
 rw[d];simp[go_sem,AG.flat,AF.flat,AI.flat];refine qz (by simpa[AG.enc,AF.flat,AI.flat]using g) ?_;simp[go_sem,IO,AD,Ah];exact⟨by omega,AZ (AS b (qa _)) (AD _ _ _),AL b AC⟩;have g3:∀y,hset G (n+1) y (n+2)=some (.cells Cq):=λy=>by rw[AE _ _ (by omega)];exact q
 have r:∀y z,hset (hset G (n+1) y) (n+2) z (n+1)=y:=λy z=>by rw[AE _ _ (by omega),AD]
 refine AJ ?_;rw[Cq]at i g3;simp[go_sem,AG.flat,AF.flat,AI.flat,i,g3,r,AD]
 repeat first|refine aq ?_|refine nd (by simp[Bo,DZ,CU,Aq,Region.binds]<;>omega) ?_|refine sq ?_
 refine A3 p (λj z e=>?_) (by simp[AG.enc,AF.flat,AI.flat]) ?_;have:=a j z e;rw[AE _ _ (by omega),AE _ _ (by omega)];exact s j z e;have h1:=Nb n A;have h2:=Nb n R;simp only[closed,closedL,qo];exact⟨h1,h2,trivial,trivial⟩
structure Jm (β:Type) where
 add:β->β->β
 z:β
 assoc:∀a b c,add (add a b) c=add a (add b c)
 zl:∀a,add z a=a
 v:Nat->AB->β
 M:Nat->List AB->β
 nil:∀N,M (N+1) []=z
 cons:∀N x l,M (N+1) (x::l)=add (v N x) (M (N+1) l)
 same:∀N (x y:AB),y.kind=x.kind->y.id=x.id->y.text=x.text->(x.kind=6->M N y.flow=M N x.flow)->(x.kind=7->(y.rows.map λr=>r.cells.map λc=>(c.id,M N c.flow))=x.rows.map λr=>r.cells.map λc=>(c.id,M N c.flow))->v N y=v N x
 gone:∀N (x:AB),x.kind=1->x.text.size=0->v N x=z
 join:∀N (x y:AB),x.kind=1->y.kind=1->A5 x.text=true->A5 y.text=true->v N (y.addText x.text)=add (v N y) (v N x)
section
variable {β : Type} (m : Jm β)
theorem Jm.app (N:Nat):∀a b:List AB,m.M (N+1) (a++b)=m.add (m.M (N+1) a) (m.M (N+1) b)
 | [],b=>by rw[m.nil,m.zl];rfl
 | x::a,b=>by rw[qx,m.cons,Jm.app N a b,m.cons,m.assoc]
theorem Jm.one (N:Nat) (x:AB) (h:∀a,m.add a m.z=a):m.M (N+1) [x]=m.v N x:=by rw[m.cons,m.nil,h]
theorem Jm.congr {N:Nat}:∀{l:List AB} {f:AB->AB},(∀x∈l,m.v N (f x)=m.v N x)->m.M (N+1) (l.map f)=m.M (N+1) l
 | [],_,_=>rfl
 | x::l,f,h=>by rw[qr,m.cons,m.cons,h x (qV ..),Jm.congr λy a=>h y (qC _ a)]
variable (zr : ∀ a, m.add a m.z = a)
include zr
theorem Jm.fold {N:Nat}:∀(l o:List AB),(∀y∈o,val y)->(∀y∈l,val y)->m.M (N+1) (l.foldl AQ o)=m.add (m.M (N+1) o) (m.M (N+1) l)
 | [],o,_,_=>by rw[m.nil,zr];rfl
 | x :: l, o, ho, hl => by
  have a:=hl x (qV ..);have d:=(Qf (λ_=>false) ho a).2;have key:m.M (N+1) (AQ o x)=m.add (m.M (N+1) o) (m.v N x):=by
   by_cases c:BS x;have b:AQ o x=o:=by unfold AQ;rw[if_pos c]
   rw[b];rcases c with c|c;exact absurd c.2 (a.2 c.1);rw[m.gone N x c.1 c.2,zr];have push:m.M (N+1) (o++[x])=m.add (m.M (N+1) o) (m.v N x):=by rw[m.app,m.one N x zr]
   rw[Ln c];rcases List.eq_nil_or_concat o with e|⟨ys,y,e⟩
   subst e;exact push;rw[List.concat_eq_append]at e;subst e;rw[vg];dsimp only;by_cases k:x.kind=1/\y.kind=1/\y.head=x.head;rw[if_pos k,vN,m.app,m.app,m.one N _ zr,m.one N _ zr,m.join N x y k.1 k.2.1 a.1 (ho y (by simp)).1,m.assoc];rw[if_neg k];exact push
  rw[jy,Jm.fold l _ d λy f=>hl y (qC _ f),key,m.cons,m.assoc]
theorem Jm.normal:∀{N:Nat} {l:List AB},Dp N l->m.M N (AO l)=m.M N l
 | 0,_,h=>h.elim
 | N + 1, l, D => by
  have e:∀x∈l,m.v N (AB.nrm x)=m.v N x:=λx b=>by
   obtain⟨d1,g,f⟩:=D x b;obtain⟨f1,_,f3,f4,_,f6,_⟩:=kB x;refine m.same N x _ f1 f3 f4 (λk=>by rw[f6];exact Jm.normal (g k)) λk=>?_;rw[HE λr a=>(f k r a).1,ke];refine qL λr a=>?_;show(AP.nrm r).cells.map _=_;rw[(wb r).1,ke];refine qL λc hc=>?_;show((AH.nrm c).id,m.M N (AH.nrm c).flow)=_;rw[(wj c).1,(wj c).2.1,Jm.normal ((f k r a).2 c hc)]
  unfold AO Cy;rw[kM,m.fold zr _ _ (λy d=>by cases d) λy d=>by
   obtain⟨x,b,rfl⟩:=ql.1 d;exact Y2 (D x b),m.nil,m.zl,m.congr e]
theorem Jm.items {hp:AF->Prop} {T:Int->Prop} (g:Bool->AF->AF) (sc:BH):∀(N:Nat) (id:Int) (l:List AB) (mid:Bool),wf hp T N l->Dp N l->m.M N (AT (gF g) sc N id l mid ()).1=m.M N l
 | 0,_,_,_,h,_=>h.elim
 | N + 1, id, l, mid, W, D => by
  have P:∀(mid:Bool) (l:List AB),wf hp T (N+1) l->Dp (N+1) l->m.M (N+1) (A8 (gF g) (AT (gF g) sc N) mid l ()).1=m.M (N+1) l:=λmid l W D=>by
   have W:=DR.1 W;rw[Ej];refine m.congr λx e=>?_;have w:=W x e;have d:=D x e;refine m.same N x _ rfl rfl rfl (λk=>?_) λk=>?_;show m.M N (if x.kind=6 then(AT (gF g) sc N x.id x.flow mid ()).1 else x.flow)=_;rw[if_pos k];exact Jm.items g sc N _ _ _ w.flow (d.2.1 k);show(if x.kind=7 then x.rows.map (Sb g (AT (gF g) sc N) mid)else x.rows).map _=_;rw[if_pos k,ke];refine qL λr j=>?_;show(r.cells.map (Vk g (AT (gF g) sc N) mid)).map _=_;rw[ke];refine qL λc hc=>?_;show(c.id,m.M N (AT (gF g) sc N c.id c.flow mid ()).1)=_;rw[Jm.items g sc N _ _ _ ((w.rows r j).2.2 c hc).2.2 ((d.2.2 k r j).2 c hc)]
  rw[AT];split;rename_i i;have p:mid=false:=by unfold F9 at i;cases mid;rfl;simp at i
  subst p;obtain⟨_,f,s,k3⟩:=(HS sc D).1 i;have q:∀(mid:Bool) (a b:Int),0<=a->0<=b->m.M (N+1) (A8 (gF g) (AT (gF g) sc N) mid (Ab l a b).1 ()).1=m.M (N+1) (Ab l a b).1:=λmid a b o hb=>P mid _ (Oa a b W) (C6 a b o hb D);show m.M (N+1) ((A8 (gF g) (AT (gF g) sc N) false (Ab l 0 sc.a).1 ()).1++(A8 (gF g) (AT (gF g) sc N) true (Ab l sc.a sc.b).1 ()).1++(A8 (gF g) (AT (gF g) sc N) false (Ab l sc.b (BF l).1).1 ()).1)=_;have hn:0<=(BF l).1:=by rw[DQ D];dsimp only;omega
  rw[m.app,m.app,q _ _ _ (by omega) f,q _ _ _ f (by omega),q _ _ _ (by omega) hn,<-m.app,<-m.app];have n:Dp (N+1) ((Ab l 0 sc.a).1++(Ab l sc.a sc.b).1++(Ab l sc.b (BF l).1).1):=λx e=>by
   rcases qd.1 e with e|e;rcases qd.1 e with e|e;exact C6 _ _ (by omega) f D x e;exact C6 _ _ f (by omega) D x e;exact C6 _ _ (by omega) hn D x e
  rw[<-m.normal zr n,(OL W D f s k3).normal,m.normal zr D];exact P mid l W D
end
theorem Xd {x:AB} (k:x.kind=1) (h:x.text.size=0):Ml x=0:=by unfold Ml;rw[if_pos k,h];simp[Ar]
theorem Xe {x y:AB} (d:x.kind=1) (a:y.kind=1) (b:A5 x.text=true) (c:A5 y.text=true):Ml (y.addText x.text)=Ml y+Ml x:=by
 have k:(y.addText x.text).kind=1:=a;have t:(y.addText x.text).text=y.text++x.text:=rfl;unfold Ml;rw[if_pos k,if_pos d,if_pos a,t,b,c,HP c b,MH];simp
theorem VZ {N:Nat}:∀{a b:List AP},(a.map λr=>r.cells.map λc=>(c.id,Oz N c.flow))=(b.map λr=>r.cells.map λc=>(c.id,Oz N c.flow))->(a.map (Vm N)).sum=(b.map (Vm N)).sum:=fun {a b} h=>by
 have e:∀l:List AP,l.map (Vm N)=(l.map λr=>r.cells.map λc=>(c.id,Oz N c.flow)).map λq=>(q.map Prod.snd).sum:=λl=>by
  rw[ke];refine qL λr _=>?_;show Vm N r=((r.cells.map λc=>(c.id,Oz N c.flow)).map Prod.snd).sum;rw[ke];rfl
 rw[e a,e b,h]
def ZR:Jm Int where
 add:=(· + ·)
 z:=0
 assoc:=λa b c=>by omega
 zl:=λa=>by omega
 v:=Ql
 M:=Oz
 nil:=λ_=>rfl
 cons:=λN x l=>by rw[SR,SR,qr,List.sum_cons]
 same:=λN x y k i t f r=>by
  have u:Ml y=Ml x:=by unfold Ml;rw[k,t]
  unfold Ql
  rw[u,k]
  by_cases k6:x.kind=6
  . rw[if_pos k6,if_pos k6,f k6]
  . rw[if_neg k6,if_neg k6]
    by_cases k7:x.kind=7
    . rw[if_pos k7,if_pos k7,VZ (r k7)]
    . rw[if_neg k7,if_neg k7]
 gone:=λN x k h=>by unfold Ql;rw[Xd k h,if_neg (by rw[k];decide),if_neg (by rw[k];decide)];rfl
 join:=λN x y kx ky vx vy=>by
  have k:(y.addText x.text).kind=1:=ky
  unfold Ql
  rw[Xe kx ky vx vy,k,kx,ky]
  simp
theorem S7 {N:Nat}:∀{a b:List AP},(a.map λr=>r.cells.map λc=>(c.id,GU N c.flow))=(b.map λr=>r.cells.map λc=>(c.id,GU N c.flow))->a.flatMap (Io N)=b.flatMap (Io N):=fun {a b} h=>by
 have e:∀l:List AP,l.flatMap (Io N)=(l.map λr=>r.cells.map λc=>(c.id,GU N c.flow)).flatMap λq=>q.flatMap λp=>p.1::p.2:=λl=>by
  rw[List.flatMap_map];congr 1;funext r;rw[List.flatMap_map];rfl
 rw[e a,e b,h]
def ZQ:Jm (List Int) where
 add:=(· ++ ·)
 z:=[]
 assoc:=qj
 zl:=λ_=>rfl
 v:=GT
 M:=GU
 nil:=λ_=>rfl
 cons:=λN x l=>by rw[JW,JW,jx]
 same:=λN x y k i t f r=>by
  unfold GT
  rw[k,i]
  by_cases k6:x.kind=6
  . rw[if_pos k6,if_pos k6,f k6]
  . rw[if_neg k6,if_neg k6]
    by_cases k7:x.kind=7
    . rw[if_pos k7,if_pos k7,S7 (r k7)]
    . rw[if_neg k7,if_neg k7]
 gone:=λN x k h=>by unfold GT;rw[if_neg (by rw[k];decide),if_neg (by rw[k];decide)]
 join:=λN x y kx ky vx vy=>by
  have k:(y.addText x.text).kind=1:=ky
  unfold GT
  rw[k,kx,ky]
  simp
structure S8 (hg:Int->AF->Prop) (G:BN->List AB->Prop) (pl:BN) (x:AB):Prop where
 form:G7 x=0
 k3:x.kind=3->pl.body=true
 k6:x.kind=6->pl.note=false
 k7:x.kind=7->pl.tables<4
 k8:x.kind=8->1<=x.id/\x.id<=1073741824
 head:hg x.kind x.head
 flow:x.kind=6->G ⟨false,true,pl.tables⟩ x.flow
 rows:x.kind=7->x.rows≠[]/\x.rows.length<=256/\∀r∈x.rows,hg 9 r.head/\r.cells≠[]/\r.cells.length<=32/\∀c∈r.cells,hg 10 c.head/\G ⟨false,pl.note,IntKind.i64.wrap (pl.tables+1)⟩ c.flow
def gH (hg:Int->AF->Prop):Nat->BN->List AB->Prop
 | 0,_,_=>True
 | N+1,pl,l=>∀x∈l,S8 hg (gH hg N) pl x
theorem UK {K:Ck}:∀{N:Nat} {d:BN} {l:List AB},gN K N d l↔gH (λel h=>EV K el h=0) N d l
 | 0,_,_=>Iff.rfl
 | N+1,d,l=>by
  have e:=λd l=>@UK K N d l;constructor;intro h x i;obtain⟨a1,a2,a3,a4,a5,f,g,a⟩:=h x i;exact⟨a1,a2,a3,a4,a5,f,λk=>(e _ _).1 (g k),λk=>⟨(a k).1,(a k).2.1,λr b=>⟨((a k).2.2 r b).1,((a k).2.2 r b).2.1,((a k).2.2 r b).2.2.1,λc hc=>⟨(((a k).2.2 r b).2.2.2 c hc).1,(e _ _).1 (((a k).2.2 r b).2.2.2 c hc).2⟩⟩⟩⟩;intro h x i;obtain⟨a1,a2,a3,a4,a5,f,g,a⟩:=h x i;exact⟨a1,a2,a3,a4,a5,f,λk=>(e _ _).2 (g k),λk=>⟨(a k).1,(a k).2.1,λr b=>⟨((a k).2.2 r b).1,((a k).2.2 r b).2.1,((a k).2.2 r b).2.2.1,λc hc=>⟨(((a k).2.2 r b).2.2.2 c hc).1,(e _ _).2 (((a k).2.2 r b).2.2.2 c hc).2⟩⟩⟩⟩
theorem PJ {x y:AB} (c:y.kind=x.kind) (g:y.code=x.code) (m:y.id=x.id) (e:y.text=x.text) (f:y.kind≠6->y.flow=[]) (r:y.kind≠7->y.rows=[]) (h:G7 x=0):G7 y=0:=by
 obtain⟨g6,g7,_⟩:=Kx h;have a:(decide (y.kind≠6)&&decide (0<y.flow.length))=(decide (x.kind≠6)&&decide (0<x.flow.length)):=by
  by_cases k:x.kind=6;rw[c,k];simp;rw[f (by rw[c];exact k),g6 k,c]
 have b:(decide (y.kind≠7)&&decide (0<y.rows.length))=(decide (x.kind≠7)&&decide (0<x.rows.length)):=by
  by_cases k:x.kind=7;rw[c,k];simp;rw[r (by rw[c];exact k),g7 k,c]
 have j:P6 y=P6 x:=by unfold P6 Wa;rw[c,g]
 have l:Ni y=Ni x:=by unfold Ni;rw[a,b];unfold ZK ZJ cX U2;rw[c,g,m,e]
 have d:IU y=IU x:=by unfold IU;rw[c,e]
 have Z4:Kv y=Kv x:=by unfold Kv;rw[c,e]
 have i:U2 y=U2 x:=by unfold U2;rw[c,g]
 unfold G7 at h ⊢;rw[j,l,d,Z4,i,e];exact h
section
variable {hg hg' : Int → AF → Prop}
theorem Nk {G:BN->List AB->Prop} {a:BN} {x:AB} (k:x.kind=1) (h:S8 hg G a x) {t:ByteArray} (v:A5 t=true) (ne:t.size≠0):S8 hg G a (.mk x.kind x.code x.id t x.head x.flow x.rows):=by
 obtain⟨f1,f2,f3,f4,f5,_⟩:=(G8 k).1 h.form;refine⟨(G8 (x:=.mk x.kind x.code x.id t x.head x.flow x.rows) k).2 ⟨f1,f2,f3,f4,v,λe=>ne ((G5 _).1 e)⟩,h.k3,h.k6,h.k7,h.k8,h.head,h.flow,h.rows⟩
theorem M7 (b:∀el h,hg el h->hg' el h):∀{N:Nat} {e:BN} {l:List AB},gH hg N e l->gH hg' N e l
 | 0,_,_,_=>trivial
 | N+1,e,l,H=>λx i=>by
  obtain⟨a1,a2,a3,a4,a5,f,g,a⟩:=H x i;exact⟨a1,a2,a3,a4,a5,b _ _ f,λk=>M7 b (g k),λk=>⟨(a k).1,(a k).2.1,λr d=>⟨b _ _ ((a k).2.2 r d).1,((a k).2.2 r d).2.1,((a k).2.2 r d).2.2.1,λc hc=>⟨b _ _ (((a k).2.2 r d).2.2.2 c hc).1,M7 b (((a k).2.2 r d).2.2.2 c hc).2⟩⟩⟩⟩
theorem UJ {G:BN->List AB->Prop} {d:BN}:∀(l o:List AB),(∀y∈o,S8 hg G d y)->(∀y∈l,S8 hg G d y)->∀y∈l.foldl AQ o,S8 hg G d y
 | [],_,ho,_=>ho
 | x::l,o,ho,hl=>by
  rw[jy];refine UJ l _ (λy a=>?_) λy a=>hl y (qC _ a);have c:=hl x (qV ..);unfold AQ at a;split at a;exact ho y a;split at a;rename_i z f;split at a;rename_i k;rcases qd.1 a with g|g;exact ho y ((List.dropLast_sublist o).subset g);rw[qy.1 g];have b:=ho z (List.mem_of_getLast? f);obtain⟨_,_,_,_,i,h⟩:=(G8 k.2.1).1 b.form;obtain⟨_,_,_,_,j,n2⟩:=(G8 k.1).1 c.form;refine Nk k.2.1 b (HP i j) λe=>h ((G5 _).2 ?_);rw[kT]at e;omega;rcases qd.1 a with g|g;exact ho y g;rw[qy.1 g];exact c;rcases qd.1 a with g|g;exact ho y g;rw[qy.1 g];exact c
theorem JT:∀{N:Nat} {d:BN} {l:List AB},gH hg N d l->gH hg N d (AO l)
 | 0,_,_,_=>trivial
 | N+1,d,l,H=>by
  show ∀y∈AO l,S8 hg (gH hg N) d y;unfold AO Cy;refine UJ _ _ (λy b=>by cases b) λy b=>?_;rw[kM]at b;obtain⟨x,p,rfl⟩:=ql.1 b;obtain⟨a1,a2,a3,a4,a5,h,i,e⟩:=H x p;obtain⟨g6,g7,_⟩:=Kx a1;obtain⟨f1,f2,f3,f4,f5,f6,f7⟩:=kB x;have a:x.kind=7->(AB.nrm x).rows=x.rows.map AP.nrm:=λk=>HE λr a=>((e k).2.2 r a).2.1;refine⟨PJ f1 f2 f3 f4 (λk=>?_) (λk=>?_) a1,by rw[f1];exact a2,by rw[f1];exact a3,by rw[f1];exact a4,by rw[f1,f3];exact a5,by rw[f1,f5];exact h,λk=>?_,λk=>?_⟩;rw[f6,g6 (by rw[<-f1];exact k)];rfl;rw[f7,g7 (by rw[<-f1];exact k)];rfl;rw[f6];exact JT (i (by rw[<-f1];exact k));rw[f1]at k;obtain⟨b1,j,m⟩:=e k;rw[a k];refine⟨by simpa using b1,by rw[qf];exact j,λr a=>?_⟩;obtain⟨r0,h0,rfl⟩:=ql.1 a;obtain⟨c1,n,o,f⟩:=m r0 h0;rw[(wb r0).1,(wb r0).2];refine⟨c1,by simpa using n,by rw[qf];exact o,λc hc=>?_⟩;obtain⟨z,g,rfl⟩:=ql.1 hc;rw[(wj z).1,(wj z).2.2];exact⟨(f z g).1,JT (f z g).2⟩
theorem Wc {G:BN->List AB->Prop} {b:BN} (cu:Int):∀(l:List AB) (s:Int),(∀x∈l,S8 hg G b x)->(∀x∈(Kq cu s l).1,S8 hg G b x)/\∀x∈(Kq cu s l).2,S8 hg G b x
 | [],s,_=>⟨λx a=>(by cases a),λx a=>(by cases a)⟩
 | x :: l, s, h => by
  have a:=h x (qV ..);obtain⟨g,i⟩:=Wc cu l (s+x.units) λy f=>h y (qC _ f);have cons:∀{y:AB} {L:List AB},S8 hg G b y->(∀x∈L,S8 hg G b x)->∀x∈y::L,S8 hg G b x:=fun {y L} f hL z hz=>by
   rcases qt.1 hz with e|e;rw[e];exact f;exact hL z e
  rw[Kq];by_cases c1:s+x.units<=cu;rw[if_pos c1];exact⟨cons a g,i⟩;rw[if_neg c1];by_cases d:cu<=s;rw[if_pos d];exact⟨g,cons a i⟩;rw[if_neg d];have c:=NT c1 d;obtain⟨_,_,_,_,v,_⟩:=(G8 c).1 a.form;have hu:=II c v;obtain⟨o,j,e2,k,m,n1,n2⟩:=Ef v (u:=cu-s) (by omega) (by omega);refine⟨cons ?_ g,cons ?_ i⟩;unfold J5;rw[j];exact Nk c a k (LD (by omega));unfold Ut;rw[j];exact Nk c a m (LD (by omega))
theorem Nm {N:Nat} {c:BN} {l:List AB} (a b:Int) (H:gH hg (N+1) c l):gH hg (N+1) c (Ab l a b).1:=by
 unfold Ab;split;refine JT ?_;show ∀x∈_,S8 hg (gH hg N) c x;rw[ES (Ad l b).1 a,ES l b];exact(Wc a _ 0 (Wc b l 0 H).1).2;exact λx d=>by cases d
theorem Nl {g:Bool->AF->AF} (e:∀mid el h,hg el h->hg' el (g mid h)) (sc:BH):∀(N:Nat) (f:BN) (id:Int) (l:List AB) (mid:Bool),gH hg N f l->gH hg' N f (AT (gF g) sc N id l mid ()).1
 | 0,_,_,_,_,_=>trivial
 | N + 1, f, id, l, mid, H => by
  have P:∀(mid:Bool) (l:List AB),gH hg (N+1) f l->∀y∈(A8 (gF g) (AT (gF g) sc N) mid l ()).1,S8 hg' (gH hg' N) f y:=λmid l H y d=>by
   rw[Ej]at d;obtain⟨x,A,rfl⟩:=ql.1 d;obtain⟨a1,a2,a3,a4,a5,o,p,q⟩:=H x A;obtain⟨g6,g7,_⟩:=Kx a1;have j:(NA g (AT (gF g) sc N) mid x).flow=if x.kind=6 then(AT (gF g) sc N x.id x.flow mid ()).1 else x.flow:=rfl
   have m:(NA g (AT (gF g) sc N) mid x).rows=if x.kind=7 then x.rows.map (Sb g (AT (gF g) sc N) mid)else x.rows:=rfl
   refine⟨PJ (x:=x) rfl rfl rfl rfl (λk=>?_) (λk=>?_) a1,a2,a3,a4,a5,e _ _ _ o,λk=>?_,λk=>?_⟩;have k:x.kind≠6:=k;rw[j,if_neg k];exact g6 k;have k:x.kind≠7:=k;rw[m,if_neg k];exact g7 k;have k:x.kind=6:=k;rw[j,if_pos k];exact Nl e sc N _ _ _ _ (p k);have k:x.kind=7:=k;obtain⟨b1,s,t⟩:=q k;rw[m,if_pos k];refine⟨by simpa using b1,by rw[qf];exact s,λr w=>?_⟩;obtain⟨r0,h0,rfl⟩:=ql.1 w;obtain⟨c1,u,v,i⟩:=t r0 h0;refine⟨e _ _ _ c1,by show r0.cells.map _≠[];simpa using u,by show(r0.cells.map _).length<=32;rw[qf];exact v,λc hc=>?_⟩;obtain⟨z,n,rfl⟩:=ql.1 (show c∈r0.cells.map (Vk g (AT (gF g) sc N) mid)from hc);exact⟨e _ _ _ (i z n).1,Nl e sc N _ _ _ _ (i z n).2⟩
  rw[AT];split;intro y d;have d:y∈(A8 (gF g) (AT (gF g) sc N) false (Ab l 0 sc.a).1 ()).1++(A8 (gF g) (AT (gF g) sc N) true (Ab l sc.a sc.b).1 ()).1++(A8 (gF g) (AT (gF g) sc N) false (Ab l sc.b (BF l).1).1 ()).1:=d;rcases qd.1 d with d|d;rcases qd.1 d with d|d;exact P _ _ (Nm _ _ H) y d;exact P _ _ (Nm _ _ H) y d;exact P _ _ (Nm _ _ H) y d;exact P mid l H
theorem P8 {Q:Int->Prop}:∀{N:Nat} {d:BN} {l:List AB},gH hg N d l->(∀y∈AB.usL l,Q y)->gH (λel h=>hg el h/\∀y∈h.all,Q y) N d l
 | 0,_,_,_,_=>trivial
 | N+1,d,l,H,U=>λx j=>by
  obtain⟨a1,a2,a3,a4,a5,m,n,o⟩:=H x j;have us:∀z:AB,z.us=z.head.all++(if z.kind=6 then AB.usL z.flow else if z.kind=7 then AP.usL z.rows else[]):=λz=>by cases z;rw[AB.us];rfl
  have b:∀y∈x.us,Q y:=λy a=>U y (by rw[L9];exact km.2 ⟨x,j,a⟩);rw[us]at b;refine⟨a1,a2,a3,a4,a5,⟨m,λy a=>b y (qD _ a)⟩,λk=>P8 (n k) λy a=>b y (qB _ (by rw[if_pos k];exact a)),λk=>?_⟩;obtain⟨b1,p,q⟩:=o k;refine⟨b1,p,λr i=>?_⟩;obtain⟨c1,s,t,g⟩:=q r i;have f:∀y∈r.us,Q y:=λy a=>b y (qB _ (by rw[if_neg (by rw[k];decide),if_pos k,Ji];exact km.2 ⟨r,i,a⟩));have v:∀z:AP,z.us=z.head.all++AH.usL z.cells:=λz=>by cases z;rw[AP.us];rfl
  rw[v]at f;refine⟨⟨c1,λy a=>f y (qD _ a)⟩,s,t,λc hc=>?_⟩;have e:∀y∈c.us,Q y:=λy a=>f y (qB _ (by rw[LN];exact km.2 ⟨c,hc,a⟩));have u:∀z:AH,z.us=z.head.all++AB.usL z.flow:=λz=>by cases z;rw[AH.us];rfl
  rw[u]at e;exact⟨⟨(g c hc).1,λy a=>e y (qD _ a)⟩,P8 (g c hc).2 λy a=>e y (qB _ a)⟩
end
theorem KM {K K':Ck} (h0:K.m0=K'.m0) (h1:K.m1=K'.m1) {el:Int} {h:AF} (g:In K el h) (hm:∀y∈h.all,y∈K.m2->y∈K'.m2):In K' el h:=by
 have eR:Gg K=Gg K':=LF h0 h1;refine⟨g.props,λj hj=>?_,?_,g.mv,g.dlen,λj hj=>?_,g.llen,λj hj=>?_⟩;have:Ia K'=Ia K:=by funext a b;unfold Ia;rw[eR]
 rw[this];exact g.refs j hj;have:=g.ins;unfold Fc at this ⊢;by_cases z:h.ins=0;simp[z];have m:h.ins∈K.m2:=by simpa[z]using this
 have:=hm _ (JZ.2 (.inl rfl)) m;simp[this];obtain⟨b1,b2,b3⟩:=(G6 hj).1 (g.dels j hj);exact(G6 hj).2 ⟨hm _ (JZ.2 (.inr (.inl ⟨_,qi hj,rfl⟩))) b1,b2,b3⟩
 . have:=g.layers j hj;rw[Jr,qe hj]at this ⊢;dsimp only at this ⊢;by_cases a1:h.layers[j].rev∈K.m2
   case neg=>simp[a1]at this
   have a2:=hm _ (JZ.2 (.inr (.inr ⟨_,qi hj,rfl⟩))) a1;rw[decide_eq_true a1]at this;rw[decide_eq_true a2,<-eR];exact this
theorem Wp {F:Nat->Int} {i:Nat} (h1:1<=F i) (h2:F i<=1073741824) (a:0<i->F (i-1)<F i):Gb F i=0:=by
 unfold Gb;rw[if_neg (by omega),if_neg λg=>by have:=a g.1;omega,if_neg λg=>by have:=a g.1;omega]
theorem S6 {a b c:Int} (d:a=0) (hb:b=0) (hc:c=0):Bc [a,b,c]=0:=by subst d;subst hb;subst hc;rfl
theorem SM {l:List BC} (h:SK l):El l=0:=by
 have hl:=h.1;have e:CD (IQ l) (min l.length 256)=0:=Mp λi hi=>by
  have hi:i<l.length:=by omega
  unfold IQ;rw[qe hi];dsimp only;have r:=h.2.1 _ (qi hi);unfold Cn at r;by_cases a1:l[i].id<1\/1073741824<l[i].id;rw[if_pos a1]at r;cases r;rw[if_neg a1]at r;by_cases a2:l[i].author.size=0;rw[if_pos a2]at r;cases r;rw[if_neg a2]at r;by_cases a3:40<l[i].author.size;rw[if_pos a3]at r;cases r;rw[if_neg a3]at r;cases a4:A5 l[i].author with
  | false=>rw[a4]at r;simp at r
  | true=>
  rw[a4,if_neg (by decide)]at r;by_cases a5:l[i].time<0\/1099511627776<l[i].time;rw[if_pos a5]at r;cases r;have c:Dc l[i].author=true:=by unfold Dc;rw[a4,decide_eq_true (by omega)];rfl
  have d:decide (0<=l[i].time/\l[i].time<=1099511627776)=true:=decide_eq_true (by omega);have hI:∀F:Nat->Int,(∀j (b:j<l.length),F j=l[j].id)->Gb F i=0:=λF a=>Wp (by rw[a i hi];omega) (by rw[a i hi];omega) λi0=>by
   have:=kG.1 h.2.2 (i-1) i (by omega) hi (by omega);rw[a i hi,a (i-1) (by omega)];exact this
  refine S6 (hI _ λj b=>?_) ?_ ?_;rw[qe b];rw[c];rfl;rw[d];rfl
 unfold El;rw[e];have:¬(256:Int)<l.length:=by omega
 simp[Bc,this]
theorem KT {X:AG} {y:Int}:y∈(Kd X).m2↔∃r∈X.revs,r.id=y:=Wz rfl
theorem YR {N:Nat} {d D:AG} (g:DU N d) (_WD:wf (λ_=>True) (λi=>i ≠ -1) N D.flow) (q:Dp N D.flow) (k:SK D.revs) (u:D.«end» = d.«end») (l:D.settings=d.settings) (c:∀r∈d.revs,r.id∈d.«end».all->r∈D.revs)
 (w:gH (λel h=>In (Kd D) el h) N ⟨true,false,0⟩ D.flow) (hI:CX [] (GU N D.flow)) (x:IntKind.i64.wrap (Oz N D.flow)<=16384):DU N D.normal:=by
 obtain⟨S,b⟩:∃S,S=D.normal:=⟨_,rfl⟩
 rw[<-b];have p:SK S.revs:=by rw[b];exact IS k _
 have m:S.flow=AO D.flow:=by rw[b];rfl
 have j:S.«end» = d.«end»:=by rw[b];show D.«end» = _;rw[u]
 have n:S.settings=d.settings:=by rw[b];show D.settings=_;rw[l]
 have v:∀r:BC,r.id≠0->(r∈S.revs↔r∈D.revs/\r.id∈AB.usL S.flow++S.«end».all):=λr c=>by rw[b,IM c];rfl
 have s:(Kd d).m0=(Kd S).m0:=by show HV d.settings.styles _=HV S.settings.styles _;rw[n]
 have t:(Kd d).m1=(Kd S).m1:=by show BU [] (d.settings.lists.map (·.id))=BU [] (S.settings.lists.map (·.id));rw[n]
 have z:(Kd D).m0=(Kd S).m0:=by rw[<-s];show HV D.settings.styles _=HV d.settings.styles _;rw[l]
 have A:(Kd D).m1=(Kd S).m1:=by rw[<-t];show BU [] (D.settings.lists.map (·.id))=BU [] (d.settings.lists.map (·.id));rw[l]
 have keep:∀y,y∈AB.usL S.flow++S.«end».all->y∈(Kd D).m2->y∈(Kd S).m2:=λy f o=>by
  obtain⟨r,c,e⟩:=KT.1 o;exact KT.2 ⟨r,(v r (Tl k c)).2 ⟨c,by rw[e];exact f⟩,e⟩
 refine⟨by rw[n];exact g.settings,SM p,?_,by rw[j];exact g.endI,by rw[j];exact g.endM,by rw[j];exact g.endD,?_,?_,?_⟩;rw[j];refine D8.2 (KM s t (D8.1 g.endH) λy f o=>?_);obtain⟨r,h,e⟩:=KT.1 o;refine keep y (qB _ (by rw[j];exact f)) (KT.2 ⟨r,c r h (by rw[e];exact f),e⟩);refine UK.2 ?_;have h1:gH (λel h=>In (Kd D) el h) N ⟨true,false,0⟩ S.flow:=by rw[m];exact JT w
 have h2:=P8 (Q:=λy=>y∈(Kd D).m2->y∈(Kd S).m2) h1 λy f=>keep y (qD _ f);exact M7 (λel h a=>D8.2 (KM z A a.1 a.2)) h2;have:=ZQ.normal (λa=>kv a) q;have e:GU N S.flow=GU N D.flow:=by rw[m];exact this
 rw[e];exact hI;have:=ZR.normal (λa=>Int.add_zero a) q;have e:Oz N S.flow=Oz N D.flow:=by rw[m];exact this
 rw[e];exact x
section
variable {m2 : List Int} {N K : Nat} {d : AG} {rev : Int}
theorem TB (k:m2=BU [] (d.revs.map (·.id))) (g:DU N d) (hl:Dq (HK m2) K N d.flow) (sc:BH) {nx:BC} (h1:Cn nx=0) (h2:(CT d.revs nx.id).2=false) (o:d.revs.length<256):DU N (Dl N d rev sc nx).normal:=by
 have n:=g.ok;have ht:=Jb n;have n0:nx.id≠0:=by have:=OC h1;omega
 have b:=P4 h2;obtain⟨D,j⟩:∃D,D=Dl N d rev sc nx:=⟨_,rfl⟩
 rw[<-j];have i:D.flow=(AT (gF (gR rev nx.id)) sc N 0 d.flow false ()).1:=by rw[j];unfold Dl BM;rw[Hw]
 have v:D.«end» = d.«end»:=by rw[j];unfold Dl BM;rw[Hw];rfl
 have l:D.revs=FB d.revs (I5 d nx) nx:=by rw[j];rfl
 have m:D.settings=d.settings:=by rw[j];rfl
 have q:SK D.revs:=by
  rw[l];exact(UQ ht b).2.2 o h1
 have W:=Rf k n hl;have c:Dp N d.flow:=Iu (k▸n.flow) hl;have s:∀y,y∈(Kd D).m2↔y=nx.id\/y∈(Kd d).m2:=λy=>by
  rw[KT,KT,l];constructor;rintro⟨r,f,e⟩;rcases HD.1 f with g|g;exact .inl (by rw[<-e,g]);exact .inr ⟨r,g,e⟩;rintro(e|⟨r,f,e⟩);exact⟨nx,HD.2 (.inl rfl),e.symm⟩;exact⟨r,HD.2 (.inr f),e⟩
 have hn:nx.id∉(Kd d).m2:=λg=>by
  obtain⟨r,f,e⟩:=KT.1 g;exact b r f e
 have t:(Kd d).m0=(Kd D).m0:=by show HV d.settings.styles _=HV D.settings.styles _;rw[m]
 have u:(Kd d).m1=(Kd D).m1:=by show BU [] (d.settings.lists.map (·.id))=BU [] (D.settings.lists.map (·.id));rw[m]
 refine YR g (by rw[i];exact LO (λ_ _ _=>trivial) sc N 0 d.flow false W) ?_ q v m (λr f _=>by rw[l,HD];exact .inr f) ?_ ?_ ?_;rw[i];exact(RS (gR rev nx.id) sc N 0 d.flow false (QZ W) c).2.1;rw[i];refine Nl (g:=gR rev nx.id) (λmid el h e=>?_) sc N _ 0 d.flow false (UK.1 g.flow);have H:=D8.1 e;cases mid with
 | false=>exact KM t u H λy _ z=>(s y).2 (.inr z)
 | true=>
  refine U6 (p:=P1 rev) (id:=nx.id) t u H (λx w=>(s _).2 ?_) n0 (Yo (OA (.inr hn) n0 H.ok));unfold ED;split;exact .inl rfl;exact .inr w
 have:=ZQ.items (λa=>kv a) (gR rev nx.id) sc N 0 d.flow false W c;have e:GU N D.flow=GU N d.flow:=by rw[i];exact this
 rw[e];exact g.ids;have:=ZR.items (λa=>Int.add_zero a) (gR rev nx.id) sc N 0 d.flow false W c;have e:Oz N D.flow=Oz N d.flow:=by rw[i];exact this
 rw[e];exact g.units
end
theorem Yb {hp:AF->Prop} {K N:Nat} {l:List AB} (h:Dq hp K N l):Dq hp K N []:=by
 cases N with
 | zero=>exact h.elim
 | succ N=>exact Ci.2 ⟨by simp,by simp[Ak],λx a=>by cases a⟩
theorem TJ:(Bk.all λk=>decide (1<=k.number)&&decide (k.number<=1000))=true:=by kernel_rfl
theorem N7 {t:Int} {k:Jt} (h:Dz t=some k):1<=t/\t<=1000:=by
 unfold Dz at h;split at h;rename_i h2;have a:=Fw _ _ h2;obtain⟨i,hi⟩:∃i,i=(Az (GV t) Bk.length).1:=⟨_,rfl⟩
 rw[<-hi]at h a;have b:GV t i=0:=by
  simp only[Az,decide_eq_true_eq]at h2 hi;rw[<-hi]at h2;exact h2.2
 unfold GV GD at b;rw[qe a]at b;dsimp only at b;have e:Bk[i].number=t:=by
  split at b;omega;split at b<;>omega
 have:=ka.1 TJ _ (qi a);simp only[qo,decide_eq_true_eq]at this;rw[e]at this;exact this;cases h
theorem VA {el:Int} {l:List Bi} (h:CY el l=0):∀i (hi:i<l.length),(i:Int)+1<=l[i].key/\l[i].key<=1000:=by
 unfold CY at h;split at h;cases h;have st:=G1.1 h;have one:∀i (hi:i<l.length),(1<=l[i].key/\l[i].key<=1000)/\∀j (b:j<l.length),i=j+1->l[j].key<l[i].key:=λi hi=>by
  have:=st i hi;unfold Di at this;rw[qe hi]at this;dsimp only at this;cases a:Oh el l[i].key with
  | false=>rw[a]at this;simp at this
  | true=>
   rw[a]at this;simp only[Bool.not_true,qn,if_false]at this;refine⟨?_,λj b e=>?_⟩;unfold Oh at a;split at a;rename_i k d;exact N7 d;cases a;subst e;rw[Nat.add_sub_cancel,qe b]at this;by_cases c1:l[j].key=l[j+1].key;simp[c1]at this;by_cases c:l[j+1].key<l[j].key;simp[c1,c]at this;omega
 intro i
 induction i with
 | zero=>intro hi;have:=(one 0 hi).1;omega
 | succ i ih=>
  intro hi;have h1:=ih (by omega);have h2:=(one (i+1) hi).2 i (by omega) rfl;have h3:=(one (i+1) hi).1;omega
theorem XC {el:Int} {l:List Bi} (h:CY el l=0):l.length<=1000:=by
 by_cases c:l.length=0;omega;have:=VA h (l.length-1) (by omega);omega
theorem In.dc {K:Ck} {el:Int} {h:AF} (g:In K el h):Jp h:=⟨by have:=XC g.props;have:=g.llen;omega,by have:=g.dlen;omega⟩
theorem My {m2:List Int} {acc rej:Int->Bool} {h h':AF} (H:HK m2 h) (D:Jp h) (e:CE acc rej h=some h'):HK m2 h':=by
 unfold CE at e;split at e;cases e;cases e;obtain⟨f1,f2⟩:=Ih (acc:=acc) (rej:=rej) (ps:=h.props) (C8 h.layers.length h.layers) (h.props,[]);have c1:=KJ h.layers.length h.layers;have c2:=Lg h.layers.length h.layers;have d1:=D.props;have l1:=H.2.llen;simp only[vI]at f2;dsimp only at f1;have fl:=kr (λx:Bs=>!rej x.rev) h.dels;have dl:=H.2.dlen;refine⟨⟨?_,?_,?_⟩,⟨?_,?_,λx a=>?_,?_,λx a=>?_⟩⟩;show((C8 h.layers.length h.layers).foldl (CM acc rej h.props) (h.props,[])).1.length<=_;omega;show(h.dels.filter _).length<=_;omega;show((C8 h.layers.length h.layers).foldl (CM acc rej h.props) (h.props,[])).2.length<=_;omega;show(if _ then 0 else h.ins)=0\/(if _ then 0 else h.ins)∈m2;split;exact .inl rfl;exact H.2.ins;show(h.dels.filter _).length<=_;omega;exact H.2.dels x (kD.1 (show x∈h.dels.filter _ from a)).1;show((C8 h.layers.length h.layers).foldl (CM acc rej h.props) (h.props,[])).2.length<=_;omega;rcases Ii (show x∈((C8 h.layers.length h.layers).foldl (CM acc rej h.props) (h.props,[])).2 from a)with q|⟨k,b,y,c,q⟩
 cases q;rw[<-q];exact H.2.layers y (K0 b c)
theorem Pi {f:AB->Option AB} (a:∀x y,f x=some y->y.text=x.text):∀l:List AB,Ak (l.filterMap f)<=Ak l
 | []=>qa _
 | x :: l => by
  have b:=Pi a l;have e:Ak (x::l)=x.text.size+Ak l:=by simp[Ak]
  rw[CN,Bn,e];cases h:f x with
  | none=>simp[Ak]at b ⊢;omega
  | some y=>
   have:Ak [y]=y.text.size:=by simp[Ak]
   have h2:=a x y h;simp only[Option.toList_some,this,h2];omega
theorem Ys {δ:AF->Option AF} {x y:AB} (e:AB.rl δ x=some y):y.text=x.text:=by
 rw[AB.rl_eq,kF]at e;obtain⟨h',_,e⟩:=e;split at e;cases e;rfl;split at e;split at e<;>cases e;rfl;cases e;rfl
theorem QC {hp hp' n:AF->Prop} {T:Int->Prop} {δ:AF->Option AF} (i:∀h h',hp h->δ h=some h'->hp' h') {K:Nat}:∀{N:Nat} {l:List AB},wf n T N l->Dq hp K N l->Dq hp' K N (AB.rlL δ l)
 | 0,_,_,h=>h.elim
 | N+1,l,W,H=>by
  obtain⟨a,b,c⟩:=Ci.1 H;rw[wu];refine Ci.2 ⟨qI (KC _ _) a,qI (Pi (λx y e=>Ys e) l) b,λy C=>?_⟩;obtain⟨x,t,e⟩:=kV.1 C;obtain⟨_,I,u,_,_,w,q⟩:=DR.1 W x t;obtain⟨J,L,o,M⟩:=c x t;rw[AB.rl_eq,kF]at e;obtain⟨h',A,e⟩:=e;have f:=i _ _ J A;have k:=QC i w L;by_cases k6:x.kind=6;rw[if_pos k6]at e;cases e;refine⟨f,k,o,λr d=>?_⟩;have d:r∈x.rows:=d;rw[u (by rw[k6];decide)]at d;cases d;rw[if_neg k6]at e;have v:Dq hp' K N x.flow:=by rw[I k6];exact Yb k
  by_cases k7:x.kind=7;rw[if_pos k7]at e;split at e;cases e;cases e;refine⟨f,v,qI (KC _ _) o,λr d=>?_⟩;obtain⟨r0,h0,g⟩:=kV.1 (show r∈x.rows.filterMap (AP.rl δ)from d);obtain⟨D,E,F⟩:=M r0 h0;rw[AP.rl_eq,kF]at g;obtain⟨h2,m,g⟩:=g;split at g;cases g;cases g;refine⟨i _ _ D m,qI (KC _ _) E,λs B=>?_⟩;obtain⟨s0,j,p⟩:=kV.1 (show s∈r0.cells.filterMap (AH.rl δ)from B);obtain⟨G,v3⟩:=F s0 j;rw[AH.rl_eq,qN]at p;obtain⟨h4,z,rfl⟩:=p;exact⟨i _ _ G z,QC i ((q r0 h0).2.2 s0 j).2.2 v3⟩;rw[if_neg k7]at e;cases e;refine⟨f,v,o,λr d=>?_⟩;have d:r∈x.rows:=d;rw[u k7]at d;cases d
theorem TL {hp j:AF->Prop} {T:Int->Prop} {K:Nat}:∀{N:Nat} {n:BN} {l:List AB},wf j T N l->gH (λ_ h=>Jp h) N n l->Dq hp K N l->Dq (λh=>hp h/\Jp h) K N l
 | 0,_,_,_,_,h=>h.elim
 | N+1,n,l,W,G,H=>by
  obtain⟨a,b,c⟩:=Ci.1 H;refine Ci.2 ⟨a,b,λx g=>?_⟩;obtain⟨_,v,y,_,_,w,q⟩:=DR.1 W x g;obtain⟨z,m,A,B⟩:=c x g;have i:=G x g;refine⟨⟨z,i.head⟩,?_,A,λr d=>?_⟩;by_cases k:x.kind=6;exact TL w (i.flow k) m;have e:=v k;rw[e]at m ⊢;cases N with
  | zero=>exact m.elim
  | succ N=>exact Ci.2 ⟨by simp,by simp[Ak],λx g=>by cases g⟩
  by_cases k:x.kind=7;obtain⟨p,t,o⟩:=B r d;obtain⟨u,v2,v3,v4⟩:=(i.rows k).2.2 r d;exact⟨⟨p,u⟩,t,λs f=>⟨⟨(o s f).1,(v4 s f).1⟩,TL ((q r d).2.2 s f).2.2 (v4 s f).2 (o s f).2⟩⟩;rw[y k]at d;cases d
theorem RM {N K:Nat} {D:AG} (G:DU N D) {hp:AF->Prop} (l:Dq hp K N D.flow):Dq (λh=>hp h/\Jp h) K N D.flow/\wf (λ_=>True) (λ_=>True) N D.flow/\Jp D.«end»:=by
 have w:=Um (T:=λ_=>True) G.ok.flow l λ_ _=>trivial;exact⟨TL w (M7 (λel h e=>(D8.1 e).dc) (UK.1 G.flow)) l,Qa (λ_ _=>trivial) (λ_ g=>g) w,(D8.1 G.endH).dc⟩
theorem UG {g:FuncId} {a b:List SV} {acc rej:Int->Bool} (k:Xu g a b (CE acc rej) Jp) {m2:List Int} {K N:Nat} {D:AG} (r:m2.length<=1000) (d:K<=1048576) (G:DU N D) (l:Dq (HK m2) K N D.flow) (q:HK m2 D.«end») (n:D.settings.sized):
 PC 90 [.fn (.func g) a b,D.enc] (C2 (CE acc rej) D).normal.enc/\PC 17 [(C2 (CE acc rej) D).normal.enc,(C2 (CE acc rej) D).normal.enc] (.bool true):=by
 obtain⟨o,w,i⟩:=RM G l;have m:D.revs.length<=1048576:=by have:=GK G.revs;omega
 have p:Dq (HK m2) K N (C2 (CE acc rej) D).flow:=QC (λh h' g e=>My g.1 g.2 e) w o;have j:HK m2 (C2 (CE acc rej) D).«end»:=by
  show HK m2 ((CE acc rej D.«end»).getD DN);cases e:CE acc rej D.«end» with
  | none=>exact ZL m2
  | some h'=>exact My q i e
 have f:=Kn (W:=C2 (CE acc rej) D) r d p j m n;have c:=bZ k d N D.flow (o.mono (λ_ g=>g.2) (qa _));exact⟨c90 k D i c (c21 _ f.1 f.2.1 f.2.2),q17 (hp:=HK m2) (λx g=>g.1) d N _ (FD p) j.1 (qI (kr _ _) m) n⟩
theorem PK:Dw []=λ_=>false:=by funext x;exact RN x
theorem ZI {m2:List Int} {K N:Nat} {D:AG} (e:m2.length<=1000) (c:K<=1048576) (G:DU N D) (l:Dq (HK m2) K N D.flow) (d:HK m2 D.«end») (f:D.settings.sized) (L:List Int) (hl:L.length<=1048576) (ok:Xq L):
 PC 22 [D.enc,.imm 1 (L.map AA) false] (.tup [(C2 (CE (Dw L) λ_=>false) D).normal.enc,(C2 (CE (λ_=>false) (Dw L)) D).normal.enc,.bool true]):=by
 have a:IL (.imm 1 (L.map AA) false) L:=.some L hl;have g:Xu 205 [] [.iptr [.imm 1 (L.map AA) false,.imm 0 [] true]] (CE (Dw L) λ_=>false) Jp:=λh b=>by
  have:=bg a .nil h b;rw[PK]at this;exact this
 have i:Xu 205 [] [.iptr [.imm 0 [] true,.imm 1 (L.map AA) false]] (CE (λ_=>false) (Dw L)) Jp:=λh b=>by
  have:=bg .nil a h b;rw[PK]at this;exact this
 exact c22 D _ _ L (c80 D _ _ L rfl (bV a .nil ok UV (.inr rfl) D _ (UG g e c G l d f).1)) (c81 D _ _ L rfl (bV .nil a UV ok (.inl rfl) D _ (UG i e c G l d f).1))
theorem WJ {m2:List Int} {K N:Nat} {D:AG} (d:m2.length<=1000) (b:K<=1048576) (G:DU N D) (l:Dq (HK m2) K N D.flow) (c:HK m2 D.«end») (e:D.settings.sized):
 PC 25 [D.enc] (C2 (CE (λ_=>false) λ_=>true) D).normal.enc/\PC 26 [D.enc] (C2 (CE (λ_=>true) λ_=>false) D).normal.enc:=by
 have f:Xu 89 [] [] (CE (λ_=>false) λ_=>true) Jp:=λh a=>c89 h a;have g:Xu 91 [] [] (CE (λ_=>true) λ_=>false) Jp:=λh a=>c91 h a;exact⟨c25 D _ (UG f d b G l c e).1,c26 D _ (UG g d b G l c e).1⟩
theorem aa {m2:List Int} {K N:Nat} {D:AG} (acc rej:Int->Bool) (_hm:m2.length<=1000) (c:K<=1048576) (G:DU N D) (l:Dq (HK m2) K N D.flow) (d:HK m2 D.«end») (i:D.settings.sized):
 PC 17 [(C2 (CE acc rej) D).normal.enc,(C2 (CE acc rej) D).normal.enc] (.bool true):=by
 obtain⟨j,w,a⟩:=RM G l;have f:D.revs.length<=1048576:=by have:=GK G.revs;omega
 have k:Dq (HK m2) K N (C2 (CE acc rej) D).flow:=QC (λh h' g e=>My g.1 g.2 e) w j;have b:HK m2 (C2 (CE acc rej) D).«end»:=by
  show HK m2 ((CE acc rej D.«end»).getD DN);cases e:CE acc rej D.«end» with
  | none=>exact ZL m2
  | some h'=>exact My d a e
 exact q17 (hp:=HK m2) (λx g=>g.1) c N _ (FD k) b.1 (qI (kr _ _) f) i
set_option maxHeartbeats 2000000 in
theorem c23 (a b:Int):PC 23 [AA a,AA b] (.imm 1 ((IP a b).map AA) false):=by
 intro h n;have e:IP a b=[if b<a then b else a,if b<a then a else b]:=by unfold IP;split<;>rfl
 rw[e];refine DO Tryz.func23 rfl λi=>?_;have f:=i.lt;refine Aa 0 [(0,AA a),(1,AA b)] h n ?_ (λm g=>?_);simp[go_sem,IO];refine CW 0 [(0,AA (if b<a then b else a)),(1,AA (if b<a then a else b))] h n (AJ ?_) (λm g=>?_);by_cases c:b<a;simp[go_sem,c,IO,g];simp[go_sem,c,IO,g];generalize(if b<a then b else a)=x;generalize(if b<a then a else b)=y;have d:∀j y,h j=some y->j<m:=λj y e=>by have:=f j y e;omega
 refine AJ ?_;simp[go_sem];refine Dj 1 i (AL d AC) (Cz (z:=1) (es:=[AA x,AA y]) (AS d (qa _)) (by simp) (by rw[AD];simp[SV.cells]) (by simp[SV.storable,SV.cells])) rfl
variable {H : Hp} {n : Nat} {o : Option Nat} {f : Bool}
end Go.Proofs.YtgakninlhfkkmaaGreat.Sh
namespace Go.Proofs.YtgakninlhfkkmaaGreat.Sh
open Proofs
set_option maxRecDepth 10000
section
variable {hp : AF → Prop} {T : Int → Prop} {g : Bool → AF → AF} {w : Bool} {y rev : Int}
end
theorem R8 {d:AG} {rev:Int} {nx:BC} {c:Int×Int×Int} {b:FU} {R:AG} (h:(EE d rev nx c b R).2=0):
 (EE d rev nx c b R).1=R/\c.2.2=0/\Cn nx=0/\(CT d.revs nx.id).2=false/\d.revs.length<256/\c.1≠0/\c.2.1≠0:=by
 unfold EE at h ⊢;split at h;rename_i g;exact absurd h g;rename_i f;split at h;rename_i g;exact absurd h g;rename_i i;split at h;cases h;rename_i g3;split at h;cases h;rename_i j;split at h;cases h;rename_i a;split at h;cases h;rename_i g6;rw[if_neg f,if_neg i,if_neg g3,if_neg j,if_neg a,if_neg g6];exact⟨rfl,by simpa using f,by simpa using i,by simpa using g3,by omega,λe=>a (.inl e),λe=>a (.inr e)⟩
theorem Oy {N:Nat} {d:AG} {rev:Int} {sc:BH} (h:(DM N d rev sc).2.2=0):(CT d.revs rev).2=true:=by
 unfold DM at h;split at h;cases h;split at h;cases h;split at h;cases h;rename_i u;simpa using u
def Zc (d:AG) (c:Xk):Prop:=∃(S:AG) (e:Int),PC 15 [d.enc,AA c.rev,c.sc.enc,c.next.enc] (.tup [S.enc,AA e])/\(e=0->
 ∃A R G F:AG,PC 22 [S.enc,.imm 1 ((IP c.rev c.next.id).map AA) false] (.tup [A.enc,R.enc,.bool true])/\PC 22 [d.enc,.imm 1 ([c.rev].map AA) false] (.tup [A.enc,R.enc,.bool true])/\PC 24 [S.enc] (AA 0)/\
  PC 17 [A.enc,A.enc] (.bool true)/\PC 17 [R.enc,R.enc] (.bool true)/\PC 25 [S.enc] G.enc/\PC 25 [d.enc] G.enc/\PC 17 [G.enc,G.enc] (.bool true)/\PC 26 [S.enc] F.enc/\PC 26 [d.enc] F.enc/\PC 17 [F.enc,F.enc] (.bool true))
theorem OE {r:BC} (h:Cn r=0):(1<=r.id/\r.id<=1073741824)/\r.author.size<=40:=by
 unfold Cn at h;split at h;cases h;split at h;cases h;split at h;cases h;omega
theorem Yf {a:Int} (h:1<=a/\a<=1073741824):Xq [a]:=λi hi=>by
 have:i=0:=by simpa using hi
 subst this;exact⟨h,by simp⟩
theorem Rg {a b:Int} (c:1<=a/\a<=1073741824) (hb:1<=b/\b<=1073741824) (h:a<b):Xq [a,b]:=λi hi=>by
 rw[qJ,List.length_singleton]at hi;rcases(show i=0\/i=1 by omega)with rfl|rfl;exact⟨c,by simp⟩;exact⟨hb,λ_=>h⟩
theorem Yg {a b:Int} (c:1<=a/\a<=1073741824) (hb:1<=b/\b<=1073741824) (hne:a≠b):Xq (IP a b):=by
 unfold IP;split;exact Rg hb c (by assumption);exact Rg c hb (by omega)
theorem YP {B N:Nat} (P:B<=1048576) {d:AG} (m:d.sizedT B N) (g:DU N d) (F:Og N d.flow) (c:Xk):Zc d c:=by
 obtain⟨rev,sc,nx⟩:=c;obtain⟨m2,a⟩:∃m2,m2=BU [] (d.revs.map (·.id)):=⟨_,rfl⟩
 have ok:=g.ok;have w:d.settings.sized:=m.settings.tosized;have hrl:=GK g.revs;have hm:m2.length<=998:=by
  have:=NL (d.revs.map (·.id)) [];rw[a];simp at this;omega
 have h1:Dq (HK m2) 150000 N d.flow:=M6 m.flow F (a▸ok.flow);have h2:HK m2 d.«end»:=⟨m.end,a▸ok.end.toUN⟩
 have y:=Jb ok;obtain⟨⟨Sd,cp⟩,G,O⟩:=Yv P m.flow m.end w ok F rev sc nx;rw[<-a]at G;refine⟨_,_,cp,λL=>?_⟩;obtain⟨Z,z2,z3,z4,z5,z6,z7⟩:=R8 L;obtain⟨o1,H⟩:=WY y (Oy z2);have q:=TB (rev:=rev) a g h1 sc z3 z4 z5;have n3:=OE z3;have E:=OE (y.2.1 _ o1);rw[H]at E;have D:rev≠nx.id:=λe=>by
  have:=P4 z4 _ o1;exact this (H.trans e)
 rw[Z];have b:=λacc rej acc' rej'=>YO (acc:=acc) (rej:=rej) (acc':=acc') (rej':=rej') (rev:=rev) a ok h1 h2 sc z3 z4 z5;obtain⟨S,s⟩:∃S,S=(Dl N d rev sc nx).normal:=⟨_,rfl⟩
 have k:Dq (HK (nx.id::m2)) 300000 N S.flow:=by rw[s];exact QD (by omega) (by omega) (JY G)
 have M:S.«end» = d.«end»:=by rw[s];show(Dl N d rev sc nx).«end» = _;rw[O]
 have J:S.settings=d.settings:=by rw[s];rfl
 rw[<-s]at q ⊢;simp only[<-s]at b;have l:HK (nx.id::m2) S.«end»:=by rw[M];exact K3 h2
 have t:S.settings.sized:=by rw[J];exact w
 have K:=Jb q.ok;have C:S.sizedT 300000 N:=⟨k.mono (λ_ g=>g.1) (qa _),l.1,by have:=K.1;omega,λr Q=>by have:=(OE (K.2.1 r Q)).2;omega,by rw[J];exact m.settings⟩
 have R:PC 24 [S.enc] (AA 0):=λh n=>(ZY S (by omega) C h n).mono λv h' n' ⟨⟨e,I,X⟩,Y⟩=>by
  have:e=0:=X.2 q;rw[this]at I;exact⟨I,Y⟩
 have u:(nx.id::m2).length<=1000:=by simp;omega
 have z:(IP rev nx.id).length<=1048576:=by unfold IP;split<;>simp
 have o:=ZI u (by omega) q k l t (IP rev nx.id) z (Yg E.1 n3.1 D);have A:=ZI (by omega) (by omega) g h1 h2 w [rev] (by simp) (Yf E.1);have j:=WJ u (by omega) q k l t;have p:=WJ (by omega) (by omega) g h1 h2 w;have T:=b (Dw [rev]) (λ_=>false) (Dw (IP rev nx.id)) (λ_=>false) (λx f=>Rq f true) (λx f=>⟨?_,rfl⟩);have U:=b (λ_=>false) (Dw [rev]) (λ_=>false) (Dw (IP rev nx.id)) (λx f=>Rq f false) (λx f=>⟨rfl,?_⟩);have V:=b (λ_=>false) (λ_=>true) (λ_=>false) (λ_=>true) (λx f=>⟨rfl,rfl,λ_ h=>by cases h⟩) (λx f=>⟨rfl,rfl⟩);have W:=b (λ_=>true) (λ_=>false) (λ_=>true) (λ_=>false) (λx f=>⟨rfl,rfl,λh=>by cases h⟩) (λx f=>⟨rfl,rfl⟩);rw[T,U]at o;rw[V,W]at j;have i:=λacc rej=>aa acc rej (by omega) (by omega) g h1 h2 w;exact⟨_,_,_,_,o,A,R,i _ _,i _ _,j.1,p.1,i _ _,j.2,p.2,i _ _⟩
 all_goals
  rw[Bool.eq_iff_iff,K1 (UW _ _),K1 (by simp),UX];simp[f]
theorem SQ {h:Hp} {m:Nat} (c:∀j y,h j=some y->j<m) (d f:Option Bb) (a b:List SV):
 (Fz (hset (hset (hset (hset h m d) (m+1) f) m (some (.cells a))) (m+1) (some (.cells b))) h 1 (.ptr m 0) (.iptr a)/\Fz (hset (hset (hset (hset h m d) (m+1) f) m (some (.cells a))) (m+1) (some (.cells b))) h 1 (.ptr (m+1) 0) (.iptr b))/\
   ∀o y,h o=some y->hset (hset (hset (hset h m d) (m+1) f) m (some (.cells a))) (m+1) (some (.cells b)) o=some y:=by
 refine⟨⟨AZ (AS c (qa _)) (by rw[AE _ _ (by omega),AD]),AZ (AS c (by omega)) (AD _ _ _)⟩,λo y e=>?_⟩;have:=c o y e;rw[AE _ _ (by omega),AE _ _ (by omega),AE _ _ (by omega),AE _ _ (by omega)];exact e
set_option maxHeartbeats 4000000 in
theorem splitDecides (d:AG) (c:Xk) {B N:Nat} (hB:B<=1048576) (hd:d.sizedT B N):PC 7 [d.enc,c.enc] (.bool true):=by
 intro h n;refine DO Tryz.func7 rfl λho=>?_;have hHb:=ho.lt;obtain⟨X,hX⟩:∃X:SV,X=.iptr ([AK d.flow]++d.«end».flat++[BE d.revs]++d.settings.flat):=⟨_,rfl⟩
 obtain⟨Y,hY⟩:∃Y:SV,Y=.iptr [AA c.rev,AA c.sc.id,AA c.sc.a,AA c.sc.b,AA c.next.id,.str c.next.author,AA c.next.time]:=⟨_,rfl⟩
 refine Aa 1 [(2,X),(3,Y)] h n ?_ (λm hm=>?_);rw[hX,hY];simp[go_sem,AG.enc,Xk.enc,AF.flat,AI.flat];exact⟨by omega,⟨AZ (ho.none (by omega)) (by simp[hset]),AZ (ho.none (by omega)) (by simp[hset])⟩,λj y e=>by have:=hHb j y e;simp only[hset];grind⟩;refine AX 0 (α:=Unit) (λ_=>[(2,X),(3,Y)]) (λ_=>h) (λb m=>n<=m/\Zc d c) ?_ (λ_ m hm=>?_)
 . refine B8 0 (α:=Bx) (λb=>[(2,X),(3,Y),(26,.bool b.b)]) (λ_=>h) (λb m=>n<=m/\(b.b=false->Zc d c)) ?_ (λb m hm=>?_)
   . rw[hX,hY];simp[go_sem,AF.flat,AI.flat];refine qz k11 ?_;simp[go_sem];refine TC.use (by simpa[AG.enc,AF.flat,AI.flat]using dL d hB hd) ?_;rintro v ⟨b,rfl,hb⟩;cases b with
     | false=>simp[go_sem,IO,hm];exact⟨⟨true⟩,by simp,rfl⟩
     | true=>
      by_cases ca:(200:Int)<(c.next.author.size:Int);simp[go_sem,ca,IO,hm];exact⟨⟨true⟩,by simp,rfl⟩;obtain⟨h1,h2,_⟩:=hb rfl;simp[go_sem,ca,IO,hm];exact⟨⟨false⟩,λ_=>YP hB hd h1 h2 c,rfl⟩
   obtain⟨b⟩:=b;obtain⟨hm,hb⟩:=hm;dsimp only at hb ⊢;cases b with
   | true=>
    refine AJ ?_;simp[go_sem];refine qz k11 ?_;simp[go_sem];exact As ho rfl rfl
   | false=>
    refine AJ ?_;simp[go_sem,IO,hm];exact hb rfl
 obtain⟨hm,S,e,cp,kR⟩:=hm;refine Aa 1 [(2,X),(3,Y),(5,.iptr S.flat),(6,AA e)] h n ?_ (λm hm=>?_);have hHm:∀j y,h j=some y->j<m:=λj y e=>by have:=hHb j y e;omega
 rw[hX,hY];simp[go_sem,AF.flat,AI.flat];refine qz (by simpa[AG.enc,BH.enc,BC.enc,AF.flat,AI.flat]using cp) ?_;simp[go_sem,AG.flat,AF.flat,AI.flat,IO,AD,Ah];exact⟨by omega,AZ (AS hHm (qa _)) (AD _ _ _),AL hHm AC⟩;refine Bg 0 [(2,X),(3,Y),(5,.iptr S.flat)] h (λm=>n<=m/\e=0) (AJ ?_) (λm hm=>?_);by_cases e0:e=0;simp[go_sem,e0,IO,hm];have e1:(e !=0)=true:=by simpa using e0
 simp[go_sem,e0,e1];exact As ho rfl rfl;obtain⟨hm,e0⟩:=hm;obtain⟨A,R,G,F,S22,d22,k24,qA,qR,SG,dG,qG,SF,dF,qF⟩:=kR e0;obtain⟨L,hL⟩:∃L:SV,L=.imm 1 ((IP c.rev c.next.id).map AA) false:=⟨_,rfl⟩
 have k23:=c23 c.rev c.next.id;rw[<-hL]at k23 S22;refine CW 1 [(2,X),(3,Y),(5,.iptr S.flat),(7,.iptr A.flat),(8,.iptr R.flat),(9,.bool true)] h n (AJ ?_) (λm hm=>?_)
 . have hHm:∀j y,h j=some y->j<m:=λj y e=>by have:=hHb j y e;omega
   have z1:∀y z,hset (hset h m y) (m+1) z m=y:=λy z=>by rw[AE _ _ (by omega),AD]
   have z2:∀(g:Hp) y z,hset (hset g (m+1) y) m z (m+1)=y:=λg y z=>by rw[AE _ _ (by omega),AD]
   rw[hY];simp[go_sem,AG.flat,AF.flat,AI.flat]
   repeat first|refine aq ?_|refine nd (by simp[Bo,DZ,CU,Aq,Region.binds]<;>omega) ?_|refine sq ?_
   refine kc _ _ _ _ _ _ k23 ?_;simp[go_sem]
   repeat first|refine aq ?_|refine nd (by simp[Bo,DZ,CU,Aq,Region.binds]<;>omega) ?_|refine sq ?_
   refine kc _ _ _ _ _ _ (by simpa[AG.enc,AF.flat,AI.flat]using S22) ?_;simp[go_sem,IO,AD,Ah]
   repeat first|refine aq ?_|refine nd (by simp[Bo,DZ,CU,Aq,Region.binds]<;>omega) ?_|refine sq ?_
   simp[go_sem,z1,z2]
   repeat first|refine And.intro (by intro k hk;omega) ?_|refine aq ?_|refine nd (by simp[Bo,DZ,CU,Aq,Region.binds]<;>omega) ?_|refine sq ?_
   exact SQ hHm _ _ _ _
 refine CW 1 [(2,X),(5,.iptr S.flat),(7,.iptr A.flat),(8,.iptr R.flat),(9,.bool true),(10,.iptr A.flat),(11,.iptr R.flat),(12,.bool true)] h n (AJ ?_) (λm hm=>?_);have hHm:∀j y,h j=some y->j<m:=λj y e=>by have:=hHb j y e;omega
 have z1:∀y z,hset (hset h (m+1) y) (m+1+1) z (m+1)=y:=λy z=>by rw[AE _ _ (by omega),AD]
 have z2:∀(g:Hp) y z,hset (hset g (m+1+1) y) (m+1) z (m+1+1)=y:=λg y z=>by rw[AE _ _ (by omega),AD]
 rw[hX,hY];simp[go_sem,AF.flat,AI.flat];refine wn (bs:=[d.enc,.imm 1 ([c.rev].map AA) false]) (h2:=h) 1 (AL hHm AC) ⟨by simp[AG.enc,AF.flat,AI.flat,IO],aK (AS hHm (qa _)) (by simp) (AD _ _ _),trivial⟩ (d22.use ?_);simp[go_sem,AG.enc,AG.flat,AF.flat,AI.flat,IO,z1,z2];exact⟨by omega,SQ (λj y e=>by have:=hHm j y e;omega) _ _ _ _⟩;refine CW 0 [(4,.bool true)] h n (AJ ?_) (λm hm=>?_)
 . rw[hX];simp[go_sem,AG.flat,AF.flat,AI.flat]
   repeat first|refine nq ?_|refine sq ?_
   refine kc _ _ _ _ _ _ (by simpa[AG.enc,AF.flat,AI.flat]using k24) ?_;simp[go_sem]
   repeat first|refine nq ?_|refine sq ?_
   refine kc _ _ _ _ _ _ (by simpa[AG.enc,AF.flat,AI.flat]using qA) ?_;simp[go_sem]
   repeat first|refine nq ?_|refine sq ?_
   refine kc _ _ _ _ _ _ (by simpa[AG.enc,AF.flat,AI.flat]using qR) ?_;simp[go_sem]
   repeat first|refine nq ?_|refine sq ?_
   refine kc _ _ _ _ _ _ (by simpa[AG.enc,AF.flat,AI.flat]using SG) ?_;simp[go_sem]
   repeat first|refine nq ?_|refine sq ?_
   refine kc _ _ _ _ _ _ (by simpa[AG.enc,AF.flat,AI.flat]using dG) ?_;simp[go_sem]
   repeat first|refine nq ?_|refine sq ?_
   refine kc _ _ _ _ _ _ (by simpa[AG.enc,AF.flat,AI.flat]using qG) ?_;simp[go_sem]
   repeat first|refine nq ?_|refine sq ?_
   refine kc _ _ _ _ _ _ (by simpa[AG.enc,AF.flat,AI.flat]using SF) ?_;simp[go_sem]
   repeat first|refine nq ?_|refine sq ?_
   refine kc _ _ _ _ _ _ (by simpa[AG.enc,AF.flat,AI.flat]using dF) ?_;simp[go_sem]
   repeat first|refine nq ?_|refine sq ?_
   refine kc _ _ _ _ _ _ (by simpa[AG.enc,AF.flat,AI.flat]using qF) ?_;simp[go_sem]
   repeat first|refine nq ?_|refine sq ?_
   exact hm
 refine AJ ?_;simp[go_sem];exact As ho rfl rfl
end Go.Proofs.YtgakninlhfkkmaaGreat.Sh
namespace Go.Proofs.YtgakninlhfkkmaaGreat.splitDecides
open Go.ChangeShapes Go.WideShapes Go.ChangeAt Go.RowKit
open Go.Proofs.YtgakninlhfkkmaaGreat.Sh
set_option maxRecDepth 10000
theorem own : ownKnob Tryz.prog.godebug = none := by kernel_rfl
theorem contract (H : Type) (enc : TypeId × Value → H) (W : World) (base : Nat) (args : Array Value) (ds gs : List (DataW H)) (before : List MemPlace)
 (hval : ∀ (j : Nat) t v, Tryz.f7.params[j]? = some t → args[j]? = some v → Value.okWide Tryz.prog W .any base t v)
 (hW : DataW.Whole enc Tryz.prog Tryz.f7.params.toList Rows.splitDecidesSpec.vars false W args.toList ds gs before) (hk : Rows.uptoSmall H (ds ++ gs) = true) :
 Calls Tryz.prog 7 args W fun e W' => ∃ v, e = .returned v ∧ Rows.splitDecidesSpec.post enc Tryz.prog Tryz.f7 false true false false W args v W' := by
 have hW' := hW;obtain ⟨p, q, hA, hV, rfl, hfz, hnd⟩ := hW;rw [Tryz.params7] at hA hval;obtain ⟨v0, vs0, d0, ds0, p0, q0, hargs, rfl, rfl, ⟨n0, h0⟩, r0⟩ := trodAll_cons hA;obtain ⟨v1, vs1, d1, ds1, p1, q1, rfl, rfl, rfl, ⟨n1, h1⟩, r1⟩ := trodAll_cons r0;obtain ⟨rfl, rfl, rfl⟩ := trodAll_nil r1;obtain rfl : args = #[v0, v1] := by cases args; simp_all
 obtain ⟨rfl, rfl⟩ := trodVars_none hV;rw [kv] at hk;have hb : Rows.uptoBulkAll [d0, d1] ≤ 1048576 := of_decide_eq_true hk;simp only [Rows.uptoBulkAll] at hb;obtain ⟨d, a1, a2⟩ := (VF n0).arg Tryz.underlying38 (hval 0 38 v0 rfl rfl) h0 (by unfold BB; dsimp only; omega);obtain ⟨c, b1, b2⟩ := (jj n1).arg Tryz.underlying44 (hval 1 44 v1 rfl rfl) h1 (by unfold BB; dsimp only; omega);have hBB : BB ≤ 1048576 := by unfold BB; exact qa _
 have hc := PC.calls (Sh.splitDecides d c hBB a2) (W := W) (vs := [v0, v1]) ⟨a1, b1, trivial⟩;refine Calls.mono hc ?_;rintro e W' ⟨u, c', rfl, rfl, hV, hE⟩;have hu : u = .bool true := by rw [V] at hV; exact hV
 subst hu;refine ⟨_, rfl, TQ (x := .lit (.bool true)) hW' rfl (by rw [Tryz.params7]; exact of_decide_eq_true (by kernel_rfl)) hE.os hE.out (fun b hb => U0 hE hb) rfl (fun _ _ _ => trodAll_cons_mk (shut_bool Tryz.underlying4 _) trodAll_mk0) (ok_one (by kernel_rfl) rfl (okWide_bool_mk Tryz.underlying4 _))⟩
def zi : Value := .int .i64 0
def zl : Value := .slice none 0 0
def witD : Value := .agg #[zl, zl, zi, zi, zl, zl, zl, zl, zl, zl, zl]
def witC : Value := .agg #[zi, zi, zi, zi, zi, .string .empty, zi]
def li {H : Type} : DataW H := .lit (.int .i64 0)
set_option maxRecDepth 100000 in
theorem lifted (os : Os) (started : os.Started) (H : Type) (enc : TypeId × Value → H) (F : Stop.Interp) :
 ReturnsInHanded {} Tryz.checked os 7 .any ((Rows.OpenSpec.upto Rows.splitDecidesSpec).pre6 enc Tryz.prog Tryz.f7 Rows.splitDecidesUptoRow.domain false) (((Rows.OpenSpec.upto Rows.splitDecidesSpec).at F).post enc Tryz.prog Tryz.f7 false true false false) := by
 refine returnsInHanded_of_cond (C := Tryz.checked) (s := Rows.OpenSpec.upto Rows.splitDecidesSpec) (k := Rows.uptoSmall) rfl own started (by kernel_rfl) Tryz.func7
  (OpenSpec.witness (enc := enc) (C := Tryz.checked) (s := Rows.OpenSpec.upto Rows.splitDecidesSpec) (k := Rows.uptoSmall) rfl false ⟨#[], #[witD, witC], []⟩ 12 (by kernel_rfl) (by kernel_rfl) (by kernel_rfl)
    (x := ([.agg [.nil, .agg [.nil, .agg [li, li, .nil, .nil]], .nil, .agg [.nil, .nil, .nil, .nil]], .agg [li, .agg [li, li, li], .agg [li, .lit (.string []), li]]], [], [])) (by kernel_rfl) rfl (by kernel_rfl)) ?_
 intro W base args ds gs before hval hW _ hk _;exact contract H enc W base args ds gs before hval hW hk
theorem named : Tryz.checked.prog.funcNamed Rows.splitDecidesUptoRow.func = some 7 := by kernel_rfl
theorem inst : Tryz.f7.isInstance Tryz.checked.prog Rows.splitDecidesUptoRow.origin Rows.splitDecidesUptoRow.targs := of_decide_eq_true (by kernel_rfl)
theorem wrap : Tryz.f7.isWrapper Tryz.checked.prog Rows.splitDecidesUptoRow.wrapper Rows.splitDecidesUptoRow.mainSum := by unfold Func.isWrapper; first | (rw [if_pos (by decide +kernel)]; kernel_rfl) | (rw [if_neg (by decide +kernel)]; exact ⟨rfl, rfl⟩)
theorem proved : Rows.SplitDecidesUptoSaid :=
 OpenClaim.holds_of_cond 7 Tryz.f7 rfl rfl rfl rfl rfl rfl rfl ⟨rfl, rfl, rfl, rfl, rfl⟩ rfl rfl rfl rfl rfl named Tryz.func7 facts inst wrap
  (fun os started H enc _ F => lifted os started H enc F)
#print axioms proved
end Go.Proofs.YtgakninlhfkkmaaGreat.splitDecides
