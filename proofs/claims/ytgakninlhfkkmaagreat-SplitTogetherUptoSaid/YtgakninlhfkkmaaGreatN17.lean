/- A part of the proof (part 17 of 18). -/
import Derived.Test.YtgakninlhfkkmaaGreatN16
namespace Go.Proofs.YtgakninlhfkkmaaGreat.Sh
open Go.Proofs.Tryz
open Proofs
set_option maxRecDepth 10000
set_option maxHeartbeats 4000000
theorem jD:(Bt prog 42).map (λf=>(f.name == "_",f.type,f.offset))=[(false,3,0),(false,9,1),(false,3,2)]:=by kernel_rfl
theorem cV(x:BC):CS prog [AA x.id,.str x.O,AA x.time] [AA x.id,.str x.O,AA x.time] (Bt prog 42)=some true:=by
 rw[Ch,jD];cases x;simp[DG,DX,go_sem]
theorem cZ:(Bt prog 115).map (λf=>(f.name == "_",f.type,f.offset))=[(false,3,0),(false,3,1),(false,9,2),(false,3,3),(false,9,4),(false,4,5)]:=by kernel_rfl
theorem Z6(x:A9):CS prog [AA x.id,AA x.parent,.str x.O,AA x.time,.str x.x,.bool x.done] [AA x.id,AA x.parent,.str x.O,AA x.time,.str x.x,.bool x.done] (Bt prog 115)=some true:=by
 rw[Ch,cZ];cases x;simp[DG,DX,go_sem]
theorem cb:(Bt prog 118).map (λf=>(f.name == "_",f.type,f.offset))=[(false,9,0),(false,9,1)]:=by kernel_rfl
theorem Z7(x:GY):CS prog [.str x.name,.str x.value] [.str x.name,.str x.value] (Bt prog 118)=some true:=by
 rw[Ch,cb];cases x;simp[DG,DX,go_sem]
theorem cY:(Bt prog 106).map (λf=>(f.name == "_",f.type,f.offset))=[(false,3,0),(false,3,1),(false,9,2),(false,3,3)]:=by kernel_rfl
theorem Z5(x:Ce):CS prog [AA x.format,AA x.start,.str x.template,AA x.restart] [AA x.format,AA x.start,.str x.template,AA x.restart] (Bt prog 106)=some true:=by
 rw[Ch,cY];cases x;simp[DG,DX,go_sem]
theorem q59(l:List BC)(hl:l.length<=1048576):PC 59 [.i 3 (l.map BC.e) false,.i 3 (l.map BC.e) false] (.bool true):=by
 intro h n;refine gq func59 rfl λc=>?_;simp[go_sem];refine Av 1 (α:=Nat) (λk=>[(0,.i 3 (l.map BC.e) false),(1,.i 3 (l.map BC.e) false),(12,AA l.length),(13,AA k)]) (λ_=>h) (λk m=>k<=l.length/\n<=m) (λk=>l.length-k) 0 ?_ ?_ AC ?_;simp;simp[Ao];rintro k m ⟨hk,b⟩;by_cases a:k<l.length
 . have w1:=wS k (by omega);obtain⟨x,d⟩:∃x,l[k]=x:=⟨_,rfl⟩
   simp[go_sem,a,d,BC.e]
   repeat first|refine nq ?_|refine sq ?_|refine aq ?_
   refine⟨_,Dx rfl (.inr rfl) (by kernel_rfl) (by kernel_rfl) (by kernel_rfl) rfl rfl (cV x),?_⟩;simp[go_sem]
   repeat first|refine nq ?_|refine sq ?_|refine aq ?_
   simp[go_sem,w1,-Int.natCast_add];exact⟨k+1,by omega,⟨by omega,b⟩,IO⟩
 simp[go_sem,a];exact As c rfl rfl
theorem q62(l:List A9)(hl:l.length<=1048576):PC 62 [.i 6 (l.map A9.e) false,.i 6 (l.map A9.e) false] (.bool true):=by
 intro h n;refine gq func62 rfl λc=>?_;simp[go_sem];refine Av 1 (α:=Nat) (λk=>[(0,.i 6 (l.map A9.e) false),(1,.i 6 (l.map A9.e) false),(12,AA l.length),(13,AA k)]) (λ_=>h) (λk m=>k<=l.length/\n<=m) (λk=>l.length-k) 0 ?_ ?_ AC ?_;simp;simp[Ao];rintro k m ⟨hk,b⟩;by_cases a:k<l.length
 . have w1:=wS k (by omega);obtain⟨x,d⟩:∃x,l[k]=x:=⟨_,rfl⟩
   simp[go_sem,a,d,A9.e]
   repeat first|refine nq ?_|refine sq ?_|refine aq ?_
   refine⟨_,Dx rfl (.inr rfl) (by kernel_rfl) (by kernel_rfl) (by kernel_rfl) rfl rfl (Z6 x),?_⟩;simp[go_sem]
   repeat first|refine nq ?_|refine sq ?_|refine aq ?_
   simp[go_sem,w1,-Int.natCast_add];exact⟨k+1,by omega,⟨by omega,b⟩,IO⟩
 simp[go_sem,a];exact As c rfl rfl
theorem q63(l:List GY)(hl:l.length<=1048576):PC 63 [.i 2 (l.map GY.e) false,.i 2 (l.map GY.e) false] (.bool true):=by
 intro h n;refine gq func63 rfl λc=>?_;simp[go_sem];refine Av 1 (α:=Nat) (λk=>[(0,.i 2 (l.map GY.e) false),(1,.i 2 (l.map GY.e) false),(12,AA l.length),(13,AA k)]) (λ_=>h) (λk m=>k<=l.length/\n<=m) (λk=>l.length-k) 0 ?_ ?_ AC ?_;simp;simp[Ao];rintro k m ⟨hk,b⟩;by_cases a:k<l.length
 . have w1:=wS k (by omega);obtain⟨x,d⟩:∃x,l[k]=x:=⟨_,rfl⟩
   simp[go_sem,a,d,GY.e]
   repeat first|refine nq ?_|refine sq ?_|refine aq ?_
   refine⟨_,Dx rfl (.inr rfl) (by kernel_rfl) (by kernel_rfl) (by kernel_rfl) rfl rfl (Z7 x),?_⟩;simp[go_sem]
   repeat first|refine nq ?_|refine sq ?_|refine aq ?_
   simp[go_sem,w1,-Int.natCast_add];exact⟨k+1,by omega,⟨by omega,b⟩,IO⟩
 simp[go_sem,a];exact As c rfl rfl
theorem q56(l:List Ce)(hl:l.length<=1048576):PC 56 [.i 4 (l.map Ce.e) false,.i 4 (l.map Ce.e) false] (.bool true):=by
 intro h n;refine gq func56 rfl λc=>?_;simp[go_sem];refine Av 1 (α:=Nat) (λk=>[(0,.i 4 (l.map Ce.e) false),(1,.i 4 (l.map Ce.e) false),(12,AA l.length),(13,AA k)]) (λ_=>h) (λk m=>k<=l.length/\n<=m) (λk=>l.length-k) 0 ?_ ?_ AC ?_;simp;simp[Ao];rintro k m ⟨hk,b⟩;by_cases a:k<l.length
 . have w1:=wS k (by omega);obtain⟨x,d⟩:∃x,l[k]=x:=⟨_,rfl⟩
   simp[go_sem,a,d,Ce.e]
   repeat first|refine nq ?_|refine sq ?_|refine aq ?_
   refine⟨_,Dx rfl (.inr rfl) (by kernel_rfl) (by kernel_rfl) (by kernel_rfl) rfl rfl (Z5 x),?_⟩;simp[go_sem]
   repeat first|refine nq ?_|refine sq ?_|refine aq ?_
   simp[go_sem,w1,-Int.natCast_add];exact⟨k+1,by omega,⟨by omega,b⟩,IO⟩
 simp[go_sem,a];exact As c rfl rfl
theorem q61(l:List GQ)(hl:l.length<=1048576)(g:FuncId)(hg:∀x∈l,PC g [x.e,x.e] (.bool true)):PC 61 [.i 2 (l.map GQ.e) false,.i 2 (l.map GQ.e) false,.fn (.func g) [] []] (.bool true):=by
 intro h n;refine gq func61 rfl λb=>?_;simp[go_sem];refine Av 1 (α:=Nat) (λk=>[(1,.i 2 (l.map GQ.e) false),(2,.fn (.func g) [] []),(15,.i 2 (l.map GQ.e) false),(16,AA l.length),(17,AA k)]) (λ_=>h) (λk m=>k<=l.length/\n<=m) (λk=>l.length-k) 0 ?_ ?_ AC ?_;simp;simp[Ao];rintro k m ⟨hk,hnm⟩;by_cases a:k<l.length
 . have w1:=wS k (by omega);obtain⟨x,c⟩:∃x,l[k]=x:=⟨_,rfl⟩
   have H:=hg x (by rw[<-c];exact qi a);rw[GQ.e]at H;simp[go_sem,a,c,GQ.e,AD,AE];refine qz H ?_;simp[go_sem,w1,-Int.natCast_add];exact⟨k+1,by omega,⟨by omega,by omega⟩,IO,by repeat(first|exact AC|refine AR b (by omega) ?_)⟩
 simp[go_sem,a];exact As b rfl rfl
theorem ja(l:List A7)(hl:l.length<=1048576)(g:FuncId)(hg:∀x∈l,PC g [x.e,x.e] (.bool true)):PC 128 [.i 6 (l.map A7.e) false,.i 6 (l.map A7.e) false,.fn (.func g) [] []] (.bool true):=by
 intro h n;refine gq func128 rfl λb=>?_;simp[go_sem];refine Av 1 (α:=Nat) (λk=>[(1,.i 6 (l.map A7.e) false),(2,.fn (.func g) [] []),(15,.i 6 (l.map A7.e) false),(16,AA l.length),(17,AA k)]) (λ_=>h) (λk m=>k<=l.length/\n<=m) (λk=>l.length-k) 0 ?_ ?_ AC ?_;simp;simp[Ao];rintro k m ⟨hk,hnm⟩;by_cases a:k<l.length
 . have w1:=wS k (by omega);obtain⟨x,c⟩:∃x,l[k]=x:=⟨_,rfl⟩
   have H:=hg x (by rw[<-c];exact qi a);rw[A7.e]at H;simp[go_sem,a,c,A7.e,AD,AE];refine qz H ?_;simp[go_sem,w1,-Int.natCast_add];exact⟨k+1,by omega,⟨by omega,by omega⟩,IO,by repeat(first|exact AC|refine AR b (by omega) ?_)⟩
 simp[go_sem,a];exact As b rfl rfl
theorem jX(l:List AB)(hl:l.length<=1048576)(g:FuncId)(hg:∀x∈l,PC g [x.e,x.e] (.bool true)):PC 123 [.i 11 (l.map AB.e) false,.i 11 (l.map AB.e) false,.fn (.func g) [] []] (.bool true):=by
 intro h n;refine gq func123 rfl λb=>?_;simp[go_sem];refine Av 1 (α:=Nat) (λk=>[(1,.i 11 (l.map AB.e) false),(2,.fn (.func g) [] []),(15,.i 11 (l.map AB.e) false),(16,AA l.length),(17,AA k)]) (λ_=>h) (λk m=>k<=l.length/\n<=m) (λk=>l.length-k) 0 ?_ ?_ AC ?_;simp;simp[Ao];rintro k m ⟨hk,hnm⟩;by_cases a:k<l.length
 . have w1:=wS k (by omega);obtain⟨x,c⟩:∃x,l[k]=x:=⟨_,rfl⟩
   have H:=hg x (by rw[<-c];exact qi a);rw[qw]at H;simp[go_sem,a,c,qw,AD,AE];refine qz H ?_;simp[go_sem,w1,-Int.natCast_add];exact⟨k+1,by omega,⟨by omega,by omega⟩,IO,by repeat(first|exact AC|refine AR b (by omega) ?_)⟩
 simp[go_sem,a];exact As b rfl rfl
theorem jd(l:List AP)(hl:l.length<=1048576)(g:FuncId)(hg:∀x∈l,PC g [x.e,x.e] (.bool true)):PC 191 [.i 6 (l.map AP.e) false,.i 6 (l.map AP.e) false,.fn (.func g) [] []] (.bool true):=by
 intro h n;refine gq func191 rfl λb=>?_;simp[go_sem];refine Av 1 (α:=Nat) (λk=>[(1,.i 6 (l.map AP.e) false),(2,.fn (.func g) [] []),(15,.i 6 (l.map AP.e) false),(16,AA l.length),(17,AA k)]) (λ_=>h) (λk m=>k<=l.length/\n<=m) (λk=>l.length-k) 0 ?_ ?_ AC ?_;simp;simp[Ao];rintro k m ⟨hk,hnm⟩;by_cases a:k<l.length
 . have w1:=wS k (by omega);obtain⟨x,c⟩:∃x,l[k]=x:=⟨_,rfl⟩
   have H:=hg x (by rw[<-c];exact qi a);rw[Yw]at H;simp[go_sem,a,c,Yw,AD,AE];refine qz H ?_;simp[go_sem,w1,-Int.natCast_add];exact⟨k+1,by omega,⟨by omega,by omega⟩,IO,by repeat(first|exact AC|refine AR b (by omega) ?_)⟩
 simp[go_sem,a];exact As b rfl rfl
theorem jf(l:List cr)(hl:l.length<=1048576)(g:FuncId)(hg:∀x∈l,PC g [x.e,x.e] (.bool true)):PC 258 [.i 7 (l.map cr.e) false,.i 7 (l.map cr.e) false,.fn (.func g) [] []] (.bool true):=by
 intro h n;refine gq func258 rfl λb=>?_;simp[go_sem];refine Av 1 (α:=Nat) (λk=>[(1,.i 7 (l.map cr.e) false),(2,.fn (.func g) [] []),(15,.i 7 (l.map cr.e) false),(16,AA l.length),(17,AA k)]) (λ_=>h) (λk m=>k<=l.length/\n<=m) (λk=>l.length-k) 0 ?_ ?_ AC ?_;simp;simp[Ao];rintro k m ⟨hk,hnm⟩;by_cases a:k<l.length
 . have w1:=wS k (by omega);obtain⟨x,c⟩:∃x,l[k]=x:=⟨_,rfl⟩
   have H:=hg x (by rw[<-c];exact qi a);rw[Us]at H;simp[go_sem,a,c,Us,AD,AE];refine qz H ?_;simp[go_sem,w1,-Int.natCast_add];exact⟨k+1,by omega,⟨by omega,by omega⟩,IO,by repeat(first|exact AC|refine AR b (by omega) ?_)⟩
 simp[go_sem,a];exact As b rfl rfl
def AG.g(d:AG):List SV:=[AK d.W]++d.T0.g++[BE d.V]++d.S.g
theorem pb(x:AF)(a:x.D):PC 58 [x.e,x.e] (.bool true):=by simpa using c58 x x a a
theorem jZ(l:List Bi)(hl:l.length<=1048576):PC 125 [AU l,AU l] (.bool true):=by simpa using bS l l hl hl
theorem jc(l:List Bi)(hl:l.length<=1048576):PC 130 [AU l,AU l] (.bool true):=by
 intro h n;refine gq func130 rfl λa=>?_;simp[go_sem];refine(jZ l hl).use ?_;simp[go_sem];exact As a rfl rfl
theorem q55(x:GQ)(c:x.levels.length<=1048576):PC 55 [x.e,x.e] (.bool true):=by
 intro h n;refine gq func55 rfl λa=>?_;have b:∀y z,∀o x,h o=some x->h_ (h_ h n y) (n+1) z o=some x:=λy z=>by repeat(first|exact AC|refine AR a (by omega) ?_)
 simp[go_sem,GQ.e,AD,AE];refine(q56 _ c).use ?_;simp[go_sem];exact A3 a (b _ _) rfl rfl
theorem jb(x:A7)(c:x.Q.length<=1048576):PC 129 [x.e,x.e] (.bool true):=by
 intro h n;refine gq func129 rfl λa=>?_;have b:∀y z,∀o x,h o=some x->h_ (h_ h n y) (n+1) z o=some x:=λy z=>by repeat(first|exact AC|refine AR a (by omega) ?_)
 simp[go_sem,A7.e,AD,AE];refine(jc _ c).use ?_;simp[go_sem];exact A3 a (b _ _) rfl rfl
theorem q60(l:List A7)(hl:l.length<=1048576)(hp:∀x∈l,x.Q.length<=1048576):PC 60 [Aj l,Aj l] (.bool true):=by
 intro h n;refine gq func60 rfl λa=>?_;simp[go_sem];refine(ja l hl 129 λx b=>jb x (hp x b)).use ?_;simp[go_sem];exact As a rfl rfl
theorem jg(x:cr)(d:x.H.D)(b:PC 57 [AK x.W,AK x.W] (.bool true)):PC 259 [x.e,x.e] (.bool true):=by
 intro h n;refine gq func259 rfl λa=>?_;have c:∀y z,∀o x,h o=some x->h_ (h_ h n y) (n+1) z o=some x:=λy z=>by repeat(first|exact AC|refine AR a (by omega) ?_)
 have e:=pb _ d;rw[AF.e,AF.g]at e;simp[go_sem,Us,AD,AE];refine e.use ?_;simp[go_sem,AD,AE];refine b.use ?_;simp[go_sem];exact A3 a (c _ _) rfl rfl
theorem je(x:AP)(f:x.H.D)(hl:x.cells.length<=1048576)(b:∀c∈x.cells,PC 259 [c.e,c.e] (.bool true)):PC 192 [x.e,x.e] (.bool true):=by
 intro h n;refine gq func192 rfl λa=>?_;have d:∀y z,∀o x,h o=some x->h_ (h_ h n y) (n+1) z o=some x:=λy z=>by repeat(first|exact AC|refine AR a (by omega) ?_)
 have e:=pb _ f;rw[AF.e,AF.g]at e;simp[go_sem,Yw,AD,AE];refine e.use ?_;simp[go_sem,AD,AE];refine(jf _ hl 259 b).use ?_;simp[go_sem];exact A3 a (d _ _) rfl rfl
theorem jY(x:AB)(f:x.H.D)(b:PC 57 [AK x.W,AK x.W] (.bool true))(hl:x.R.length<=1048576)(d:∀r∈x.R,PC 192 [r.e,r.e] (.bool true)):PC 124 [x.e,x.e] (.bool true):=by
 intro h n;refine gq func124 rfl λa=>?_;have c:∀y z,∀o x,h o=some x->h_ (h_ h n y) (n+1) z o=some x:=λy z=>by repeat(first|exact AC|refine AR a (by omega) ?_)
 have e:=pb _ f;rw[AF.e,AF.g]at e;simp[go_sem,qw,AD,AE];refine e.use ?_;simp[go_sem,AD,AE];refine b.use ?_;simp[go_sem,AD,AE];refine(jd _ hl 192 d).use ?_;simp[go_sem];exact A3 a (c _ _) rfl rfl
theorem jh{hp:AF->Prop}(f:∀x,hp x->x.D){K:Nat}(i:K<=1048576):∀(N:Nat)(l:List AB),Dq hp K N l->PC 57 [AK l,AK l] (.bool true)
 | 0,_,H=>H.elim
 | N + 1, l, H => by
  obtain⟨h1,h2,k⟩:=Ci.1 H;have hi:∀x∈l,PC 124 [x.e,x.e] (.bool true):=λx o=>by
   obtain⟨a,b,c,d⟩:=k x o;exact jY x (f _ a) (jh f i N _ b) (by omega) λr g=>je r (f _ (d r g).1) (by have:=(d r g).2.1;omega) λe j=>jg e (f _ ((d r g).2.2 e j).1) (jh f i N _ ((d r g).2.2 e j).2)
  intro h n;refine gq func57 rfl λm=>?_;simp[go_sem];refine(jX l (by omega) 124 hi).use ?_;simp[go_sem];exact As m rfl rfl
theorem ji(l:List GQ)(hl:l.length<=1048576)(hp:∀x∈l,x.levels.length<=1048576):PC 61 [Dg l,Dg l,.fn (.func 55) [] []] (.bool true):=q61 l hl 55 λx a=>q55 x (hp x a)
def Za:Tr:=.pure 0<|.pure 1<|.pure 2<|.pure 3<|.two 4 5 (.one 5 (.one 6 (.one 7 .nil))) (.one 4 (.one 6 (.one 7 .nil)))
theorem q17{hp:AF->Prop}(o:∀x,hp x->x.D){K:Nat}(k:K<=1048576)(N:Nat)(d:AG)(hl:Dq hp K N d.W)(l:d.T0.D)(r:d.V.length<=1048576)(a:d.S.D):PC 17 [d.e,d.e] (.bool true):=by
 intro h n;refine DO func17 rfl λf=>?_;have b:=f.lt;obtain⟨X,i⟩:∃X:SV,X=.q ([AK d.W]++d.T0.g++[BE d.V]++d.S.g):=⟨_,rfl⟩
 refine Aa 1 [(2,X),(3,X)] h n ?_ (λm p=>?_);rw[i];simp[go_sem,AG.e,AF.g,AI.g];exact⟨by omega,⟨AZ (f.none (by omega)) (by simp[h_]),AZ (f.none (by omega)) (by simp[h_])⟩,λj y e=>by have:=b j y e;simp only[h_];grind⟩;have c:∀j y,h j=some y->j<m:=λj y e=>by have:=b j y e;omega
 refine AX 1 (α:=Unit) (λ_=>[(2,X),(3,X),(5,.q d.S.g),(6,.q d.S.g)]) (λ_=>h) (λ_ m=>n<=m) (CK Za rfl (by kernel_rfl) (by kernel_rfl) ?_) (λ_ m p=>?_);rw[i];simp[go_sem,Za,AF.g,AI.g,AD,AE];have g:∀q,m<=q->h q=none:=λq hq=>by cases e:h q with|none=>rfl|some y=>(have:=c q y e;omega)
 refine⟨⟨by omega,⟨AZ (g _ (by omega)) (by simp[h_]),AZ (g _ (by omega)) (by simp[h_])⟩,λj y e=>?_⟩,by omega,⟨AZ (g _ (by omega)) (by simp[h_]),AZ (g _ (by omega)) (by simp[h_])⟩,λj y e=>?_⟩ <;>
 . have:=c j y e;simp only[h_];grind
 have e:=pb _ l;rw[AF.e,AF.g]at e;refine AJ ?_;rw[i];simp[go_sem,AF.g,AI.g];refine(jh o k N _ hl).use ?_;simp[go_sem];refine e.use ?_;simp[go_sem];refine(q59 _ r).use ?_;simp[go_sem];refine(q60 _ a.A a.Q).use ?_;simp[go_sem];refine(ji _ a.L a.levels).use ?_;simp[go_sem];refine(q62 _ a.C).use ?_;simp[go_sem];refine(q63 _ a.vars).use ?_;simp[go_sem];exact As f rfl rfl
theorem Yb{hp:AF->Prop}{K N:Nat}{l:List AB}(h:Dq hp K N l):Dq hp K N []:=by
 cases N with
 | zero=>exact h.elim
 | succ N=>exact Ci.2 ⟨by simp,by simp[Ak],λx a=>by cases a⟩
theorem nS{m2:List Int}{h:AF}(H:HK m2 h):h.moves.length<=17:=by
 have a:=H.2.dlen;have b:=O8 h.Y;unfold AF.moves AF.mv0;rw[qq];split<;>simp<;>omega
theorem nB{α β:Type}{f:α->List β}{k:Nat}:∀{l:List α},(∀x∈l,(f x).length<=k)->(l.flatMap f).length<=k*l.length
 | [],_=>by simp
 | x::l,h=>by
  have h1:=nB (l:=l) λy a=>h y (Q9 _ a);have h2:=h x (qV ..);rw[QZ,qq,qJ,Nat.mul_add];omega
theorem oJ{_N:Nat}{d:AG}{m2:List Int}(a:m2=BU [] (d.V.map (·.id)))(ht:SK d.V){l:List Int}{to:BC}(b:ox d l to):(0:Int)∉l/\∀h,Hd m2 h->lw l to.id h:=by
 have nz:(0:Int)∉l:=λg=>by
  obtain⟨r,c,e⟩:=VJ (b.find 0 g);exact Tl ht c e
 refine⟨nz,λh H=>⟨Wo H.inc,nz,λx f g e=>?_⟩⟩;exact g (e▸b.to (OD ((Wz a).1 (e▸H.Y x f))))
theorem mG{a b:AG}(h1:AO a.W=AO b.W)(h2:a.T0 = b.T0)(c:a.V=b.V)(d:a.S=b.S):a.normal=b.normal:=by
 unfold AG.normal Gc AG.norm1;rw[h1,h2,c,d]
theorem np{N:Nat}{d D:AG}(g:DU N d)(_WD:wf (λ_=>True) (λi=>i ≠ -1) N D.W)(q:Dp N D.W)(f:SK D.V)(l:D.S=d.S)
 (w:In (Kd D) 3 D.T0) (x:D.T0.I=0) (z:D.T0.move=0) (v:D.T0.Y=[])
 (A:gH (λel h=>In (Kd D) el h) N ⟨true,false,0⟩ D.W) (hI:CX [] (GU N D.W)) (B:IntKind.i64.wrap (Oz N D.W)<=16384):DU N D.normal:=by
 obtain⟨S,b⟩:∃S,S=D.normal:=⟨_,rfl⟩
 rw[<-b];have p:SK S.V:=by rw[b];exact IS f _
 have m:S.W=AO D.W:=by rw[b];rfl
 have c:S.T0 = D.T0:=by rw[b];rfl
 have n:S.S=d.S:=by rw[b];show D.S=_;rw[l]
 have u:∀r:BC,r.id≠0->(r∈S.V↔r∈D.V/\r.id∈AB.U S.W++S.T0.all):=λr k=>by rw[b,IM k];rfl
 have s:(Kd D).m0=(Kd S).m0:=by show HV D.S.A _=HV S.S.A _;rw[l,n]
 have t:(Kd D).m1=(Kd S).m1:=by show BU [] (D.S.L.map (·.id))=BU [] (S.S.L.map (·.id));rw[l,n]
 have keep:∀y,y∈AB.U S.W++S.T0.all->y∈(Kd D).m2->y∈(Kd S).m2:=λy j o=>by
  obtain⟨r,k,e⟩:=KT.1 o;exact KT.2 ⟨r,(u r (Tl f k)).2 ⟨k,by rw[e];exact j⟩,e⟩
 refine⟨by rw[n];exact g.S,SM p,?_,by rw[c];exact x,by rw[c];exact z,by rw[c];exact v,?_,?_,?_⟩;rw[c];exact D8.2 (KM s t w λy j o=>keep y (Qj _ (by rw[c];exact j)) o);refine UK.2 ?_;have h1:gH (λel h=>In (Kd D) el h) N ⟨true,false,0⟩ S.W:=by rw[m];exact JT A
 have h2:=P8 (Q:=λy=>y∈(Kd D).m2->y∈(Kd S).m2) h1 λy j=>keep y (qD _ j);exact M7 (λel h a=>D8.2 (KM s t a.1 a.2)) h2;have:=ZQ.normal (λa=>JP a) q;have e:GU N S.W=GU N D.W:=by rw[m];exact this
 rw[e];exact hI;have:=ZR.normal (λa=>Int.add_zero a) q;have e:Oz N S.W=Oz N D.W:=by rw[m];exact this
 rw[e];exact B
theorem mu{acc rej:Int->Bool}{h h':AF}(e:CE acc rej h=some h'){y:Int}(h0:y≠0)(a:y∈h'.all):acc y=false/\rej y=false:=by
 unfold CE at e;split at e;cases e;rename_i c;have n:(decide (h.I≠0)&&rej h.I)=false/\(h.Y.any λx=>acc x.rev)=false:=by simpa using c
 cases e;rw[JZ]at a;rcases a with g|⟨d,j,g⟩|⟨d,j,g⟩
 have g:y=if(decide (h.I≠0)&&acc h.I)=true then 0 else h.I:=g
 split at g;exact absurd g h0;rename_i q;have z:h.I≠0:=λe=>h0 (g.trans e);have c1:=n.1;simp[z]at q c1;rw[g];exact⟨q,c1⟩;obtain⟨p,s⟩:=Kq.1 (show d∈h.Y.filter _ from j);have:=List.any_eq_false.1 n.2 d p;rw[<-g];exact⟨by simpa using this,by simpa using s⟩;have key:∀(G:List (List AM))(o:List Bi×List AM),(∀x∈o.2,acc x.rev=false/\rej x.rev=false)->∀x∈(G.foldl (CM acc rej h.Q) o).2,acc x.rev=false/\rej x.rev=false:=λG=>by
  induction G with
  | nil=>intro o l x f;exact l x f
  | cons k G ih=>
   intro o l x f;rw[J5]at f;refine ih _ (λy a=>?_) x f;have a:y∈o.2++(Du acc rej (Ix h.Q (k.headD ⟨0,0,0,false⟩).key) k).1:=a;rcases qd.1 a with a|a;exact l y a;have go:∀(P:Int×Bool)(M:List AM)(now:Int×Bool),(∀z∈M,acc z.rev=false)->∀z∈(GZ rej P M now).1,acc z.rev=false/\rej z.rev=false:=λP M=>by
    induction M with
    | nil=>intro now _ z b;cases b
    | cons m M ih=>
     intro now i z b;rw[GZ]at b;split at b;exact ih _ (λw hw=>i w (Q9 _ hw)) z b;rename_i r;rcases qt.1 b with e|b;rw[e];exact⟨i m (qV ..),by simpa using r⟩;exact ih _ (λw hw=>i w (Q9 _ hw)) z b
   exact go _ _ _ (λz b=>(HW b).2) y a
 have:=key _ (h.Q,[]) (λx f=>by cases f) d j;rw[g]at this;exact this
theorem lD{hp:AF->Prop}{T:Int->Prop}{f g:AF->Option AF}(h:∀x,hp x->f x=g x):∀{N:Nat} {l:List AB},wf hp T N l->AB.dcL f l=AB.dcL g l
 | 0,_,W=>W.elim
 | N + 1, l, W => by
  rw[Ti,Ti];refine GI λx d=>?_;obtain⟨a,_,_,_,_,w,q⟩:=DR.1 W x d;have e:x.R.filterMap (AP.dc f)=x.R.filterMap (AP.dc g):=GI λr b=>by
   obtain⟨i,_,j⟩:=q r b;have e:r.cells.filterMap (cr.dc f)=r.cells.filterMap (cr.dc g):=GI λc hc=>by
    obtain⟨_,k,v3⟩:=j c hc;rw[TP,TP,h _ k,lD h v3]
   rw[S3,S3,h _ i,e]
  rw[AB.dc_eq,AB.dc_eq,h _ a,lD h w,e]
section
variable{m2:List Int}{N K:Nat}{d:AG}{l:List Int}{L:List (Int×Int)}{to:BC}
def mN(d:AG)(l:List Int)(L:List (Int×Int))(to:BC):AG:=⟨AB.rlL (mY l L to.id) d.W,(jx l L to.id d.T0).1,mc d l to,d.S⟩
theorem mO(a:m2=BU [] (d.V.map (·.id)))(b:Re N d)(hl:Dq (HK m2) K N d.W):(BM (oh l L to.id) Sd N d (mc d l to) ()).1.normal=(mN d l L to).normal:=by
 have W:=Rf a b hl;refine mG ?_ rfl rfl rfl;show AO (AT (oh l L to.id) Sd N 0 d.W false ()).1=AO (AB.rlL (mY l L to.id) d.W);rw[lc (κ:=mY l L to.id) (f:=oh l L to.id) (λs p=>rfl) rfl N 0 d.W false () (by decide) W,(Ub W).normal]
theorem pK(ht:SK d.V)(b:ox d l to){el:Int}{h:AF}(g:In (Kd d) el h):lw l to.id h:=by
 have nz:(0:Int)∉l:=λg=>by
  obtain⟨r,c,e⟩:=VJ (b.find 0 g);exact Tl ht c e
 refine⟨Wo λi hi h0=>((G6 hi).1 (g.Y i hi)).2.1 h0,nz,λx f q e=>?_⟩;obtain⟨j,a,rfl⟩:=Kw f;have:=((G6 a).1 (g.Y j a)).1;exact q (e▸b.to (OD (KT.1 (e▸this))))
theorem ln{h:AF}(h1:h.I=0)(h2:h.move=0)(a:h.Y=[])(t:Int):mY l L t h=some (jx l L t h).1/\(jx l L t h).1.I=0/\(jx l L t h).1.move=0/\(jx l L t h).1.Y=[]:=by
 have hg:jF l h.I=false:=by rw[h1];simp[jF]
 have e:jx l L t h=(E3 (jF l) t (bp l L h),true):=by unfold jx;rw[hg];rfl
 refine⟨by unfold mY;rw[e];rfl,?_,?_,?_⟩;rw[e];show B9 (jF l) t h.I=0;unfold B9;rw[h1];simp;rw[e];show(if jF l h.I=true then j9 L (h.I,h.move) 0 else h.move)=0;rw[hg];exact h2;rw[e];show Co ((gF l L h.Y).map _) (gF l L h.Y).length=[];rw[lA,a];rfl
theorem nQ(f:m2=BU [] (d.V.map (·.id)))(g:DU N d)(hl:Dq (HK m2) K N d.W)(F:Og N d.W)(htt:Tm N d.W<=150)(v:kH d l to=0)(E:L.length<=1073741824):DU N (mN d l L to).normal:=by
 have o:=g.ok;have ht:=Jb o;have j:=lN v;obtain⟨_,_,_,M,w⟩:=l8 ht v;have n0:to.id≠0:=by have:=OC j.err;omega
 have W:=Rf f o hl;have p:Dp N d.W:=Iu (f▸o.W) hl;obtain⟨D,b⟩:∃D,D=mN d l L to:=⟨_,rfl⟩
 rw[<-b];have a:D.W=AB.rlL (mY l L to.id) d.W:=by rw[b];rfl
 have k:D.T0 = (jx l L to.id d.T0).1:=by rw[b];rfl
 have m:D.V=mc d l to:=by rw[b];rfl
 have n:D.S=d.S:=by rw[b];rfl
 have I:(Kd d).m0=(Kd D).m0:=by show HV d.S.A _=HV D.S.A _;rw[n]
 have J:(Kd d).m1=(Kd D).m1:=by show BU [] (d.S.L.map (·.id))=BU [] (D.S.L.map (·.id));rw[n]
 have G:∀x,x∈(Kd d).m2->ED (jF l) to.id x∈(Kd D).m2:=λx H=>by
  obtain⟨r,u,e⟩:=KT.1 H;refine KT.2 ?_;unfold ED;by_cases c:jF l x=true;rw[if_pos c];exact⟨to,by rw[m,w];exact .inl rfl,rfl⟩;rw[if_neg c];have z:x≠0:=by rw[<-e];exact Tl ht u
  exact⟨r,by rw[m,w];exact .inr ⟨u,λq=>c (by rw[e]at q;simp[jF,z,q])⟩,e⟩
 have t:∀el h h',In (Kd d) el h->mY l L to.id h=some h'->In (Kd D) el h':=λel h h' q e=>nu I J E q (pK ht j q) G n0 e;obtain⟨y,A,B,C⟩:=ln (l:=l) (L:=L) g.endI g.endM g.endD to.id;refine np g (by rw[a];exact Xi (λ_ _ _ _=>trivial) W) (by rw[a];exact mC W p) (by rw[m];exact M) n (by rw[k];exact t _ _ _ (D8.1 g.endH) y) (by rw[k];exact A) (by rw[k];exact B) (by rw[k];exact C) ?_ ?_ ?_;rw[a];exact nm t W (M7 (λel h e=>D8.1 e) (UK.1 g.W));rw[a];have s:=mg (κ:=mY l L to.id) W;exact⟨λi hi=>g.ids.1 i (s.mem hi),g.ids.2.sublist s⟩;rw[a];have a1:=oE (κ:=mY l L to.id) W;have a2:=ml F;have a3:=kK N (AB.rlL (mY l L to.id) d.W);have a4:=kK N d.W;have:=g.units;rw[DA (by omega) (by omega)]at this ⊢;omega
theorem nc{acc rej acc' rej':Int->Bool}(c:m2=BU [] (d.V.map (·.id)))(g:DU N d)(hl:Dq (HK m2) K N d.W)(he:HK m2 d.T0)(Q:kH d l to=0)(V:oH (jF l) acc rej)
 (hA:∀x,x∈m2->Jn (ED (jF l) to.id) acc rej acc' rej' x):(C2 (CE acc' rej') (mN d l L to).normal).normal=(C2 (CE acc rej) d).normal:=by
 have k:=g.ok;have ht:=Jb k;have n:=lN Q;obtain⟨_,_,_,tT,R⟩:=l8 ht Q;have n0:to.id≠0:=by have:=OC n.err;omega
 have W:=Rf c k hl;obtain⟨nz,C⟩:=oJ (_N:=N) c ht n;obtain⟨D,p⟩:∃D,D=mN d l L to:=⟨_,rfl⟩
 rw[<-p];have G:D.W=AB.rlL (mY l L to.id) d.W:=by rw[p];rfl
 have Z:D.T0 = (jx l L to.id d.T0).1:=by rw[p];rfl
 have B:D.V=mc d l to:=by rw[p];rfl
 have Ds:D.S=d.S:=by rw[p];rfl
 have F:SK D.V:=by rw[B];exact tT
 obtain⟨S,o⟩:∃S,S=D.normal:=⟨_,rfl⟩
 rw[<-o];have s:SK S.V:=by rw[o];exact IS F _
 have I:S.W=AO D.W:=by rw[o];rfl
 have Se:S.T0 = D.T0:=by rw[o];rfl
 have Ss:S.S=d.S:=by rw[o];show D.S=_;rw[Ds]
 have J:∀r:BC,r.id≠0->(r∈S.V↔r∈D.V/\r.id∈AB.U S.W++S.T0.all):=λr f=>by rw[o,IM f];rfl
 have WD:wf (λ_=>True) (λi=>i ≠ -1) N D.W:=by rw[G];exact Xi (λ_ _ _ _=>trivial) W
 have M:wf (λ_=>True) (λi=>i ≠ -1) N S.W:=by rw[I];exact Jl WD
 have hc:∀h,jJ m2 h->(mY l L to.id h).bind (CE acc' rej')=CE acc rej h:=λh H=>oO V (C h H.2) n0 λx hx=>hA x (by
  rcases hx with⟨e,z⟩|⟨q,E,e⟩|⟨q,E,e⟩
  exact H.2.I.elim (λg=>absurd g z) λg=>e▸g;exact e▸H.2.Y q E;exact e▸H.2.Z q E)
 obtain⟨e1,_⟩:=ln (l:=l) (L:=L) g.endI g.endM g.endD to.id;have ee:CE acc' rej' D.T0 = CE acc rej d.T0:=by
  have:=hc d.T0 ⟨he,c▸k.T0⟩;rw[e1,qK]at this;rw[Z];exact this
 have A:AO (C2 (CE acc' rej') S).W=AO (C2 (CE acc rej) d).W:=by
  show AO (AB.rlL _ S.W)=AO (AB.rlL _ d.W);rw[(Ub M).normal,(Ub W).normal,I,(LZ _ _).normal,G,(Zz _ (Ub W)).normal,kq,lD hc W]
 have w:(C2 (CE acc' rej') S).T0 = (C2 (CE acc rej) d).T0:=by
  show(CE acc' rej' S.T0).getD DN=_;rw[Se,ee];rfl
 have j:∀{a r:Int->Bool} {h:AF} {y:Int},y≠0->y∈((CE a r h).getD DN).all->y∈h.all/\a y=false/\r y=false:=fun {a r h y} h0 g=>by
  cases e:CE a r h with
  | none=>
   rw[e]at g;rw[JZ]at g;rcases g with g|⟨d,k,_⟩|⟨d,k,_⟩
   exact absurd g h0;cases k;cases k
  | some h'=>rw[e]at g;exact⟨UD e h0 g,mu e h0 g⟩
 have m:∀{a r:Int->Bool} {P:AG} {y:Int},wf (λ_=>True) (λi=>i ≠ -1) N P.W->y≠0->y∈AB.U (AO (C2 (CE a r) P).W)++(C2 (CE a r) P).T0.all->y∈AB.U P.W++P.T0.all/\a y=false/\r y=false:=fun {a r P y} WP h0 g=>by
  rcases qd.1 g with g|g;have w2:wf (λh'=>∃h,CE a r h=some h') (λi=>i ≠ -1) N (C2 (CE a r) P).W:=Xi (λh h' _ e=>⟨h,e⟩) WP;have O:=MA (Qa (λ_ _=>trivial) (λ_ g=>g) w2:wf (λ_=>True) _ N _) g;exact⟨qD _ (Xh (λh h' e=>UD e h0) WP O),QY (λh ⟨_,e⟩ hy=>mu e h0 hy) w2 O⟩;exact⟨Qj _ (j h0 g).1,(j h0 g).2⟩
 have W1:wf (λ_=>True) (λi=>i ≠ -1) N d.W:=Qa (λ_ _=>trivial) (λ_ g=>g) W;refine Z3 A w ?_ Ss;refine XL (IS s _).2.2 (IS ht _).2.2 λr=>?_;show r∈(C2 (CE acc' rej') S).normal.V↔r∈(C2 (CE acc rej) d).normal.V;by_cases b:r.id=0;constructor;intro f;exact absurd b (Tl s (Kq.1 f).1);intro f;exact absurd b (Tl ht (Kq.1 f).1);rw[IM b,IM b,A,w];refine and_congr_left λu=>?_;show r∈S.V↔r∈d.V;have t:=u;rw[<-A,<-w]at t;have uS:=(m M b t).1;obtain⟨X,U,Y⟩:=m W1 b u;have T:r.id∉l:=λq=>by
  have:jF l r.id=true:=by simp[jF,b,q]
  rcases V.h with v|⟨v,_⟩
  rw[v _ this]at U;cases U;rw[v _ this]at Y;cases Y
 constructor;intro f;have:=((J r b).1 f).1;rw[B,R]at this;rcases this with e|e;exfalso;refine T ?_;rw[e];refine n.to (OD ((Wz c).1 ?_));rw[e]at X;rcases qd.1 X with g|g;exact QY (P:=to.id∈m2) (λh H g=>UP H.2 n0 g) W g;exact UP (c▸k.T0) n0 g;exact e.1;intro f;exact(J r b).2 ⟨by rw[B,R];exact .inr ⟨f,T⟩,uS⟩
end
def Xu(g:FuncId)(a b:List SV)(δ:AF->Option AF)(ok:AF->Prop):Prop:=∀h,ok h->PC g (a++[h.e]++b) (.tup [((δ h).getD DN).e,.bool (δ h).isSome])
def dW:Tr:=.pure 0<|.pure 1<|.pure 2<|.pure 3<|.pure 4<|.pure 5<|.pure 6<|.one 7<|.one 8<|.one 9<|.one 10<|.pure 11 .nil
theorem P7{α β:Type}(f:α->Option β){l:List α}{i:Nat}(h:i<l.length){x:α}(a:l[i]=x):(l.take (i+1)).filterMap f=(l.take i).filterMap f++(f x).toList:=by
 rw[qb h,Le,a,CN,List.filterMap_nil,JP]
theorem KC{α β:Type}(f:α->Option β):∀l:List α,(l.filterMap f).length<=l.length
 | []=>qa _
 | x::l=>by
  rw[CN,qq,qJ];have:=KC f l;have:(f x).toList.length<=1:=by cases f x<;>simp
  omega
section
variable{g:FuncId}{a b:List SV}{δ:AF->Option AF}{ok:AF->Prop}{P:List AB->Prop}
theorem iW(hR:Xu g a b δ ok)(hit:∀l,P l->PC 164 [.fn (.func g) a b,AK l] (AK (AB.rlL δ l)))(l:List AP)(hl:l.length<=1048576)(hr:∀r∈l,ok r.H/\r.cells.length<=1048576/\∀c∈r.cells,ok c.H/\P c.W):
 PC 235 [.fn (.func g) a b,Aw l] (Aw (l.filterMap (AP.rl δ))):=by
 intro h n;refine DO func235 rfl λho=>?_;have hHb:=ho.lt;obtain⟨FN,hFN⟩:∃FN:SV,FN=.fn (.func g) a b:=⟨_,rfl⟩
 rw[<-hFN]at hit ⊢;obtain⟨R,hR'⟩:∃R:Nat->List AP,∀i,R i=(l.take i).filterMap (AP.rl δ):=⟨_,λ_=>rfl⟩
 have hR0:R 0=[]:=by rw[hR'];rfl
 have hRs:∀i x,(h:i<l.length)->l[i]=x->R (i+1)=R i++(AP.rl δ x).toList:=λi x h hx=>by rw[hR',hR',P7 _ h hx]
 have hRl:R l.length=l.filterMap (AP.rl δ):=by rw[hR',qm]
 have hRn:∀i,(R i).length<=i:=λi=>by rw[hR'];exact qI (KC _ _) (vz _ _)
 clear hR';refine Aa 0 [(0,FN),(1,Aw l)] h n ?_ (λm hm=>?_);simp[go_sem,IO];refine Aa 0 [(0,FN),(1,Aw l),(5,.i 0 [] true)] h n ?_ (λm hm=>?_);simp[go_sem,IO,hm];refine AX 0 (α:=Option Nat) (λo=>[(5,AW 6 o ((R l.length).map AP.e))]) (λo=>AV o ((R l.length).map AP.e) h) (λo m=>n<=m/\BR n m 6 o ((R l.length).map AP.e)) ?_ (λo m hm=>?_)
 . refine Aa 0 [(0,FN),(5,.i 0 [] true),(15,Aw l),(16,AA l.length),(17,AA 0)] h n ?_ (λm hm=>?_);simp[go_sem,IO,hm];refine AY (BT 0 (α:=Nat×Option Nat) (λq=>[(0,FN),(5,AW 6 q.2 ((R q.1).map AP.e)),(15,Aw l),(16,AA l.length),(17,AA q.1)])
    (λq=>AV q.2 ((R q.1).map AP.e) h) (λq m=>q.1<=l.length/\n<=m/\BR n m 6 q.2 ((R q.1).map AP.e)) (λq=>l.length-q.1) (0,none) ⟨qg _,hm,by simp only[hR0];exact vA _ _ _⟩ ?_ ?_ ?_)
   simp[go_sem,Ao,AW,IO];simp only[hR0];exact AC;clear hm m;rintro⟨i,o⟩ m ⟨hi,hnm,hA⟩;dsimp only at hi hA ⊢;have hEn:((R i).map AP.e).length<=i:=by rw[qf];exact hRn i
   by_cases hlt:i<l.length
   . obtain⟨x,hx⟩:∃x,l[i]=x:=⟨_,rfl⟩
     have hxm:x∈l:=by rw[<-hx];exact qi hlt
     obtain⟨x1,x2,x3⟩:=hr x hxm;have hst:=hRs i x hlt hx;have w1:=wS i (by omega);generalize hEi:(R i).map AP.e=E at hA hEn ⊢;have hE2:(R (i+1)).map AP.e=E++(AP.rl δ x).toList.map AP.e:=by rw[hst,qc,hEi]
     have hXb:∀j y,AV o E h j=some y->j<m:=G0 hHb hnm hA;refine B5 0 [(0,FN),(5,AW 6 o E),(15,Aw l),(16,AA l.length),(17,AA i),(18,.bool true)] (AV o E h) m ?_ (λm' hm'=>?_);simp[go_sem,IO,hlt];subst hm';refine B5 0 [(0,FN),(5,AW 6 o E),(15,Aw l),(16,AA l.length),(17,AA i)] (AV o E h) m ?_ (λm2 hm2=>?_);simp[go_sem,IO];subst hm2;refine AX 0 (α:=Option Nat) (λo=>[(0,FN),(5,AW 6 o ((R (i+1)).map AP.e)),(15,Aw l),(16,AA l.length),(17,AA i)]) (λo=>AV o ((R (i+1)).map AP.e) h) (λo m=>n<=m/\BR n m 6 o ((R (i+1)).map AP.e)) ?_ (λo m hm=>?_)
     . rw[hE2];refine AY ?_;refine Aa 1 [(0,FN),(5,AW 6 o E),(15,Aw l),(16,AA l.length),(17,AA i),(7,.q (x.H.g++[BZ x.cells]))] (AV o E h) m ?_ (λm2 hm2=>?_);simp[go_sem,IO,hlt,hx,Yw,AF.g,AD];refine⟨AZ (AS hXb (qa m)) (AD _ _ _),AL hXb (AL hXb AC)⟩;have hXb2:∀j y,AV o E h j=some y->j<m2:=λj y e=>by have:=hXb j y e;omega
       have hcall:=hR x.H x1;rw[AP.rl_eq];obtain⟨d,hd⟩:∃d,δ x.H=d:=⟨_,rfl⟩
       rw[hd]at hcall ⊢;refine Aa 1 [(0,FN),(5,AW 6 o E),(15,Aw l),(16,AA l.length),(17,AA i),(7,.q (x.H.g++[BZ x.cells])),(8,.q (d.getD DN).g),(9,.bool d.isSome)] (AV o E h) m2 ?_ (λm3 hm3=>?_);rw[hFN];simp only[AF.e,AF.g,qx,qE,qj]at hcall;simp[go_sem,AF.g];refine qz hcall ?_;simp[go_sem,IO,AD];exact⟨AZ (AS hXb2 (qa _)) (AD _ _ _),AL hXb2 (AL hXb2 AC)⟩;cases d with
       | none=>
        refine AJ ?_;simp[go_sem,IO];exact⟨o,⟨by omega,hA.mono (by omega)⟩,rfl,AC⟩
       | some h'=>
        simp only[qK,vR,vG];clear hcall hd;refine CG 0 [(0,FN),(5,AW 6 o E),(15,Aw l),(16,AA l.length),(17,AA i),(7,.q (x.H.g++[BZ x.cells])),(8,.q h'.g)] (AV o E h) m3 (AJ ?_) (λm4 hm4=>?_);simp[go_sem,IO];subst hm4;refine B5 0 [(0,FN),(5,AW 6 o E),(15,Aw l),(16,AA l.length),(17,AA i),(7,.q (x.H.g++[BZ x.cells])),(8,.q h'.g),(10,.i 0 [] true)] (AV o E h) m3 ?_ (λm4 hm4=>?_);simp[go_sem,IO];subst hm4;refine CW 1 [(0,FN),(5,AW 6 o E),(15,Aw l),(16,AA l.length),(17,AA i),(8,.q h'.g),(10,BZ (x.cells.filterMap (cr.rl δ)))] (AV o E h) m3 ?_ (λm4 hm4=>?_)
        . refine B5 0 [(0,FN),(5,AW 6 o E),(15,Aw l),(16,AA l.length),(17,AA i),(8,.q h'.g),(10,.i 0 [] true),(31,BZ x.cells),(32,AA x.cells.length),(33,AA 0)] (AV o E h) m3 ?_ (λm4 hm4=>?_);simp[go_sem,IO,AF.g];subst hm4;obtain⟨Q,hQ⟩:∃Q:Nat->List cr,∀i,Q i=(x.cells.take i).filterMap (cr.rl δ):=⟨_,λ_=>rfl⟩
          have hQ0:Q 0=[]:=by rw[hQ];rfl
          have hQs:∀i y,(h:i<x.cells.length)->x.cells[i]=y->Q (i+1)=Q i++(cr.rl δ y).toList:=λi y h hy=>by rw[hQ,hQ,P7 _ h hy]
          have hQl:Q x.cells.length=x.cells.filterMap (cr.rl δ):=by rw[hQ,qm]
          have hQn:∀i,(Q i).length<=i:=λi=>by rw[hQ];exact qI (KC _ _) (vz _ _)
          clear hQ;have hBb:∀j y,AV o E h j=some y->j<m3:=λj y e=>by have:=hXb j y e;omega
          refine AY (BT 0 (α:=Nat×Option Nat) (λq=>[(0,FN),(5,AW 6 o E),(15,Aw l),(16,AA l.length),(17,AA i),(8,.q h'.g),(10,AW 7 q.2 ((Q q.1).map cr.e)),(31,BZ x.cells),(32,AA x.cells.length),(33,AA q.1)])
           (λq=>AV q.2 ((Q q.1).map cr.e) (AV o E h)) (λq m=>q.1<=x.cells.length/\m3<=m/\BR m3 m 7 q.2 ((Q q.1).map cr.e)) (λq=>x.cells.length-q.1) (0,none) ⟨qg _,qa _,by simp only[hQ0];exact vA _ _ _⟩ ?_ ?_ ?_)
          simp[go_sem,Ao,AW,IO];simp only[hQ0];exact AC;rintro⟨j,o2⟩ m4 ⟨hj,hm4,hA2⟩;dsimp only at hj hA2 ⊢;have hCn:((Q j).map cr.e).length<=j:=by rw[qf];exact hQn j
          by_cases hjt:j<x.cells.length
          . obtain⟨y,hy⟩:∃y,x.cells[j]=y:=⟨_,rfl⟩
            have hym:y∈x.cells:=by rw[<-hy];exact qi hjt
            obtain⟨y1,y2⟩:=x3 y hym;have hqt:=hQs j y hjt hy;have w2:=wS j (by omega);generalize hGj:(Q j).map cr.e=G at hA2 hCn ⊢;have hG2:(Q (j+1)).map cr.e=G++(cr.rl δ y).toList.map cr.e:=by rw[hqt,qc,hGj]
            have hYb:∀j y,AV o2 G (AV o E h) j=some y->j<m4:=G0 hBb hm4 hA2;refine B5 0 [(0,FN),(5,AW 6 o E),(15,Aw l),(16,AA l.length),(17,AA i),(8,.q h'.g),(10,AW 7 o2 G),(31,BZ x.cells),(32,AA x.cells.length),(33,AA j),(34,.bool true)] (AV o2 G (AV o E h)) m4 ?_ (λm' hm'=>?_);simp[go_sem,IO,hjt];subst hm';refine B5 0 [(0,FN),(5,AW 6 o E),(15,Aw l),(16,AA l.length),(17,AA i),(8,.q h'.g),(10,AW 7 o2 G),(31,BZ x.cells),(32,AA x.cells.length),(33,AA j)] (AV o2 G (AV o E h)) m4 ?_ (λm' hm'=>?_);simp[go_sem,IO];subst hm';refine AX 0 (α:=Option Nat) (λo2=>[(0,FN),(5,AW 6 o E),(15,Aw l),(16,AA l.length),(17,AA i),(8,.q h'.g),(10,AW 7 o2 ((Q (j+1)).map cr.e)),(31,BZ x.cells),(32,AA x.cells.length),(33,AA j)]) (λo2=>AV o2 ((Q (j+1)).map cr.e) (AV o E h)) (λo2 m=>m3<=m/\BR m3 m 7 o2 ((Q (j+1)).map cr.e)) ?_ (λo2 m hm=>?_)
            . rw[hG2];refine AY ?_;refine Aa 1 [(0,FN),(5,AW 6 o E),(15,Aw l),(16,AA l.length),(17,AA i),(8,.q h'.g),(10,AW 7 o2 G),(31,BZ x.cells),(32,AA x.cells.length),(33,AA j),(12,.q ([AA y.id]++y.H.g++[AK y.W]))] (AV o2 G (AV o E h)) m4 ?_ (λm5 hm5=>?_);simp[go_sem,IO,hjt,hy,Us,AF.g,AD];refine⟨AZ (AS hYb (qa m4)) (AD _ _ _),AL hYb (AL hYb AC)⟩;have hYb2:∀j y,AV o2 G (AV o E h) j=some y->j<m5:=λj y e=>by have:=hYb j y e;omega
              have hcall2:=hR y.H y1;rw[TN];obtain⟨d2,hd2⟩:∃d,δ y.H=d:=⟨_,rfl⟩
              rw[hd2]at hcall2 ⊢;refine Aa 1 [(0,FN),(5,AW 6 o E),(15,Aw l),(16,AA l.length),(17,AA i),(8,.q h'.g),(10,AW 7 o2 G),(31,BZ x.cells),(32,AA x.cells.length),(33,AA j),(12,.q ([AA y.id]++y.H.g++[AK y.W])),(13,.q (d2.getD DN).g),(14,.bool d2.isSome)] (AV o2 G (AV o E h)) m5 ?_ (λm6 hm6=>?_);rw[hFN];simp only[AF.e,AF.g,qx,qE,qj]at hcall2;simp[go_sem,AF.g];refine qz hcall2 ?_;simp[go_sem,IO,AD];exact⟨AZ (AS hYb2 (qa _)) (AD _ _ _),AL hYb2 (AL hYb2 AC)⟩;cases d2 with
              | none=>
               refine AJ ?_;simp[go_sem,IO];exact⟨o2,⟨by omega,hA2.mono (by omega)⟩,rfl,AC⟩
              | some h2 =>
               simp only[qO,vR,vG,VN,qr,Yo];clear hcall2 hd2;refine B5 0 [(0,FN),(5,AW 6 o E),(15,Aw l),(16,AA l.length),(17,AA i),(8,.q h'.g),(10,AW 7 o2 G),(31,BZ x.cells),(32,AA x.cells.length),(33,AA j),(12,.q ([AA y.id]++y.H.g++[AK y.W])),(13,.q h2.g),(44,.bool true)] (AV o2 G (AV o E h)) m6 ?_ (λm7 hm7=>?_);simp[go_sem,IO];subst hm7;refine Au (b:=true) (by simp[go_sem]) ?_;rw[if_pos rfl];have hc3:=hit y.W y2;generalize AB.rlL δ y.W=q3 at hc3 ⊢;refine CK dW rfl (by kernel_rfl) (by kernel_rfl) ?_;simp[go_sem,dW,AF.g];refine qz hc3 ?_;simp[go_sem];have hpush:=hA2.push (j:=m6+1) (m':=m6+1+1) (e:=(cr.mk y.id h2 q3).e) (cr.E.st _) (cr.E.len _) (by omega) (by omega);rw[Fa (es:=G) (e:=(cr.mk y.id h2 q3).e) (o:=o2) (t:=167) (t2:=167) (el:=171) (z:=7) (by simp[go_sem]) (by simp[go_sem]) (by simp[go_sem]) (by simp) (by simp[go_sem]) (by simp[go_sem]) (by simp[go_sem]) (by omega) hA2 (cr.E.len _) ?a1 ?a2]
               case a1=>simp[AD,Us,SV.cells,cr.id,cr.H,cr.W]
               case a2=>
                intro j e;have:=(hA2.lt j e).2;rw[AE _ _ (by omega)];exact FX j e
               have hlive:=D7 (p:=m6+1) (v:=.sl (m6+1) 0 7 (G.length+1) false) (e:=(cr.mk y.id h2 q3).e) hBb (by omega) hA2 (H:=h_ (AV o2 G (AV o E h)) m6 (some (.cells [AA y.id,AU h2.Q,AA h2.I,AA h2.move,Ax h2.Y,Ai h2.Z,AK q3]))) (AL (λj z e=>by have:=hBb j z e;omega) (Eb hBb hA2));have hvv:AW 7 (some (m6+1)) (G++[(cr.mk y.id h2 q3).e])=.sl (m6+1) 0 7 (G.length+1) false:=by simp[AW]
               simp[go_sem];exact⟨some (m6+1),⟨by omega,hpush⟩,hvv.symm,by simpa[C5.app,SV.cells]using hlive⟩
            refine AJ ?_;simp[go_sem,w2,IO,-Int.natCast_add];exact⟨j+1,by omega,o2,⟨by omega,hm.1,hm.2⟩,⟨rfl,rfl⟩,AC⟩
          have:j=x.cells.length:=by omega
          subst this;rw[hQl]at hA2 ⊢;refine AJ ?_;simp[go_sem,IO];exact⟨by omega,AW.fz' (λj hj=>AS hBb hj) hA2 AC,Eb hBb hA2⟩
        . generalize x.cells.filterMap (cr.rl δ)=q2;by_cases z:q2=[];subst z;refine AJ ?_;simp[go_sem,IO];exact⟨o,⟨by omega,hA.mono (by omega)⟩,rfl,AC⟩
          . have z1:0<q2.length:=qH.2 z;have z2:(0:Int)<q2.length:=by omega
            rw[if_neg (by omega)];simp only[VN,qr,Yo];refine B5 0 [(0,FN),(5,AW 6 o E),(15,Aw l),(16,AA l.length),(17,AA i),(8,.q h'.g),(10,BZ q2),(59,.bool true)] (AV o E h) m4 ?_ (λm5 hm5=>?_);simp[go_sem,IO,z1];subst hm5;refine AJ ?_;simp[go_sem,AF.g];have hpush:=hA.push (j:=m4+1) (m':=m4+1+1) (e:=(AP.mk h' q2).e) (AP.E.st _) (AP.E.len _) (by omega) (by omega);rw[Fa (es:=E) (e:=(AP.mk h' q2).e) (o:=o) (t:=68) (t2:=68) (el:=169) (z:=6) (by simp[go_sem]) (by simp[go_sem]) (by simp[go_sem]) (by simp) (by simp[go_sem]) (by simp[go_sem]) (by simp[go_sem]) (by omega) hA (AP.E.len _) ?a1 ?a2]
            case a1=>simp[AD,Yw,SV.cells,AP.H,AP.cells]
            case a2=>
             intro j e;have:=(hA.lt j e).2;rw[AE _ _ (by omega)];exact FX j e
            have hlive:=D7 (p:=m4+1) (v:=.sl (m4+1) 0 6 (E.length+1) false) (e:=(AP.mk h' q2).e) hHb (by omega) hA (H:=h_ (AV o E h) m4 (some (.cells [AU h'.Q,AA h'.I,AA h'.move,Ax h'.Y,Ai h'.Z,BZ q2]))) (AL (λj z e=>by have:=hHb j z e;omega) (Eb hHb hA));have hvv:AW 6 (some (m4+1)) (E++[(AP.mk h' q2).e])=.sl (m4+1) 0 6 (E.length+1) false:=by simp[AW]
            simp[go_sem];exact⟨some (m4+1),⟨by omega,hpush⟩,hvv.symm,by simpa[C5.app,SV.cells]using hlive⟩
     refine AJ ?_;simp[go_sem,w1,IO,-Int.natCast_add];exact⟨i+1,by omega,o,⟨by omega,hm.1,hm.2⟩,⟨rfl,rfl⟩,AC⟩
   have:i=l.length:=by omega
   subst this;refine AJ ?_;simp[go_sem];exact⟨o,⟨hnm,hA⟩,rfl,AC⟩
 refine AJ ?_;simp[go_sem];rw[hRl]at hm ⊢;exact I1 ho hm.2 (λe he=>by obtain⟨x,_,rfl⟩:=ql.1 he;exact AP.cl n x)
end
section
variable{g:FuncId}{a b:List SV}{δ:AF->Option AF}{ok:AF->Prop}{P:List AB->Prop}
def okR(ok:AF->Prop)(P:List AB->Prop)(x:AB):Prop:=ok x.H/\P x.W/\x.R.length<=1048576/\∀r∈x.R,ok r.H/\r.cells.length<=1048576/\∀c∈r.cells,ok c.H/\P c.W
theorem iR(hR:Xu g a b δ ok)(hit:∀l,P l->PC 164 [.fn (.func g) a b,AK l] (AK (AB.rlL δ l)))(l:List AB)(hl:l.length<=1048576)(hr:∀x∈l,okR ok P x):
 PC 164 [.fn (.func g) a b,AK l] (AK (AB.rlL δ l)):=by
 intro h n;refine DO func164 rfl λho=>?_;have hHb:=ho.lt;have hrow:=λ(rs:List AP) h1 h2=>iW (P:=P) hR hit rs h1 h2;obtain⟨FN,hFN⟩:∃FN:SV,FN=.fn (.func g) a b:=⟨_,rfl⟩
 rw[<-hFN]at hit hrow ⊢;rw[wu];obtain⟨R,hR'⟩:∃R:Nat->List AB,∀i,R i=(l.take i).filterMap (AB.rl δ):=⟨_,λ_=>rfl⟩
 have hR0:R 0=[]:=by rw[hR'];rfl
 have hRs:∀i x,(h:i<l.length)->l[i]=x->R (i+1)=R i++(AB.rl δ x).toList:=λi x h hx=>by rw[hR',hR',P7 _ h hx]
 have hRl:R l.length=l.filterMap (AB.rl δ):=by rw[hR',qm]
 have hRn:∀i,(R i).length<=i:=λi=>by rw[hR'];exact qI (KC _ _) (vz _ _)
 clear hR';refine Aa 0 [(0,FN),(1,AK l)] h n ?_ (λm hm=>?_);simp[go_sem,IO];refine Aa 0 [(0,FN),(1,AK l),(5,.i 0 [] true)] h n ?_ (λm hm=>?_);simp[go_sem,IO,hm];refine AX 0 (α:=Option Nat) (λo=>[(5,AW 11 o ((R l.length).map AB.e))]) (λo=>AV o ((R l.length).map AB.e) h) (λo m=>n<=m/\BR n m 11 o ((R l.length).map AB.e)) ?_ (λo m hm=>?_)
 . refine Aa 0 [(0,FN),(5,.i 0 [] true),(10,AK l),(11,AA l.length),(12,AA 0)] h n ?_ (λm hm=>?_);simp[go_sem,IO,hm];refine AY (BT 0 (α:=Nat×Option Nat) (λq=>[(0,FN),(5,AW 11 q.2 ((R q.1).map AB.e)),(10,AK l),(11,AA l.length),(12,AA q.1)])
    (λq=>AV q.2 ((R q.1).map AB.e) h) (λq m=>q.1<=l.length/\n<=m/\BR n m 11 q.2 ((R q.1).map AB.e)) (λq=>l.length-q.1) (0,none) ⟨qg _,hm,by simp only[hR0];exact vA _ _ _⟩ ?_ ?_ ?_)
   simp[go_sem,Ao,AW,IO];simp only[hR0];exact AC;clear hm m;rintro⟨i,o⟩ m ⟨hi,hnm,hA⟩;dsimp only at hi hA ⊢;have hEn:((R i).map AB.e).length<=i:=by rw[qf];exact hRn i
   by_cases hlt:i<l.length
   . obtain⟨x,hx⟩:∃x,l[i]=x:=⟨_,rfl⟩
     have hxm:x∈l:=by rw[<-hx];exact qi hlt
     obtain⟨x1,x3,x4,x5⟩:=hr x hxm;have hst:=hRs i x hlt hx;have w1:=wS i (by omega);generalize hEi:(R i).map AB.e=E at hA hEn ⊢;have hE2:(R (i+1)).map AB.e=E++(AB.rl δ x).toList.map AB.e:=by rw[hst,qc,hEi]
     have hXb:∀j y,AV o E h j=some y->j<m:=G0 hHb hnm hA;refine B5 0 [(0,FN),(5,AW 11 o E),(10,AK l),(11,AA l.length),(12,AA i),(13,.bool true)] (AV o E h) m ?_ (λm' hm'=>?_);simp[go_sem,IO,hlt];subst hm';refine B5 0 [(0,FN),(5,AW 11 o E),(10,AK l),(11,AA l.length),(12,AA i)] (AV o E h) m ?_ (λm2 hm2=>?_);simp[go_sem,IO];subst hm2;refine AX 0 (α:=Option Nat) (λo=>[(0,FN),(5,AW 11 o ((R (i+1)).map AB.e)),(10,AK l),(11,AA l.length),(12,AA i)]) (λo=>AV o ((R (i+1)).map AB.e) h) (λo m=>n<=m/\BR n m 11 o ((R (i+1)).map AB.e)) ?_ (λo m hm=>?_)
     . rw[hE2];refine AY ?_;refine B8 0 (α:=Nat) (λp=>[(0,FN),(5,AW 11 o E),(10,AK l),(11,AA l.length),(12,AA i),(7,.ptr p 0)]) (λp=>h_ (AV o E h) p (some (.cells [AA x.k,AA x.code,AA x.id,.str x.x,AU x.H.Q,AA x.H.I,AA x.H.move,Ax x.H.Y,Ai x.H.Z,AK x.W,Aw x.R]))) (λp m2=>m<=p/\p<m2) ?_ (λp m2 hm2=>?_);simp[go_sem,IO,hlt,hx,qw,AD,Ah];exact⟨m,by omega,rfl,AC⟩;have hXb2:∀j y,AV o E h j=some y->j<p:=λj y e=>by have:=hXb j y e;omega
       have hYb:∀y j z,h_ (AV o E h) p y j=some z->j<m2:=λy j z e=>by
        by_cases h:j=p;omega;rw[AE _ _ h]at e;have:=hXb2 j z e;omega
       have hcall:=hR x.H x1;rw[S5];obtain⟨d,hd⟩:∃d,δ x.H=d:=⟨_,rfl⟩
       rw[hd]at hcall ⊢;refine Aa 1 [(0,FN),(5,AW 11 o E),(10,AK l),(11,AA l.length),(12,AA i),(7,.ptr p 0),(8,.q (d.getD DN).g),(9,.bool d.isSome)] (h_ (AV o E h) p (some (.cells [AA x.k,AA x.code,AA x.id,.str x.x,AU x.H.Q,AA x.H.I,AA x.H.move,Ax x.H.Y,Ai x.H.Z,AK x.W,Aw x.R]))) m2 ?_ (λm3 hm3=>?_);rw[hFN];simp only[AF.e,AF.g,qx,qE,qj]at hcall;simp[go_sem,AF.g,AD];refine qz hcall ?_;simp[go_sem,IO,AD];exact⟨AZ (AS (hYb _) (qa _)) (AD _ _ _),AL (hYb _) (AL (hYb _) AC)⟩;cases d with
       | none=>
        refine AJ ?_;simp[go_sem,IO];exact⟨o,⟨by omega,hA.mono (by omega)⟩,rfl,AL hXb2 AC⟩
       | some h'=>
        simp only[qK,vR,vG];clear hcall hd;refine CG 0 [(0,FN),(5,AW 11 o E),(10,AK l),(11,AA l.length),(12,AA i),(7,.ptr p 0),(8,.q h'.g)] (h_ (AV o E h) p (some (.cells [AA x.k,AA x.code,AA x.id,.str x.x,AU x.H.Q,AA x.H.I,AA x.H.move,Ax x.H.Y,Ai x.H.Z,AK x.W,Aw x.R]))) m3 (AJ ?_) (λm4 hm4=>?_);simp[go_sem,IO];subst hm4;refine B5 0 [(0,FN),(5,AW 11 o E),(10,AK l),(11,AA l.length),(12,AA i),(7,.ptr p 0)] (h_ (AV o E h) p (some (.cells [AA x.k,AA x.code,AA x.id,.str x.x,AU h'.Q,AA h'.I,AA h'.move,Ax h'.Y,Ai h'.Z,AK x.W,Aw x.R]))) m3 ?_ (λm4 hm4=>?_);simp[go_sem,IO,AF.g,AD,Ah];subst hm4;obtain⟨r2,hr2⟩:∃r,r=(if x.k=6 then some (AB.mk x.k x.code x.id x.x h' (AB.rlL δ x.W) x.R)else if x.k=7 then(if(x.R.filterMap (AP.rl δ)).length=0 then none else some (.mk x.k x.code x.id x.x h' x.W (x.R.filterMap (AP.rl δ))))else some (.mk x.k x.code x.id x.x h' x.W x.R)):=⟨_,rfl⟩
        rw[<-hr2];refine AX 1 (α:=AB) (λz=>[(0,FN),(5,AW 11 o E),(10,AK l),(11,AA l.length),(12,AA i),(7,.q [AA z.k,AA z.code,AA z.id,.str z.x,AU z.H.Q,AA z.H.I,AA z.H.move,Ax z.H.Y,Ai z.H.Z,AK z.W,Aw z.R])]) (λ_=>AV o E h) (λz m5=>m3<=m5/\r2=some z) ?_ (λz m5 hm5=>?_);refine B5 0 [(0,FN),(5,AW 11 o E),(10,AK l),(11,AA l.length),(12,AA i),(7,.ptr p 0),(28,AA x.k)] (h_ (AV o E h) p (some (.cells [AA x.k,AA x.code,AA x.id,.str x.x,AU h'.Q,AA h'.I,AA h'.move,Ax h'.Y,Ai h'.Z,AK x.W,Aw x.R]))) m3 ?_ (λm4 hm4=>?_);simp[go_sem,IO,AD];subst hm4;by_cases k6:x.k=6;rw[if_pos k6]at hr2;have hc3:=hit x.W x3;generalize AB.rlL δ x.W=q3 at hc3 hr2;refine AJ ?_;simp[go_sem,AD,k6];refine qz hc3 ?_;simp[go_sem,IO,AD,Ah,hr2];simp[AB.k,AB.code,AB.id,AB.x,AB.H,AB.W,AB.R];exact⟨AZ (AS hXb2 (qa _)) (by rw[AD];cases x;simp only[AB.k]at k6;subst k6;rfl),AL hXb2 AC⟩;rw[if_neg k6]at hr2;by_cases k7:x.k=7;rw[if_pos k7]at hr2;have hc3:=hrow x.R x4 x5;generalize x.R.filterMap (AP.rl δ)=q3 at hc3 hr2;by_cases z:q3=[];subst z;have hr2:r2=none:=by rw[hr2];rfl
        refine AJ ?_;simp[go_sem,AD,k7];refine qz hc3 ?_;simp[go_sem,IO,AD,Ah,hr2];exact⟨o,⟨by omega,hA.mono (by omega)⟩,rfl,AL hXb2 AC⟩;have z1:q3.length≠0:=λe=>z (vu e);rw[if_neg z1]at hr2;refine AJ ?_;simp[go_sem,AD,k7];refine qz hc3 ?_;simp[go_sem,IO,AD,Ah,hr2,z];simp[AB.k,AB.code,AB.id,AB.x,AB.H,AB.W,AB.R];exact⟨AZ (AS hXb2 (qa _)) (by rw[AD];cases x;simp only[AB.k]at k7;subst k7;rfl),AL hXb2 AC⟩;rw[if_neg k7]at hr2;refine AJ ?_;simp[go_sem,IO,k6,k7,hr2];simp[AB.k,AB.code,AB.id,AB.x,AB.H,AB.W,AB.R];exact⟨AZ (AS hXb2 (qa _)) (by rw[AD]),AL hXb2 AC⟩
        . obtain⟨hm5,hz⟩:=hm5;rw[hz];simp only[VN,qr,Yo];refine AJ ?_;simp[go_sem];have hpush:=hA.push (j:=m5+1) (m':=m5+1+1) (e:=z.e) (AB.E.st _) (AB.E.len _) (by omega) (by omega);rw[Fa (es:=E) (e:=z.e) (o:=o) (t:=22) (t2:=22) (el:=70) (z:=11) (by simp[go_sem]) (by simp[go_sem]) (by simp[go_sem]) (by simp) (by simp[go_sem]) (by simp[go_sem]) (by simp[go_sem]) (by omega) hA (AB.E.len _) ?a1 ?a2]
          case a1=>simp[AD,qw,SV.cells]
          case a2=>
           intro j e;have:=(hA.lt j e).2;rw[AE _ _ (by omega)];exact FX j e
          have hlive:=D7 (p:=m5+1) (v:=.sl (m5+1) 0 11 (E.length+1) false) (e:=z.e) hHb (by omega) hA (H:=h_ (AV o E h) m5 (some (.cells z.e.cells))) (AL (λj z e=>by have:=hHb j z e;omega) (Eb hHb hA));have hvv:AW 11 (some (m5+1)) (E++[z.e])=.sl (m5+1) 0 11 (E.length+1) false:=by simp[AW]
          simp[go_sem];exact⟨some (m5+1),⟨by omega,hpush⟩,hvv.symm,by simpa[C5.app,qw,SV.cells]using hlive⟩
     refine AJ ?_;simp[go_sem,w1,IO,-Int.natCast_add];exact⟨i+1,by omega,o,⟨by omega,hm.1,hm.2⟩,⟨rfl,rfl⟩,AC⟩
   have:i=l.length:=by omega
   subst this;refine AJ ?_;simp[go_sem];exact⟨o,⟨hnm,hA⟩,rfl,AC⟩
 refine AJ ?_;simp[go_sem];rw[hRl]at hm ⊢;exact I1 ho hm.2 (λe he=>by obtain⟨x,_,rfl⟩:=ql.1 he;exact AB.cl n x)
theorem bZ(d:Xu g a b δ ok){K:Nat}(f:K<=1048576):∀(N:Nat)(l:List AB),Dq ok K N l->PC 164 [.fn (.func g) a b,AK l] (AK (AB.rlL δ l))
 | 0,_,h=>h.elim
 | N+1,l,H=>by
  obtain⟨h1,_,e⟩:=Ci.1 H;refine iR (P:=Dq ok K N) d (λl hl=>bZ d f N l hl) l (by omega) λx i=>?_;obtain⟨a1,a2,a3,a4⟩:=e x i;exact⟨a1,a2,by omega,λr c=>⟨(a4 r c).1,by have:=(a4 r c).2.1;omega,(a4 r c).2.2⟩⟩
end
section
variable{P:Program}{E:CC}{evs:Operand->SV}{o:Oper}{h:Hp}{n:Nat}{K:SV->Hp->Nat->Prop}
theorem W8{c:Cx}{q off:Nat}{cs xs:List SV}{ty:Option TypeId}{us:List Value}{b st:Nat}(R:CF h c)(p:h q=some (.cells cs ty))(m:c.ρ q=some (b,st))
 (hle:off<=cs.length) (d:st+off+us.length<=rm c.w b) (a:Ag (V c) xs us) (h1:∀x∈us,x.oneCell'=true):
 ∃w',(storeCells ⟨b,st+off,none⟩ us).run P c.w=.ok () w'/\CF (h_ h q (some (.cells (cs.take off++xs) ty))) { c with w:=w' }/\EH c { c with w:=w' }:=by
 obtain⟨r,st',arr,e,vs,n,j,g3,o,u,g6⟩:=R.obj _ _ p;rw[m]at n;cases n;have hl:=a.length;have hl2:=o.length;have l:rm c.w b=arr.size:=by simp[rm,j]
 rw[l]at d;have g:=run_storeCells_at (P:=P) b (st+off) e us 0 arr c.w j (by simpa using d) h1;simp only[UO]at g;refine⟨_,g,?_⟩;have f:=setRow_heap c.w b arr (arr.toList.take (st+off)++us++arr.toList.drop (st+off+us.length)).toArray e (0,0) j;refine R.write p m (GN _ _ _) (λr k=>Fi _ _ _ k) ?_ rfl rfl (λE=>?_);simp only[rm,j,f];simp;omega;refine⟨b,st,_,e,vs.take off++us,m,f,λi x a=>?_,wa E (vh (o.take off) a),λx a=>?_,g6⟩;simp only[List.getElem?_toArray,qj];have s:(arr.toList.take (st+off)).length=st+off:=by simp;omega
 have t:(vs.take off).length=off:=by simp;omega
 by_cases hi:i<off;rw[qZ (by omega)]at a ⊢;rw[JY,if_pos (by omega)]at a ⊢;simpa using g3 i x a;rw[qT (by omega),t]at a;have hi2:=(qh.1 a).1;rw[qT (by omega),s,qZ (by omega),show st+i-(st+off)=i-off by omega];exact a;rcases qd.1 a with a|a;exact u x (qS a);exact h1 x a
theorem W6{c:Cx}{q off:Nat}{cs:List SV}{ty:Option TypeId}{us:List Value}{b st:Nat}(R:CF h c)(l:h q=some (.cells cs ty))(n:c.ρ q=some (b,st))
 (hge:cs.length<=off) (a:st+off+us.length<=rm c.w b) (h1:∀x∈us,x.oneCell'=true):
 ∃w',(storeCells ⟨b,st+off,none⟩ us).run P c.w=.ok () w'/\CF h { c with w:=w' }/\EH c { c with w:=w' }:=by
 obtain⟨s,st',arr,e,vs,o,g,g3,p,t,g6⟩:=R.obj _ _ l;rw[n]at o;cases o;have hl2:=p.length;have m:rm c.w b=arr.size:=by simp[rm,g]
 rw[m]at a;have f:=run_storeCells_at (P:=P) b (st+off) e us 0 arr c.w g (by simpa using a) h1;simp only[UO]at f;refine⟨_,f,?_⟩;have d:=setRow_heap c.w b arr (arr.toList.take (st+off)++us++arr.toList.drop (st+off+us.length)).toArray e (0,0) g;have u:h_ h q (some (.cells cs ty))=h:=by
  funext j;simp only[h_];split;subst_vars;exact l.symm;rfl
 have key:=R.write (y:=.cells cs ty) l n (GN c.w b _) (λs k=>Fi _ _ _ k) (by simp only[rm,g,d];simp;omega) rfl rfl (λE=>⟨b,st,_,e,vs,n,d,λi x r=>by
  simp only[List.getElem?_toArray,qj];have hi2:=(qh.1 r).1;have eA:(arr.toList.take (st+off)).length=st+off:=by simp;omega
  rw[qZ (by omega),JY,if_pos (by omega)];simpa using g3 i x r,wa E p,t,g6⟩)
 rw[u]at key;exact key
theorem VK{t t2 e e2:TypeId}{x y:Operand}{j z a l f d g B:Nat}{cs:List SV}{ty:Option TypeId}(Z:o.op=.call { callee:=.builtin .append,args:=#[x,y],argTypes:=#[t,t2] })(ht:BA P t=some e)(O:BA P t2=some e2)
 (hz:Br P e=z) (hz0:z≠0) (s:evs x=.slc j a z l f) (hy:evs y=.slc j d z g B) (Y:h j=some (.cells cs ty)) (M:a+l*z<=cs.length) (hi2:d+g*z<=cs.length) (m:l+g<=f)
 (hK:K (.slc j a z (l+g) f) (h_ h j (some (.cells (cs.take (a+l*z)++(cs.drop d).take (g*z)) ty))) n):DS E P evs o h n K:=by
 refine⟨by rw[Z];simp,λc ev _ _ R F hv=>?_⟩;have H:=hv x;have I:=hv y;rw[s,V]at H;rw[hy,V]at I;obtain⟨b,st,hρ,hu,hcap,v⟩:=H;obtain⟨b',T,hρ',Q,hcap',hroom'⟩:=I;rw[hρ]at hρ';cases hρ';obtain⟨u,L,N⟩:=Dy (P:=P) (e:=e) (by omega);have r:u.size=z:=N.symm.trans hz;obtain⟨b',T,arr,e',vs,U,J,g3,W,g5,g6⟩:=R.obj _ _ Y;rw[hρ]at U;cases U;have hvl:=W.length;have A:((vs.drop d).take (g*z)).length=g*z:=by simp;omega
 have p:∀x∈(vs.drop d).take (g*z),x.oneCell'=true:=λx s=>g5 x (JJ (qS s));have hmul:l*z+g*z<=f*z:=by rw[<-UI];exact YR _ m
 obtain⟨w',G,R',X⟩:=W8 (P:=P) (off:=a+l*z) R Y hρ M (by rw[A];omega) ((W.drop d).take (g*z)) p;have hrm:rm c.w b=arr.size:=by simp[rm,J]
 have S:Src P u.size t2 (ev y) g ((vs.drop d).take (g*z)) c.w:=by
  rw[r];refine XT (Ay O) Q A p c.w ⟨λ_=>rfl,λi x s=>?_⟩;rw[JY]at s;split at s;rw[Km]at s;have:=g3 _ _ s;simp only[World.cell?,J,qu];simpa using this;cases s
 have C:∀k,k<((vs.drop d).take (g*z)).length->(c.w.cell? ⟨b,st+a+l*u.size+k,none⟩).isSome=true:=λk hk=>by
  rw[A]at hk;have:st+a+l*z+k<arr.size:=by omega
  rw[r];simp only[World.cell?,J];simp[this]
 have D:∀k,k<((vs.drop d).take (g*z)).length->c.w.frozen? ⟨b,st+a+l*u.size+k,none⟩=false:=λk _=>by simp[World.frozen?,J]
 have hr:=run_append_room_src (P:=P) c.w t t2 o.type e u (Ay ht) L b (st+a) l f (ev y) g _ S m C D;have q:=run_storeCells_cells (P:=P) b (st+a+l*u.size) ((vs.drop d).take (g*z)) 0 c.w (by simpa using C) (by simpa using D) p;simp only[UO]at q;have hw:w'=c.w.setCells b (st+a+l*u.size) ((vs.drop d).take (g*z)):=by
  rw[show st+(a+l*z)=st+a+l*u.size by rw[r];omega]at G;rw[G]at q;exact(Result.ok.inj q).2
 rw[<-hw,<-hu]at hr;refine⟨.slice (some ⟨b,st+a,none⟩) (l+g) f,.slc j a z (l+g) f,_,n,_,BY (P:=P) (ev:=ev) Z _ _ _ λc2=>?_,?_,R',F,⟨X,qa _,λ_ _=>rfl⟩,hK⟩;simp only[builtin,Sem.run_bind,List.map_toArray,qr,Yo];rw[hr];rfl;rw[V];exact⟨b,st,hρ,rfl,m,qI v (X.room b)⟩
theorem Tb{t e:TypeId}{x:Operand}{j off z k cap:Nat}{cs:List SV}{ty:Option TypeId}(y:o.op=.call { callee:=.builtin .clear,args:=#[x],argTypes:=#[t] })(ht:BA P t=some e)
 (_hz:Br P e=z) (hz0:z≠0) (f:(BK P e).B=true) (hzl:(BK P e).cells.length=z) (L:evs x=.slc j off z k cap) (I:h j=some (.cells cs ty)) (v:cs.length<=off)
 (C:K (.tup []) h n):DS E P evs o h n K:=by
 refine⟨by rw[y];simp,λc ev _ _ R F J=>?_⟩;have s:=J x;rw[L,V]at s;obtain⟨b,st,hρ,D,l,hroom⟩:=s;have r:=Ay ht;obtain⟨i,u,hi,B,A⟩:=CB f;have g:=C3 c u;rw[<-A]at g;have a:u.cells.size=z:=by have:=(g.cells f).1.length;simp at this;omega
 obtain⟨zr,M⟩:=Gy g f k;have d:=EX u.cells (by omega) k;have p:((List.replicate k u.cells.toList).flatten).length=k*z:=by rw[List.length_flatten,List.map_replicate,List.sum_replicate_nat];simp[a]
 have hmul:k*z<=cap*z:=YR _ l;obtain⟨w',q,G,X⟩:=W6 (P:=P) (off:=off) R I hρ v (by rw[p];omega) M;by_cases m:k=0;subst m;have h0:(Builtin.clear_ #[t] o.type #[.slice (some ⟨b,st+off,none⟩) 0 cap]).run P c.w=.ok (.tuple #[]) c.w:=by simp[Builtin.clear_,AN r]
 refine⟨.tuple #[],.tup [],h,n,c,BY (P:=P) (ev:=ev) y _ _ _ λH=>?_,by simp[V,VL],R,F,vm n c,C⟩;simp only[builtin,Sem.run_bind,List.map_toArray,qr,Yo,D,h0,Result.andThen_ok,Sem.run_pure];have h0:(Builtin.clear_ #[t] o.type #[.slice (some ⟨b,st+off,none⟩) k cap]).run P c.w=.ok (.tuple #[]) w':=by
  simp only[Builtin.clear_];cases k with
  | zero=>exact absurd rfl m
  | succ n=>
   simp[AN r,zeroValue,typeInfo,hi,B,Builtin.zeroCells]at *;simp[d,q]
 refine⟨.tuple #[],.tup [],h,n,{ c with w:=w' },BY (P:=P) (ev:=ev) y _ _ _ λH=>?_,by simp[V,VL],G,F,⟨X,qa _,λ_ _=>rfl⟩,C⟩;simp only[builtin,Sem.run_bind,List.map_toArray,qr,Yo,D,h0,Result.andThen_ok,Sem.run_pure]
theorem VH{isS:Bool}{len cap l m u:Nat}{i j k:IntKind}(h1:l<=m)(h2:m<=u)(h3:u<=cap)(w:World):(Instr.sliceBounds isS len cap (some (.int i l)) (some (.int j m)) (some (.int k u))).run P w=.ok (l,m,u) w:=by
 have hb:=λ(code:BoundsCode)(i:IntKind)=>EA (P:=P) (i:=i) (n:=(l:Int)) (y:=m) (code:=code) (by omega) (by omega) w;have F8:=λ(code:BoundsCode)(i:IntKind)=>EA (P:=P) (i:=i) (n:=(m:Int)) (y:=u) (code:=code) (by omega) (by omega) w;have KL:=λ(code:BoundsCode)(i:IntKind)=>EA (P:=P) (i:=i) (n:=(u:Int)) (y:=cap) (code:=code) (by omega) (by omega) w;simp only[Int.toNat_natCast]at hb F8 KL;simp[Instr.sliceBounds,hb,F8,KL]
theorem Ru{t e:TypeId}{x lo hi mx:Operand}{j off z len cap l m u:Nat}(B:o.op=.slice t x (some lo) (some hi) (some mx))(ht:BA P t=some e)(I:Br P e=z)(hz0:z≠0)(H:evs x=.slc j off z len cap)
 (s:evs lo=.int .i64 l) (q:evs hi=.int .i64 m) (v:evs mx=.int .i64 u) (h1:l<=m) (h2:m<=u) (A:u<=cap) (h4:l<u)
 (D:K (.slc j (off+l*z) z (m-l) (u-l)) h n):DS E P evs o h n K:=by
 refine⟨by rw[B];simp,λc ev _ _ R F p=>?_⟩;have a:=p x;rw[H,V]at a;obtain⟨b,st,hρ,G,hcap,hroom⟩:=a;obtain⟨J,r,y⟩:=Dy (P:=P) (e:=e) (by omega);have d:=p lo;have f:=p hi;have g:=p mx;rw[s]at d;rw[q]at f;rw[v]at g;have d:=DF d;have f:=DF f;have g:=DF g;have C:=FO (P:=P) (Ay ht) ⟨J,r,y.symm.trans I⟩ (some ⟨b,st+off,none⟩) len cap l m u (VH (isS:=true) (len:=len) (i:=.i64) (j:=.i64) (k:=.i64) h1 h2 A c.w);rw[<-G,<-d,<-f,<-g]at C;refine⟨_,.slc j (off+l*z) z (m-l) (u-l),h,n,c,by simp[execOp,B,C];rfl,?_,R,F,vm n c,D⟩;rw[V];refine⟨b,st,hρ,?_,by omega,?_⟩;rw[if_neg (by omega)];simp[FY,qu];have:l*z+(u-l)*z=u*z:=by rw[<-UI];congr 1;omega
 have:u*z<=cap*z:=YR _ A;omega
theorem QP{t e:TypeId}{x lo:Operand}{j off z len:Nat}(k:o.op=.slice t x (some lo) none none)(ht:BA P t=some e)(s:Br P e=z)(hz0:z≠0)(r:evs x=.slc j off z len len)
 (g:evs lo=.int .i64 len) (p:K (.slc j off z 0 0) h n):DS E P evs o h n K:=by
 refine⟨by rw[k];simp,λc ev _ _ R F m=>?_⟩;have a:=m x;rw[r,V]at a;obtain⟨b,st,hρ,q,hcap,hroom⟩:=a;obtain⟨u,f,i⟩:=Dy (P:=P) (e:=e) (by omega);have d:=m lo;rw[g]at d;have d:=DF d;have l:=FO (P:=P) (Ay ht) ⟨u,f,i.symm.trans s⟩ (some ⟨b,st+off,none⟩) len len len len len (MR (isS:=true) (lo:=some (.int .i64 len)) (hi:=none) (.inr ⟨.i64,rfl⟩) (.inl ⟨rfl,rfl⟩) (qa _) (qa _) c.w);rw[<-q,<-d]at l;refine⟨_,.slc j off z 0 0,h,n,c,by simp[execOp,k,l];rfl,?_,R,F,vm n c,p⟩;rw[V];exact⟨b,st,hρ,by simp,by omega,by omega⟩
end
def dN:Tr:=.pure 0<|.pure 1<|.pure 3<|.pure 4<|.two 2 5 (.one 5<|.one 6<|.pure 7 .nil) (.one 2<|.one 6<|.pure 7 .nil)
theorem ic(l:List Bi)(hl:l.length<=1048576)(i:Nat)(hi:i<l.length){H:Hp}{n o cap:Nat}(e:l.length<=cap)(L:H o=some (.cells (Bm l))):
 BL prog 310 [.slc o 0 2 l.length cap,AA i,AA ((i+1:Nat):Int)] H n (λv h' n'=>v=AU (l.eraseIdx i)/\h'=h_ H o none/\n'=n):=by
 refine DO func310 rfl λA=>?_;have F:=A.lt;have ht:BA prog 23=some 193:=by simp[go_sem]
 have f:Br prog 193=2:=by simp[go_sem]
 have J:(BK prog 193).B=true:=by simp[go_sem]
 have K:(BK prog 193).cells.length=2:=by simp[go_sem]
 have g:(BA prog 23).isSome=true:=by rw[ht];rfl
 have hC:=Ez l;have hon:=F o _ L;have I:(l.eraseIdx i).length=l.length-1:=List.length_eraseIdx_of_lt hi;have N:Bm (l.eraseIdx i)=(Bm l).take (i*2)++(Bm l).drop ((i+1)*2):=by
  rw[Jd l i (by omega),Lp l (i+1) (by omega),<-N9,List.eraseIdx_eq_take_drop_succ]
 have hEl:=Ez (l.eraseIdx i);refine CG 0 [(0,.slc o 0 2 l.length cap),(1,AA i),(2,AA ((i+1:Nat):Int))] H n (AJ ?_) (λm b=>?_);simp[go_sem,IO,-Int.natCast_add];subst b;refine CG 0 [(0,.slc o 0 2 l.length cap),(1,AA i),(2,AA ((i+1:Nat):Int))] H n (AJ ?_) (λm b=>?_);simp[go_sem,-Int.natCast_add];refine I9 (j:=o) (off:=0) (z:=2) (len:=l.length) (cap:=cap) rfl g (by simp[go_sem]) ?_;simp[go_sem,-Int.natCast_add];refine Ru (j:=o) (off:=0) (z:=2) (len:=l.length) (cap:=cap) (l:=i) (m:=i+1) (u:=l.length) rfl ht f (by omega) (by simp[go_sem]) (by simp[go_sem]) (by simp[go_sem]) (by simp[go_sem]) (by omega) (by omega) e hi ?_;simp[go_sem,IO,-Int.natCast_add];subst b;refine CG 0 [(0,.slc o 0 2 l.length cap),(1,AA i),(2,AA ((i+1:Nat):Int))] H n (AJ ?_) (λm b=>?_);have:((i:Int)==((i+1:Nat):Int))=false:=by simp;omega
 simp[go_sem,IO,this,-Int.natCast_add];subst b;refine CG 0 [(0,.slc o 0 2 l.length cap),(1,AA i),(2,AA ((i+1:Nat):Int)),(7,AA l.length)] H n (AJ ?_) (λm b=>?_);simp[go_sem,-Int.natCast_add];refine I9 (j:=o) (off:=0) (z:=2) (len:=l.length) (cap:=cap) rfl g (by simp[go_sem]) ?_;simp[go_sem,IO,-Int.natCast_add];subst b;obtain⟨a,d,hb,O,s⟩:∃a d,a+(l.length-(i+1))*2<=(Bm l).length/\((Bm l).drop a).take ((l.length-(i+1))*2)=(Bm l).drop ((i+1)*2)/\∀{evs:Operand->SV} {x lo:Operand} {t:Oper} {Q:SV->Hp->Nat->Prop},t.op=.slice 23 x (some lo) none none->evs x=.slc o 0 2 l.length cap->evs lo=AA ((i+1:Nat):Int)->Q (.slc o a 2 (l.length-(i+1)) d) H n->DS (CC.plain.call false 0) prog evs t H n Q:=by
  by_cases c:i+1=l.length/\cap=l.length;obtain⟨c1,M⟩:=c;refine⟨0,0,by omega,?_,λh1 h2 w q=>?_⟩;rw[c1,vU,Nat.zero_mul,vE];exact(UX (by omega)).symm;rw[c1]at w q;rw[vU]at q;exact QP h1 ht f (by omega) (M▸h2) w q;refine⟨(i+1)*2,cap-(i+1),by omega,qv (by rw[vf];omega),λh1 h2 w q=>?_⟩;exact Bl (l:=i+1) (m:=l.length) h1 ht f (by omega) h2 (.inr ⟨_,rfl,w⟩) (.inl ⟨rfl,rfl⟩) (by omega) e (by omega) (by rw[qU];exact q)
 have B:∀{evs:Operand->SV} {x y:Operand} {t:Oper} {Q:SV->Hp->Nat->Prop},t.op=.call { callee:=.builtin .append,args:=#[x,y],argTypes:=#[23,23] }->evs x=.slc o 0 2 i cap->evs y=.slc o a 2 (l.length-(i+1)) d->Q (.slc o 0 2 (l.length-1) cap) (h_ H o (some (.cells (Bm (l.eraseIdx i))))) n->DS (CC.plain.call false 0) prog evs t H n Q:=λA R S P=>
  VK A ht ht f (by omega) R S L (by omega) hb (by omega) (by
   rw[qU,O,<-N,show i+(l.length-(i+1))=l.length-1 by omega];exact P)
 obtain⟨G,D⟩:∃G:Hp,G=h_ H o (some (.cells (Bm (l.eraseIdx i)))):=⟨_,rfl⟩
 rw[<-D]at B;have r:G o=some (.cells (Bm (l.eraseIdx i))):=by rw[D,AD]
 refine AX 0 (α:=Unit) (λ_=>[(0,.slc o 0 2 (l.length-1) cap),(7,AA l.length)]) (λ_=>G) (λ_ m=>n=m) (CK dN rfl (by kernel_rfl) (by kernel_rfl) ?_) (λ_ m b=>?_);simp[go_sem,dN,-Int.natCast_add];refine⟨?_,?_⟩;refine Bl (j:=o) (off:=0) (z:=2) (len:=l.length) (cap:=cap) (l:=0) (m:=i) rfl ht f (by omega) (by simp[go_sem]) (.inl ⟨rfl,rfl⟩) (.inr ⟨_,rfl,by simp[go_sem]⟩) (by omega) (by omega) (by omega) ?_;simp[go_sem,-Int.natCast_add];refine s rfl (by simp[go_sem]) (by simp[go_sem]) ?_;simp[go_sem,-Int.natCast_add];refine B rfl (by simp[go_sem]) (by simp[go_sem]) ?_;simp[go_sem,IO];refine s rfl (by simp[go_sem]) (by simp[go_sem]) ?_;simp[go_sem,-Int.natCast_add];refine Bl (j:=o) (off:=0) (z:=2) (len:=l.length) (cap:=cap) (l:=0) (m:=i) rfl ht f (by omega) (by simp[go_sem]) (.inl ⟨rfl,rfl⟩) (.inr ⟨_,rfl,by simp[go_sem]⟩) (by omega) (by omega) (by omega) ?_;simp[go_sem,-Int.natCast_add];refine B rfl (by simp[go_sem]) (by simp[go_sem]) ?_;simp[go_sem,IO];subst b;refine CG 0 [(0,.slc o 0 2 (l.length-1) cap)] G n (AJ ?_) (λm b=>?_);simp[go_sem];refine I9 (j:=o) (off:=0) (z:=2) (len:=l.length-1) (cap:=cap) rfl g (by simp[go_sem]) ?_;simp[go_sem];refine Bl (j:=o) (off:=0) (z:=2) (len:=l.length-1) (cap:=cap) (l:=l.length-1) (m:=l.length) rfl ht f (by omega) (by simp[go_sem]) (.inr ⟨_,rfl,by simp[go_sem]⟩) (.inr ⟨_,rfl,by simp[go_sem]⟩) (by omega) (by omega) (by omega) ?_;simp[go_sem];refine Tb (j:=o) (off:=(l.length-1)*2) (z:=2) (k:=l.length-(l.length-1)) (cap:=cap-(l.length-1)) rfl ht f (by omega) J K (by simp[go_sem]) r (by omega) ?_;simp[go_sem,IO];subst b;refine CG 1 [(6,.sl o 0 2 (l.length-1) false)] G n ?_ (λm b=>?_);refine AJ ?_;simp[go_sem,Fz];subst b;refine AJ ?_;simp[go_sem];refine .inr ⟨1,AU (l.eraseIdx i),h_ H o none,?_,Bi.E.i _ _ _ _,λj y p=>?_,rfl,rfl,rfl⟩;have:=Cz (h':=G) (h:=h_ H o none) (k:=0) (z:=2) (es:=(l.eraseIdx i).map Bi.e) (full:=false) (full':=false) (o:=o) (AD _ _ _) (by simp) r (Bi.E.size _);rw[qf,I]at this;exact this;by_cases C:j=o;subst C;rw[AD]at p;cases p;rw[AE _ _ C]at p;exact⟨by rw[D,AE _ _ C];exact p,A j y p⟩
theorem ge(l:List Bi)(hl:l.length<=1048576)(k:Int):PC 279 [AU l,AA k] (AU (Jc l k)):=by
 intro h n;refine DO func279 rfl λr=>?_;have f:=r.lt;obtain⟨i,b,d⟩:∃i b,QH l k=(i,b):=⟨_,_,rfl⟩
 have c:=Zv l hl k;have p:b=true->i<l.length:=λe=>by have:=TR (l:=l) (k:=k);rw[d]at this;exact this e
 unfold Jc;rw[d]at c ⊢;dsimp only at c ⊢;refine CW 0 [(0,AU l),(1,AA k)] h n (AJ ?_) (λm s=>?_);simp[go_sem,IO];refine CW 0 [(0,AU l),(5,AA i),(6,.bool b)] h n (AJ ?_) (λm s=>?_);simp[go_sem];refine qz c ?_;simp[go_sem,IO,s];cases b with
 | false=>
  rw[if_neg (by decide)];refine AJ ?_;simp[go_sem];refine qz (bn l hl) ?_;simp[go_sem];exact As r (Bi.E.i _ _ _ _) rfl
 | true=>
  rw[if_pos rfl];have hi:=p rfl;have w1:=wS i (by omega);refine AX 0 (α:=Lx) (λq=>[(5,AA i),(6,.bool true),(7,.sl q.o 0 2 l.length q.full)]) (λq=>h_ h q.o (some (.cells (Bm l)))) (λq m'=>n<=q.o/\q.o<m') (AJ ?_) (λq m' v=>?_);simp[go_sem];refine wq (c9 l hl) ?_;rintro w t m' ⟨w1,w2,w3⟩;rcases w3 with⟨w3,_⟩|⟨o,full,h1,h2,rfl,u⟩
  have:l=[]:=by simpa using w3
  rw[this]at hi;simp at hi;simp[go_sem,IO];refine⟨⟨o,full⟩,⟨by show n<=o;omega,h2⟩,IO,λj y g=>?_⟩;simp only[h_]at g;split at g;rename_i c;rw[c,<-g];exact u;exact w2 j y g;obtain⟨o,full⟩:=q;dsimp only at v ⊢;refine AJ ?_;simp[go_sem,w1,-Int.natCast_add];refine Ap.cap λcap a=>?_;refine qP (ic l hl i hi a (AD _ _ _)) ?_;rintro w t m2 ⟨rfl,rfl,rfl⟩;simp[go_sem];refine A3 r (λj y g=>?_) rfl (Bi.E.i _ _ _ _);have:=f j y g;rw[AE _ _ (by omega),AE _ _ (by omega)];exact g
theorem iV(l:List Bi)(hl:l.length<=1048576)(a b c d:SV)(k v:Int)(s:Bool){h:Hp}{n:Nat}:BL prog 234 [.agg [AU l,a,b,c,d],AA k,.agg [AA v,.bool s]] h n (λw h' n'=>n<=n'/\(∀o y,h o=some y->h' o=some y)/\(∀o,o<n->h' o=h o)/\w=.agg [AU (Hf l k (v,s)),a,b,c,d]):=by
 refine DO func234 rfl λC=>?_;have g:=C.lt;obtain⟨G,f⟩:∃G:List Bi->List SV->Hp,∀q z,G q z=h_ (h_ h n (some (.cells [AU q,a,b,c,d]))) (n+2) (some (.cells z)):=⟨_,λ_ _=>rfl⟩
 have i:∀q z,G q z n=some (.cells [AU q,a,b,c,d]):=λq z=>by rw[f,AE _ _ (by omega),AD]
 have A:∀q z,G q z (n+2)=some (.cells z):=λq z=>by rw[f,AD]
 have x:∀q z t,h_ (G q z) n (some (.cells [AU t,a,b,c,d]))=G t z:=λq z t=>by
  rw[f,f];funext j;simp only[h_];grind
 have B:∀q z u,h_ (G q z) (n+2) (some (.cells u))=G q u:=λq z u=>by rw[f,f,Ah]
 obtain⟨z0,p⟩:∃z0:List SV,z0=[.i 0 [] true,AA 0,AA 0,.i 0 [] true,.i 0 [] true]:=⟨_,rfl⟩
 refine By 1 [(1,AA k),(3,.ptr n 0),(5,.q [AA v,.bool s]),(6,.ptr (n+2) 0)] (G l z0) (λm=>n+2<m) ?_ (λm r=>?_);rw[f,p];simp[go_sem,IO,qu];refine⟨AZ (by simp only[h_];rw[if_neg (by omega),if_neg (by omega)];exact AS g (by omega)) (by simp[h_]),λj y=>?_⟩;have:=g j y;simp only[h_];grind;refine Bg 0 [(3,.ptr n 0),(6,.ptr (n+2) 0)] (G (Hf l k (v,s)) z0) (λm=>n+2<m) (AJ ?_) (λm r=>?_);cases s with
 | true=>
  have e:Hf l k (v,true)=PX l k v:=rfl;rw[e];simp[go_sem,i];refine qz (gd l hl k v) ?_;generalize PX l k v=q;simp[go_sem,i,x,IO,r]
 | false=>
  have e:Hf l k (v,false)=Jc l k:=rfl;rw[e];simp[go_sem,i];refine qz (ge l hl k) ?_;generalize Jc l k=q;simp[go_sem,i,x,IO,r]
 refine AJ ?_;generalize Hf l k (v,s)=q;subst p;simp[go_sem,i,A,B,SV.cells];refine .inl ⟨by omega,λo y e=>?_,λo e=>?_,rfl⟩;have:=g o y e;rw[f,AE _ _ (by omega),AE _ _ (by omega)];exact e;rw[f,AE _ _ (by omega),AE _ _ (by omega)]
def I7(y:AM)(l:List AM):List AM:=l.takeWhile λz=>decide (z.key=y.key)
theorem Lh:∀(f:Nat)(l:List AM),l.length<=f->C8 f l=C8 l.length l
 | 0,[],_=>rfl
 | 0,y::l,h=>by simp at h
 | f+1,[],_=>rfl
 | f+1,y::l,h=>by
  have h1:(l.dropWhile λz=>decide (z.key=y.key)).length<=l.length:=(List.dropWhile_sublist _).length_le;have h2:l.length<=f:=by simpa using h
  rw[qJ,C8,C8,Lh f _ (by omega),Lh l.length _ h1]
theorem Ui(y:AM):∀l:List AM,l.drop (I7 y l).length=l.dropWhile λz=>decide (z.key=y.key)
 | []=>rfl
 | x::l=>by
  unfold I7;rw[List.takeWhile_cons,List.dropWhile_cons];split;rw[qJ,vi];exact Ui y l;rfl
theorem Uj(y:AM):∀l:List AM,l.take (I7 y l).length=I7 y l
 | []=>rfl
 | x::l=>by
  have a:=Uj y l;unfold I7 at a ⊢;rw[List.takeWhile_cons];split;rw[qJ,YP,a];rfl
theorem Zb(y:AM):∀(l:List AM)(i:Nat)(h:i<l.length),(i<(I7 y l).length->(l[i]).key=y.key)/\(i=(I7 y l).length->(l[i]).key≠y.key)
 | [],i,h=>by simp at h
 | x::l,i,h=>by
  unfold I7;rw[List.takeWhile_cons];by_cases c:x.key=y.key;rw[if_pos (by simpa using c)];cases i with
  | zero=>exact⟨λ_=>c,λe=>by simp at e⟩
  | succ i=>
   have:=Zb y l i (by simpa using h);refine⟨λg=>this.1 (by simpa[I7]using g),λg=>this.2 (by simpa[I7]using g)⟩
  rw[if_neg (by simpa using c)];refine⟨λg=>by simp at g,λg=>?_⟩;have:i=0:=by simpa using g
  subst this;exact c
def Wk(g:List AM):List SV:=[AA (g.headD ⟨0,0,0,false⟩).key,.i 4 (g.map AM.e) false]
def Xa:Tr:=.pure 0<|.pure 1<|.pure 2<|.pure 3<|.pure 4<|.pure 5<|.pure 6<|.pure 7<|.pure 8<|.pure 9<|.pure 10<|.pure 11<|.pure 12<|.pure 13<|.pure 14<|.pure 15 .nil
def dO:Tr:=.pure 0<|.pure 1<|.pure 2<|.pure 3<|.pure 4<|.pure 5<|.pure 6<|.pure 7<|.one 8<|.pure 9 .nil
section
variable{E:CC}{yl:Nat}{J:Nat->(Nat->Prop)->Hp->Nat->Prop}
theorem gY(B:AF)(hL:B.Z.length<=1048576)(Y:YJ E yl Wk (C8 B.Z.length B.Z) J λ_ _ _=>False)(D:Nat->Prop)(h:Hp)(m:Nat)(hJ:J 0 D h m):
 Ap E prog 276 [.fn (.yield yl) [] [],.q B.g] h m (λ_ h' m'=>HN (J (C8 B.Z.length B.Z).length) (λ_ _ _=>False) D h m (.bool true) h' m'):=by
 refine DO func276 rfl λho=>?_;obtain⟨L,G⟩:∃L,L=B.Z:=⟨_,rfl⟩
 rw[<-G]at hL Y ⊢;have M0:Ju J D h m [] 0 D h m:=⟨qa _,hJ,by simp,λo g=>.inl g,λ_ _ _=>rfl⟩
 refine B5 0 [(0,.fn (.yield yl) [] []),(3,.i 4 (L.map AM.e) false)] h m ?_ (λm' d=>?_);rw[G];simp[go_sem,AF.g,IO];subst d;refine AY ?_
 . refine BT 0 (α:=Nat×Nat×(Nat->Prop)×Hp) (λq=>[(0,.fn (.yield yl) [] []),(3,.i 4 ((L.drop q.1).map AM.e) false)]) (λq=>q.2.2.2) (λq m'=>q.1<=L.length/\q.2.1<=(C8 L.length L).length/\(C8 L.length L).drop q.2.1=C8 (L.drop q.1).length (L.drop q.1)/\Ju J D h m [] q.2.1 q.2.2.1 q.2.2.2 m') (λq=>L.length-q.1) (0,0,D,h) ⟨qg _,qg _,by simp,M0⟩ ?_ AC ?_;simp[go_sem,Ao,IO];rintro⟨i,k,D2,h2⟩ m2 ⟨hi,K,F,T⟩;dsimp only at hi K F T ⊢;obtain⟨a,C⟩:∃a,a=L.drop i:=⟨_,rfl⟩
   have O:a.length=L.length-i:=by rw[C,vf]
   rw[<-C]at F ⊢;by_cases u:a=[]
   . have s:(C8 L.length L).drop k=[]:=by rw[F,u];rfl
     have hk2:(C8 L.length L).length=k:=Nat.le_antisymm (List.drop_eq_nil_iff.1 s) K;refine AJ ?_;simp[go_sem,u];exact .inl (by rw[hk2];exact T.done)
   obtain⟨y,c,b⟩:=List.exists_cons_of_ne_nil u;have hll:a.length=c.length+1:=by rw[b];rfl
   have h0:a[0]'(by omega)=y:=by simp[b]
   obtain⟨t,ht⟩:∃t,t=(I7 y c).length:=⟨_,rfl⟩
   have htr:t<=c.length:=by rw[ht];exact(List.takeWhile_sublist _).length_le
   have I:∀n (h:n<a.length),1<=n->(n<t+1->(a[n]).key=y.key)/\(n=t+1->(a[n]).key≠y.key):=λn h h1=>by
    have e:a[n]=c[n-1]'(by omega):=by
     obtain⟨k,rfl⟩:∃k,n=k+1:=⟨n-1,by omega⟩
     simp[b]
    rw[e];have:=Zb y c (n-1) (by omega);exact⟨λg=>this.1 (by omega),λg=>this.2 (by omega)⟩
   have w:C8 a.length a=(a.take (t+1))::C8 (a.drop (t+1)).length (a.drop (t+1)):=by
    have hdl:(c.dropWhile λz=>decide (z.key=y.key)).length<=c.length:=(List.dropWhile_sublist _).length_le;rw[b,qJ,C8,YP,vi,ht,Uj,Ui,Lh _ _ hdl];rfl
   have hx:(C8 L.length L)[k]? = some (a.take (t+1)):=by
    have:=congrArg (·[0]?) F;rw[w]at this;simpa using this
   have M:k+1<=(C8 L.length L).length:=(qh.1 hx).1;have Z:(C8 L.length L).drop (k+1)=C8 (a.drop (t+1)).length (a.drop (t+1)):=by
    rw[<-vF,F,w];rfl
   have R:=λhb mb g=>Y.step k _ D2 hb mb hx g;have hge:Wk (a.take (t+1))=[AA y.key,.i 4 ((a.take (t+1)).map AM.e) false]:=by unfold Wk;rw[b];rfl
   rw[hge]at R;have Q:(0:Int)<a.length:=by omega
   have l:0<a.length:=by omega
   obtain⟨r,H⟩:∃r:SV,r=.fn (.yield yl) [] []:=⟨_,rfl⟩
   rw[<-H];refine CG 0 [(0,r),(3,.i 4 (a.map AM.e) false)] h2 m2 (AJ ?_) (λm' d=>?_);simp[go_sem,IO,u];subst d;refine AY ?_;refine B5 0 [(0,r),(3,.i 4 (a.map AM.e) false),(4,AA (1:Nat))] h2 m2 ?_ (λm' d=>?_);simp[go_sem,IO];subst d;refine AX 0 (α:=Unit) (λ_=>[(0,r),(3,.i 4 (a.map AM.e) false),(4,AA (t+1:Nat))]) (λ_=>h2) (λ_ m'=>m2=m') (AY ?_) (λ_ m' d=>?_);refine BT 0 (α:=Nat) (λn=>[(0,r),(3,.i 4 (a.map AM.e) false),(4,AA n)]) (λ_=>h2) (λn m'=>1<=n/\n<=t+1/\m2=m') (λn=>t+1-n) 1 ⟨qa _,by omega,rfl⟩ ?_ AC ?_;simp[go_sem,Ao,IO];rintro n m' ⟨P,hn2,d⟩;subst d;by_cases hnt:n<t+1;have p:n<a.length:=by omega
   have f:(n:Int)<a.length:=by omega
   obtain⟨z,S⟩:∃z,a[n]=z:=⟨_,rfl⟩
   have s:=(I n p P).1 hnt;rw[S]at s;have w1:=wS n (by omega);refine CG 0 [(0,r),(3,.i 4 (a.map AM.e) false),(4,AA n)] h2 m2 ?_ (λm' d=>?_);refine AX 0 (α:=Unit) (λ_=>[(0,r),(3,.i 4 (a.map AM.e) false),(4,AA n),(26,.bool true)]) (λ_=>h2) (λ_ m'=>m2=m') (CK Xa rfl (by kernel_rfl) (by kernel_rfl) ?_) (λ_ m' d=>?_);simp[go_sem,Xa,p,f,S,h0,l,AM.e,s,IO];subst d;refine AJ ?_;simp[go_sem,IO];subst d;refine AJ ?_;simp[go_sem,IO,w1,-Int.natCast_add];exact⟨n+1,by omega,⟨by omega,by omega⟩,rfl⟩;have A:n=t+1:=by omega
   refine Bg 0 [] h2 (λ_=>False) ?_ (λ_ d=>d.elim);refine AX 0 (α:=Unit) (λ_=>[(0,r),(3,.i 4 (a.map AM.e) false),(4,AA n),(26,.bool false)]) (λ_=>h2) (λ_ m'=>m2=m') (CK Xa rfl (by kernel_rfl) (by kernel_rfl) ?_) (λ_ m' d=>?_);by_cases p:n<a.length;have f:(n:Int)<a.length:=by omega
   obtain⟨z,S⟩:∃z,a[n]=z:=⟨_,rfl⟩
   have s:=(I n p P).2 A;rw[S]at s;have s:(z.key==y.key)=false:=by simpa using s
   simp[go_sem,Xa,p,f,S,h0,l,AM.e,s,IO];have f:¬(n:Int)<a.length:=by omega
   simp[go_sem,Xa,f,IO];subst d;refine AJ ?_;simp[go_sem,IO,A];subst d;have N:t+1<=a.length:=by omega
   have x:((t+1:Nat):Int)<=a.length:=by omega
   refine AX 0 (α:=(Nat->Prop)×Hp) (λ_=>[(0,r),(3,.i 4 (a.map AM.e) false),(4,AA (t+1:Nat))]) (λq=>q.2) (λq m'=>Ju J D h m [] (k+1) q.1 q.2 m') ?_ (λq m3 U=>?_);refine AX 0 (α:=(Nat->Prop)×Hp) (λ_=>[(0,r),(3,.i 4 (a.map AM.e) false),(4,AA (t+1:Nat)),(38,.bool false)]) (λq=>q.2) (λq m'=>Ju J D h m [] (k+1) q.1 q.2 m') (CK dO rfl (by kernel_rfl) (by kernel_rfl) ?_) (λq m3 U=>?_);rw[H];simp[go_sem,dO,l,h0,AM.e,x,-Int.natCast_add,-List.map_take];have hy:=R _ _ T.j;rw[vp]at hy;refine FV.mono hy ?_;intro v X m3 W;rcases T.step (qa _) (λ_ _=>rfl) W with⟨rfl,V,M4⟩|⟨rfl,hX⟩
   simp[go_sem,IO,-Int.natCast_add];exact⟨V,X,M4,AC⟩;obtain⟨_,_,_,_,⟨g,_⟩|⟨_,g⟩⟩:=hX;cases g;exact g.elim;refine AJ ?_;simp[go_sem,IO,-Int.natCast_add];exact⟨q.1,q.2,U,AC⟩;obtain⟨V,X⟩:=q;dsimp only at U ⊢;refine AJ ?_;simp[go_sem,x,IO,-Int.natCast_add,-List.map_drop];have eL:L.drop (i+(t+1))=a.drop (t+1):=by rw[<-vF,<-C]
   have eN:L.length-(i+(t+1))=(a.drop (t+1)).length:=by rw[vf,O];omega
   have eM:List.drop (t+1) (List.take a.length (a.map AM.e))=(a.drop (t+1)).map AM.e:=by rw[qv (by simp),List.map_drop]
   refine⟨i+(t+1),by omega,k+1,V,X,⟨by omega,M,by rw[eL,eN];exact Z,U⟩,?_,AC⟩;rw[eL,eM];exact IO
end
theorem Vv{α:Type}(l:List α)(p:α->Bool):Jo (λi=>match l[i]? with|some x=>p x|none=>false) l.length=l.any p:=by
 unfold Jo;rcases Ei (λi=>match l[i]? with|some x=>p x|none=>false) l.length 0 with e|⟨i,_,h2,b,a⟩
 rw[e];symm;rw[show decide ((0:Int) ≤ -1)=false from rfl,List.any_eq_false];intro x c;obtain⟨i,hi,rfl⟩:=Kw c;have:=HT e i (qg _) hi;rw[qe hi]at this;dsimp only at this;rw[this];simp;rw[b,decide_eq_true (by omega)];symm;rw[qe h2]at a;exact vo.2 ⟨_,qi h2,a⟩
abbrev Pg(p:Int×Bool):SV:=.agg [AA p.1,.bool p.2]
def EW(acc:Int->Bool):List AM->Nat
 | []=>0
 | y::l=>if l.any (λz=>acc z.rev)then EW acc l+1 else if acc y.rev then 1 else 0
theorem RV(acc:Int->Bool):∀l:List AM,EW acc l<=l.length
 | []=>qa _
 | y::l=>by
  have:=RV acc l;rw[EW,qJ];split;omega;split<;>omega
theorem IK(acc:Int->Bool):∀l:List AM,Fe acc l=l.drop (EW acc l)
 | []=>rfl
 | y::l=>by
  rw[Fe,EW];split;rw[vi];exact IK acc l;split;rfl;rfl
theorem Ny(acc:Int->Bool)(x:AM):∀l:List AM,EW acc (l++[x])=if acc x.rev then l.length+1 else EW acc l
 | []=>by
  rw[qE,EW,EW,if_neg (by simp)];rfl
 | y::l=>by
  rw[qx,EW,EW,Ny acc x l,List.any_append];by_cases c:acc x.rev=true;simp[c];have a:acc x.rev=false:=by simpa using c
  simp[a]
def Mi(g:List AM)(p:Int×Bool):List (Int×Bool):=g.map (λy=>(y.before,y.had))++[p]
theorem XV(g:List AM)(p:Int×Bool)(j:Nat)(h:j<=g.length):(Mi g p)[j]? = some (KZ p (g.drop j)):=by
 unfold Mi;by_cases c:j<g.length;rw[qZ (by rw[qf];exact c),qX,qe c,qQ c];rfl;have:j=g.length:=by omega
 subst this;rw[qT (by rw[qf];exact qa _),qf,vU,List.drop_length];rfl
theorem SB(g:List AM)(p:Int×Bool):(Mi g p).length=g.length+1:=by unfold Mi;rw[qq,qf];rfl
structure Tt(rej:Int->Bool)(p:Int×Bool)(g:List AM)(L0:List AM)(R:List AM×(Int×Bool))(k:Nat)(L:List AM)(now:Int×Bool):Prop where
 lay:L++(GZ rej p (g.drop k) now).1=L0++R.1
 st:(GZ rej p (g.drop k) now).2=R.2
theorem Tt.start(acc rej:Int->Bool)(p:Int×Bool)(g a:List AM):Tt rej p g a (Du acc rej p g) (EW acc g) a (KZ p (g.drop (EW acc g))):=by
 refine⟨?_,?_⟩<;>rw[Du,IK]
theorem Tt.skip{rej:Int->Bool}{p:Int×Bool}{g c:List AM}{R:List AM×(Int×Bool)}{k:Nat}{L:List AM}{now:Int×Bool}(D:Tt rej p g c R k L now)(d:k<g.length)(h:rej g[k].rev=true):Tt rej p g c R (k+1) L now:=by
 obtain⟨a,b⟩:=D;rw[qQ d,GZ,if_pos h]at a b;exact⟨a,b⟩
theorem Tt.take{rej:Int->Bool}{p:Int×Bool}{g c:List AM}{R:List AM×(Int×Bool)}{k:Nat}{L:List AM}{now:Int×Bool}(D:Tt rej p g c R k L now)(d:k<g.length)(h:rej g[k].rev=false):
 Tt rej p g c R (k+1) (L++[⟨g[k].rev,g[k].key,now.1,now.2⟩]) (KZ p (g.drop (k+1))):=by
 obtain⟨a,b⟩:=D;rw[qQ d,GZ,if_neg (by rw[h];decide)]at a b;exact⟨by rw[qj];exact a,b⟩
theorem Tt.done{rej:Int->Bool}{p:Int×Bool}{g c:List AM}{R:List AM×(Int×Bool)}{L:List AM}{now:Int×Bool}(D:Tt rej p g c R g.length L now):L=c++R.1/\now=R.2:=by
 obtain⟨a,b⟩:=D;rw[List.drop_length,GZ]at a b;exact⟨by simpa using a,b⟩
theorem KJ:∀(f:Nat)(l:List AM),(C8 f l).length<=l.length
 | 0,_=>by simp[C8]
 | _+1,[]=>by simp[C8]
 | f+1,y::l=>by
  have h1:(l.dropWhile λz=>decide (z.key=y.key)).length<=l.length:=(List.dropWhile_sublist _).length_le;have:=KJ f (l.dropWhile λz=>decide (z.key=y.key));rw[C8,qJ,qJ];omega
theorem Lg:∀(f:Nat)(l:List AM),(C8 f l).flatten.length<=l.length
 | 0,_=>by simp[C8]
 | _+1,[]=>by simp[C8]
 | f+1,y::l=>by
  have h0:=List.takeWhile_append_dropWhile (p:=λz:AM=>decide (z.key=y.key)) (l:=l);have h1:(l.takeWhile λz=>decide (z.key=y.key)).length+(l.dropWhile λz=>decide (z.key=y.key)).length=l.length:=by rw[<-qq,h0]
  have:=Lg f (l.dropWhile λz=>decide (z.key=y.key));rw[C8,List.flatten_cons,qq,qJ,qJ];omega
theorem La{rej:Int->Bool}{p:Int×Bool}:∀{l:List AM} {now:Int×Bool},(GZ rej p l now).1.length<=l.length
 | [],_=>qa _
 | y::l,now=>by
  rw[GZ];split;have:=La (rej:=rej) (p:=p) (l:=l) (now:=now);rw[qJ];omega;have:=La (rej:=rej) (p:=p) (l:=l) (now:=KZ p l);simp only[qJ];omega
theorem Sv{acc rej:Int->Bool}{p:Int×Bool}{l:List AM}:(Du acc rej p l).1.length<=l.length:=by
 rw[Du,IK];have:=La (rej:=rej) (p:=p) (l:=l.drop (EW acc l)) (now:=KZ p (l.drop (EW acc l)));rw[vf]at this;omega
theorem TS(l:List Bi)(k:Int)(s:Int×Bool):(Hf l k s).length<=l.length+1:=by
 unfold Hf;split;unfold PX;split;rw[List.length_set];omega;rw[RQ _ _ _ (XB l k)];exact qa _;unfold Jc;split;have:=List.length_eraseIdx_le l (QH l k).1;omega;omega
theorem Ih{acc rej:Int->Bool}{ps:List Bi}:∀(G:List (List AM))(o:List Bi×List AM),(G.foldl (CM acc rej ps) o).1.length<=o.1.length+G.length/\(G.foldl (CM acc rej ps) o).2.length<=o.2.length+G.flatten.length
 | [],_=>by simp
 | g :: G, o => by
  obtain⟨h1,h2⟩:=Ih (acc:=acc) (rej:=rej) (ps:=ps) G (CM acc rej ps o g);have e1:(CM acc rej ps o g).1.length<=o.1.length+1:=TS _ _ _;have e2:(CM acc rej ps o g).2.length<=o.2.length+g.length:=by
   show(o.2++(Du acc rej _ g).1).length<=_;have:=Sv (acc:=acc) (rej:=rej) (p:=Ix ps (g.headD ⟨0,0,0,false⟩).key) (l:=g);rw[qq];omega
  rw[J5,qJ,List.flatten_cons,qq];omega
structure Jp(h:AF):Prop where
 Q:h.Q.length+h.Z.length<=1048576
 Y:h.Y.length<=1048576
end Go.Proofs.YtgakninlhfkkmaaGreat.Sh
