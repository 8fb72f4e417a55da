/- A part of the proof (part 16 of 18). -/
import Derived.Test.YtgakninlhfkkmaaGreatN15
import Derived.Shelf.SlSortCmp.NoneTotal
namespace Go.Proofs.YtgakninlhfkkmaaGreat.Sh
open Go.Proofs.Tryz
open Proofs
set_option maxRecDepth 10000
set_option maxHeartbeats 4000000
def Xq(l:List Int):Prop:=∀i (h:i<l.length),(1<=l[i]/\l[i]<=1073741824)/\(0<i->l[i-1]<l[i])
theorem UV:Xq []:=λi h=>by simp at h
theorem RN(x:Int):Dw [] x=false:=by simp[Dw,Az,EI]
theorem fa{a b:SV}{A R:List Int}(r:IL a A)(s:IL b R)(F:Xq A)(aA:Xq R)(H:A=[]\/R=[]):PC 204 [.agg [a,b]] (AA 0):=by
 intro h n;refine DO func204 rfl λz=>?_;have p:=z.lt;refine Aa 1 [(1,.q [a,b])] h n ?_ (λm c=>?_)
 . cases r<;>cases s<;>simp[go_sem]
   all_goals exact⟨AZ (AS p (qa _)) (AD _ _ _),AL p AC⟩
 refine CW 0 [(1,.q [a,b])] h n ?_ (λm c=>?_)
 . have d:∀j y,h j=some y->j<m:=λj y e=>by have:=p j y e;omega
   refine Aa 1 [(1,.q [a,b]),(11,.i 1 [a,b] false),(12,AA 2),(13,AA 0)] h n ?_ (λm c=>?_)
   . cases r<;>cases s<;>simp[go_sem,IO]
     all_goals first|exact⟨by omega,Cz (es:=[.i 1 (A.map AA) false,.i 1 (R.map AA) false]) (AS d (qa _)) (by simp) (by rw[AD];simp[SV.cells]) (by simp[SV.B,SV.cells]),AL d AC⟩|exact⟨by omega,Cz (es:=[.i 1 (A.map AA) false,.i 0 [] true]) (AS d (qa _)) (by simp) (by rw[AD];simp[SV.cells]) (by simp[SV.B,SV.cells]),AL d AC⟩|exact⟨by omega,Cz (es:=[.i 0 [] true,.i 1 (R.map AA) false]) (AS d (qa _)) (by simp) (by rw[AD];simp[SV.cells]) (by simp[SV.B,SV.cells]),AL d AC⟩|exact⟨by omega,Cz (es:=[.i 0 [] true,.i 0 [] true]) (AS d (qa _)) (by simp) (by rw[AD];simp[SV.cells]) (by simp[SV.B,SV.cells]),AL d AC⟩
   refine AY (BT 0 (α:=Nat) (λi=>[(1,.q [a,b]),(11,.i 1 [a,b] false),(12,AA 2),(13,AA i)]) (λ_=>h) (λi m=>i<=2/\n<=m) (λi=>2-i) 0 ⟨qg _,c⟩ ?_ AC ?_);simp[go_sem,Ao,IO];rintro i m ⟨hi,c⟩;by_cases o:i<2;have w1:=wS i (by omega);have f:(i:Int)<2:=by omega
   obtain⟨v,l,hl,G,B⟩:∃v l,IL v l/\Xq l/\[a,b][i]? = some v:=by
    rcases(by omega:i=0\/i=1)with e|e<;>subst e;exact⟨a,A,r,F,rfl⟩;exact⟨b,R,s,aA,rfl⟩
   refine Aa 0 [(1,.q [a,b]),(11,.i 1 [a,b] false),(12,AA 2),(13,AA i),(14,.bool true)] h n ?_ (λm c=>?_);simp[go_sem,IO,c,f];refine Aa 0 [(1,.q [a,b]),(11,.i 1 [a,b] false),(12,AA 2),(13,AA i)] h n ?_ (λm c=>?_);simp[go_sem,IO,c];refine AX 0 (α:=Unit) (λ_=>[(1,.q [a,b]),(11,.i 1 [a,b] false),(12,AA 2),(13,AA i)]) (λ_=>h) (λ_ m=>n<=m) (AY ?_) (λ_ m c=>?_);have q:[a,b][i]'(by simpa using o)=v:=by rw[qe (by simpa using o)]at B;exact Option.some.inj B
   cases hl with
   | nil=>
    refine Aa 0 [(1,.q [a,b]),(11,.i 1 [a,b] false),(12,AA 2),(13,AA i),(4,.i 0 [] true)] h n ?_ (λm c=>?_);simp[go_sem,IO,c,o,q];refine Aa 0 [(1,.q [a,b]),(11,.i 1 [a,b] false),(12,AA 2),(13,AA i),(17,.i 0 [] true),(18,AA 0),(19,AA 0)] h n ?_ (λm c=>?_);simp[go_sem,IO,c];refine AY (BT 0 (α:=Unit) (λ_=>[(1,.q [a,b]),(11,.i 1 [a,b] false),(12,AA 2),(13,AA i),(17,.i 0 [] true),(18,AA 0),(19,AA 0)]) (λ_=>h) (λ_ m=>n<=m) (λ_=>0) () c ?_ AC ?_);simp[go_sem,Ao,IO];rintro _ m c;refine AJ ?_;simp[go_sem,IO,c]
   | some l hlen=>
    refine Aa 0 [(1,.q [a,b]),(11,.i 1 [a,b] false),(12,AA 2),(13,AA i),(4,.i 1 (l.map AA) false)] h n ?_ (λm c=>?_);simp[go_sem,IO,c,o,q];refine Aa 0 [(1,.q [a,b]),(11,.i 1 [a,b] false),(12,AA 2),(13,AA i),(4,.i 1 (l.map AA) false),(17,.i 1 (l.map AA) false),(18,AA l.length),(19,AA 0)] h n ?_ (λm c=>?_);simp[go_sem,IO,c];refine AY (BT 0 (α:=Nat) (λk=>[(1,.q [a,b]),(11,.i 1 [a,b] false),(12,AA 2),(13,AA i),(4,.i 1 (l.map AA) false),(17,.i 1 (l.map AA) false),(18,AA l.length),(19,AA k)]) (λ_=>h) (λk m=>k<=l.length/\n<=m) (λk=>l.length-k) 0 ⟨qg _,c⟩ ?_ AC ?_);simp[go_sem,Ao,IO];rintro k m ⟨hk,c⟩;refine AJ ?_;by_cases g:k<l.length;have w2:=wS k (by omega);obtain⟨⟨g1,g2⟩,g3⟩:=G k g;have b1:¬l[k]<1:=by omega
    have w:¬(1073741824:Int)<l[k]:=by omega
    by_cases u:0<k;have t:k-1<l.length:=by omega
    have w3:IntKind.i64.wrap ((k:Int)-1)=((k-1:Nat):Int):=by rw[DA]<;>omega
    have g4:=g3 u;have C:(l[k]==l[k-1])=false:=by rw[beq_eq_false_iff_ne];omega
    have D:¬l[k]<l[k-1]:=by omega
    have E:¬l[k]=l[k-1]:=by omega
    simp[go_sem,g,b1,w,u,t,w3,C,D,w2,IO,-Int.natCast_add];exact⟨k+1,by omega,⟨by omega,c⟩,rfl⟩;simp[go_sem,g,b1,w,u,w2,IO,-Int.natCast_add];exact⟨k+1,by omega,⟨by omega,c⟩,rfl⟩;simp[go_sem,g,IO,c]
   refine AJ ?_;simp[go_sem,w1,IO,-Int.natCast_add];exact⟨i+1,by omega,⟨by omega,c⟩,rfl⟩;refine AJ ?_;have f:¬(i:Int)<2:=by omega
   simp[go_sem,f,IO,c]
 refine AJ ?_;have e:Vw (Dw R) A=false:=Si λx c=>by
  rcases H with e|e;subst e;cases c;subst e;exact RN x
 simp[go_sem];refine(bu r 263 [] [.q [a,b]] (Dw R) (λx=>bv s x)).use ?_;simp[go_sem,e];exact As z rfl rfl
def C8:Nat->List AM->List (List AM)
 | 0,_=>[]
 | _,[]=>[]
 | f+1,y::l=>(y::l.takeWhile λz=>decide (z.key=y.key))::C8 f (l.dropWhile λz=>decide (z.key=y.key))
def Fe(acc:Int->Bool):List AM->List AM
 | []=>[]
 | y::l=>if l.any (λz=>acc z.rev)then Fe acc l else if acc y.rev then l else y::l
def KZ(p:Int×Bool):List AM->Int×Bool
 | []=>p
 | y::_=>(y.before,y.had)
def GZ(rej:Int->Bool)(p:Int×Bool):List AM->Int×Bool->List AM×(Int×Bool)
 | [],now=>([],now)
 | y::l,now=>if rej y.rev then GZ rej p l now else
  let r:=GZ rej p l (KZ p l)
  (⟨y.rev,y.key,now.1,now.2⟩::r.1,r.2)
def Du(acc rej:Int->Bool)(p:Int×Bool)(l:List AM):List AM×(Int×Bool):=GZ rej p (Fe acc l) (KZ p (Fe acc l))
def Jc(l:List Bi)(k:Int):List Bi:=if(QH l k).2=true then l.eraseIdx (QH l k).1 else l
def Hf(l:List Bi)(k:Int)(s:Int×Bool):List Bi:=if s.2=true then PX l k s.1 else Jc l k
def CM(acc rej:Int->Bool)(ps:List Bi)(o:List Bi×List AM)(g:List AM):List Bi×List AM:=
 let k:=(g.headD ⟨0,0,0,false⟩).key
 let r:=Du acc rej (Ix ps k) g
 (Hf o.1 k r.2,o.2++r.1)
def CE(acc rej:Int->Bool)(h:AF):Option AF:=
 if(decide (h.I≠0)&&rej h.I)||h.Y.any (λx=>acc x.rev)then none else
  let i:=decide (h.I≠0)&&acc h.I
  let o:=(C8 h.Z.length h.Z).foldl (CM acc rej h.Q) (h.Q,[])
  some { h with Q:=o.1,I:=if i then 0 else h.I,move:=if i then 0 else h.move,Y:=h.Y.filter (λx=>!rej x.rev),Z:=o.2 }
theorem Jv{α:Type}{p q:α->Bool}:∀{l:List α},(∀x∈l,p x=q x)->l.any p=l.any q
 | [],_=>rfl
 | x::l,h=>by rw[Wc,Wc,h x (qV ..),Jv λy a=>h y (Q9 _ a)]
def Qi(σ:Int->Int)(y:AM):AM:=⟨σ y.rev,y.key,y.before,y.had⟩
structure Jn(σ:Int->Int)(acc rej acc' rej':Int->Bool)(x:Int):Prop where
 a:acc' (σ x)=acc x
 r:rej' (σ x)=rej x
 n:acc x=false->rej x=false->σ x=x
section
variable{σ:Int->Int}{acc rej acc' rej':Int->Bool}
theorem Ug(p:Int×Bool)(l:List AM):KZ p (l.map (Qi σ))=KZ p l:=by cases l<;>rfl
theorem HW{y:AM}:∀{l:List AM},y∈Fe acc l->y∈l/\acc y.rev=false
 | [],h=>by cases h
 | x::l,h=>by
  rw[Fe]at h;by_cases c:l.any (λz=>acc z.rev)=true;rw[if_pos c]at h;obtain⟨h1,h2⟩:=HW h;exact⟨Q9 _ h1,h2⟩;rw[if_neg c]at h;have a:∀z∈l,acc z.rev=false:=λz b=>by
   cases g:acc z.rev with
   | false=>rfl
   | true=>exact absurd (vo.2 ⟨z,b,g⟩) c
  by_cases d:acc x.rev=true;rw[if_pos d]at h;exact⟨Q9 _ h,a y h⟩;rw[if_neg d]at h;refine⟨h,?_⟩;rcases qt.1 h with e|e;rw[e];simpa using d;exact a y e
theorem Nx:∀{l:List AM},(∀y∈l,Jn σ acc rej acc' rej' y.rev)->Fe acc' (l.map (Qi σ))=(Fe acc l).map (Qi σ)
 | [],_=>rfl
 | x :: l, h => by
  have hl:∀y∈l,Jn σ acc rej acc' rej' y.rev:=λy d=>h y (Q9 _ d);have b:(l.map (Qi σ)).any (λz=>acc' z.rev)=l.any (λz=>acc z.rev):=by
   rw[List.any_map];exact Jv λz e=>(hl z e).a
  have c:acc' (Qi σ x).rev=acc x.rev:=(h x (qV ..)).a;rw[qr,Fe,Fe,b,c,Nx hl];split;rfl;split<;>rfl
theorem NW{p:Int×Bool}:∀{l:List AM} {now:Int×Bool},(∀y∈l,Jn σ acc rej acc' rej' y.rev/\acc y.rev=false)->GZ rej' p (l.map (Qi σ)) now=GZ rej p l now
 | [],_,_=>rfl
 | x::l,now,h=>by
  have hl:∀y∈l,Jn σ acc rej acc' rej' y.rev/\acc y.rev=false:=λy b=>h y (Q9 _ b);obtain⟨g,a0⟩:=h x (qV ..);have a:rej' (Qi σ x).rev=rej x.rev:=g.r;rw[qr,GZ,GZ,a,NW hl,Ug,NW hl];by_cases c:rej x.rev=true;rw[if_pos c,if_pos c];rw[if_neg c,if_neg c];have:(Qi σ x).rev=x.rev:=g.n a0 (by simpa using c);rw[this];rfl
theorem Uv{p:Int×Bool}{l:List AM}(h:∀y∈l,Jn σ acc rej acc' rej' y.rev):Du acc' rej' p (l.map (Qi σ))=Du acc rej p l:=by
 unfold Du;rw[Nx h,Ug];exact NW λy a=>⟨h y (HW a).1,(HW a).2⟩
theorem UM:∀(f:Nat)(l:List AM),C8 f (l.map (Qi σ))=(C8 f l).map (List.map (Qi σ))
 | 0,_=>rfl
 | _+1,[]=>rfl
 | f+1,y::l=>by
  have e:(λz:AM=>decide (z.key=(Qi σ y).key)) ∘ Qi σ=λz=>decide (z.key=y.key):=rfl;rw[qr,C8,C8,List.takeWhile_map,List.dropWhile_map,e,UM];rfl
end
theorem K0{y:AM}{g:List AM}:∀{f:Nat} {l:List AM},g∈C8 f l->y∈g->y∈l
 | 0,_,h,_=>by simp[C8]at h
 | _+1,[],h,_=>by simp[C8]at h
 | f+1,x::l,h,hy=>by
  rw[C8]at h;rcases qt.1 h with e|e;subst e;rcases qt.1 hy with e|e;rw[e];exact qV ..;exact Q9 _ ((List.takeWhile_sublist _).subset e);exact Q9 _ ((List.dropWhile_sublist _).subset (K0 e hy))
section
variable{σ:Int->Int}{acc rej acc' rej':Int->Bool}
theorem Sw(ps:List Bi)(o:List Bi×List AM){g:List AM}(h:∀y∈g,Jn σ acc rej acc' rej' y.rev):CM acc' rej' ps o (g.map (Qi σ))=CM acc rej ps o g:=by
 have e:((g.map (Qi σ)).headD ⟨0,0,0,false⟩).key=(g.headD ⟨0,0,0,false⟩).key:=by cases g<;>rfl
 simp only[CM];rw[e,Uv h]
theorem NV(ps:List Bi):∀(G:List (List AM))(o:List Bi×List AM),(∀g∈G,∀y∈g,Jn σ acc rej acc' rej' y.rev)->(G.map (List.map (Qi σ))).foldl (CM acc' rej' ps) o=G.foldl (CM acc rej ps) o
 | [],_,_=>rfl
 | g::G,o,h=>by
  rw[qr,J5,J5,Sw ps o (h g (qV ..))];exact NV ps G _ λk a=>h k (Q9 _ a)
theorem Uw(ps:List Bi)(o:List Bi×List AM)(f:Nat)(l:List AM)(h:∀y∈l,Jn σ acc rej acc' rej' y.rev):(C8 f (l.map (Qi σ))).foldl (CM acc' rej' ps) o=(C8 f l).foldl (CM acc rej ps) o:=by
 rw[UM];exact NV ps _ o λg hg y a=>h y (K0 hg a)
end
theorem Uu{p:Int->Bool}{id:Int}{acc rej acc' rej':Int->Bool}{l:List Bs}(hl:K4 l)(hp:(l.map (Ba p id)).Pairwise λa b=>a.rev≠b.rev)
 (h:∀x∈l,Jn (ED p id) acc rej acc' rej' x.rev) (k:∀x∈l,acc x.rev=false):
 (Co (l.map (Ba p id)) l.length).filter (λx=>!rej' x.rev)=l.filter (λx=>!rej x.rev):=by
 have e:l.length=(l.map (Ba p id)).length:=(qf ..).symm;rw[e];refine TG ((L3 hp).filter _) (hl.filter _) λy=>?_;rw[Kq,Kq,FP _ _ (qa _),ql];have same:∀x∈l,rej x.rev=false->Ba p id x=x:=λx f d=>by
  have g:ED p id x.rev=x.rev:=(h x f).n (k x f) d;unfold Ba;rw[g]
 constructor;rintro⟨⟨x,f,rfl⟩,d⟩;have j:rej' (Ba p id x).rev=rej x.rev:=(h x f).r;rw[j]at d;have c:rej x.rev=false:=by simpa using d
 rw[same x f c];exact⟨f,d⟩;rintro⟨i,d⟩;have c:rej y.rev=false:=by simpa using d
 refine⟨⟨y,i,same y i c⟩,?_⟩;have j:rej' (ED p id y.rev)=rej y.rev:=(h y i).r;rw[(h y i).n (k y i) c]at j;rw[j];exact d
theorem UC{p:Int->Bool}{id:Int}{acc rej acc' rej':Int->Bool}{h:AF}(j:id≠0)(hl:K4 h.Y)(hp:(h.Y.map (Ba p id)).Pairwise λa b=>a.rev≠b.rev)
 (hi:h.I≠0->Jn (ED p id) acc rej acc' rej' h.I) (i:∀x∈h.Y,Jn (ED p id) acc rej acc' rej' x.rev) (v:∀y∈h.Z,Jn (ED p id) acc rej acc' rej' y.rev):
 CE acc' rej' (E3 p id h)=CE acc rej h:=by
 have o:(E3 p id h).Q=h.Q:=rfl;have q:(E3 p id h).I=B9 p id h.I:=rfl;have s:(E3 p id h).Y=Co (h.Y.map (Ba p id)) h.Y.length:=rfl;have t:(E3 p id h).Z=h.Z.map (Qi (ED p id)):=rfl;have l:(B9 p id h.I≠0↔h.I≠0):=by
  unfold B9;split;rename_i c;exact⟨λ_=>c.1,λ_=>j⟩;exact Iff.rfl
 have f:h.I≠0->B9 p id h.I=ED p id h.I:=λg=>by unfold B9 ED;by_cases c:p h.I=true<;>simp[g,c]
 have a1:(decide (B9 p id h.I≠0)&&rej' (B9 p id h.I))=(decide (h.I≠0)&&rej h.I):=by
  by_cases g:h.I=0;have:B9 p id h.I=0:=by unfold B9;simp[g]
  rw[this,g];simp;rw[f g,(hi g).r];have:=l.2 g;rw[f g]at this;simp[g,this]
 have a2:(decide (B9 p id h.I≠0)&&acc' (B9 p id h.I))=(decide (h.I≠0)&&acc h.I):=by
  by_cases g:h.I=0;have:B9 p id h.I=0:=by unfold B9;simp[g]
  rw[this,g];simp;rw[f g,(hi g).a];have:=l.2 g;rw[f g]at this;simp[g,this]
 have a3:(Co (h.Y.map (Ba p id)) h.Y.length).any (λx=>acc' x.rev)=h.Y.any (λx=>acc x.rev):=by
  have e:h.Y.length=(h.Y.map (Ba p id)).length:=(qf ..).symm;rw[Bool.eq_iff_iff,vo,vo];constructor;rintro⟨y,m,c⟩;rw[e,FP _ _ (qa _),ql]at m;obtain⟨x,d,rfl⟩:=m;exact⟨x,d,by rw[<-(i x d).a];exact c⟩;rintro⟨x,d,c⟩;exact⟨Ba p id x,by rw[e,FP _ _ (qa _),ql];exact⟨x,d,rfl⟩,by rw[<-(i x d).a]at c;exact c⟩
 unfold CE;rw[o,q,s,t,a1,a2,a3];by_cases c:((decide (h.I≠0)&&rej h.I)||h.Y.any (λx=>acc x.rev))=true;rw[if_pos c,if_pos c];rw[if_neg c,if_neg c];rw[vJ,not_or]at c;have u:∀x∈h.Y,acc x.rev=false:=λx d=>by
  cases g:acc x.rev with
  | false=>rfl
  | true=>exact absurd (vo.2 ⟨x,d,g⟩) c.2
 rw[qf,Uw h.Q (h.Q,[]) h.Z.length h.Z v,Uu hl hp i u];cases g:(decide (h.I≠0)&&acc h.I)with
 | true=>rfl
 | false =>
  have k:B9 p id h.I=h.I:=by
   by_cases z:h.I=0;unfold B9;simp[z];rw[f z];refine(hi z).n ?_ ?_;simpa[z]using g;have:=c.1;simpa[z]using this
  rw[k];rfl
section
variable{l:List Int}{L:List (Int×Int)}{to:Int}{T:List Int}
theorem lM:∀(g:List Bs)(f:Bool),∀x∈kc l L g f,∃d∈g,d.rev=x.rev
 | [],_,x,h=>by cases h
 | d::g,f,x,h=>by
  rw[kc]at h;have i:=λf x h=>let⟨d',a,b⟩:=lM g f x h;(⟨d',Q9 _ a,b⟩:∃e∈d::g,e.rev=x.rev);by_cases c:jF l d.rev=true;rw[if_pos c]at h;cases f with
  | true=>
   rcases qt.1 h with rfl|h;exact⟨d,qV ..,rfl⟩;exact i _ x h
  | false=>exact i _ x h
  rw[if_neg c]at h;rcases qt.1 h with rfl|h;exact⟨x,qV ..,rfl⟩;exact i _ x h
theorem kL(Y:List AM):∀i,∀x∈cf l Y i,x∈Y
 | 0,x,h=>by cases h
 | i + 1, x, h => by
  rw[cf]at h;cases e:Y[i]? with
  | none=>rw[e]at h;exact kL Y i x h
  | some y=>
   rw[e]at h;dsimp only at h;split at h;exact kL Y i x h;rcases qd.1 h with h|h;exact kL Y i x h;rw[qy.1 h];exact U1 e
theorem oP{Y:List AM}(a:to∈T)(b:∀y∈Y,y.rev∈T)(i:Nat):∀x∈(cf l Y i).map (Bp (jF l) to),x.rev∈T:=λx c=>by
 obtain⟨y,d,rfl⟩:=ql.1 c;unfold Bp ED;show(if _ then to else y.rev)∈T;split;exact a;exact b y (kL Y i y d)
theorem ol(a:to∈T){h:AF}(H:HK T h):HK T (jx l L to h).1:=by
 obtain⟨f,H⟩:=H;unfold jx;split;exact ZL T;have p:(gF l L h.Y).length<=h.Y.length:=by
  have:=kW l L h.Y ([],true);simpa[gF]using this
 have q:=lC l h.Z h.Z.length;have g:(E3 (jF l) to (bp l L h)).Y=Co ((gF l L h.Y).map (Ba (jF l) to)) (gF l L h.Y).length:=rfl;have i:(E3 (jF l) to (bp l L h)).Z=(cf l h.Z h.Z.length).map (Bp (jF l) to):=rfl;have k:(E3 (jF l) to (bp l L h)).Y.length<=h.Y.length:=by rw[g,Gv,qf];exact p
 have m:(E3 (jF l) to (bp l L h)).Z.length<=h.Z.length:=by rw[i,qf];exact q
 have n:(E3 (jF l) to (bp l L h)).I=B9 (jF l) to h.I:=rfl;refine⟨⟨f.Q,qI k f.Y,qI m f.Z⟩,⟨?_,qI k H.dlen,λx b=>?_,qI m H.llen,λx b=>oP a H.Z _ x (i▸b)⟩⟩;rw[n];unfold B9;split;exact .inr a;exact H.I;rw[g,FP _ _ (by rw[qf];exact qa _)]at b;obtain⟨y,j,rfl⟩:=ql.1 b;have c:gF l L h.Y=kc l L h.Y true:=by unfold gF;rw[l9];rfl
 rw[c]at j;obtain⟨d,o,e⟩:=lM _ _ y j;unfold Ba ED;show(if _ then to else y.rev)∈T;split;exact a;rw[<-e];exact H.Y d o
end
section
variable{l:List Int}{z:Int}{h:AF}
end
section
variable{m2:List Int}{rev nx:Int}{h:AF}{l:List Int}
variable(hn:nx ∉ m2)(n0:nx ≠ 0)(r0:rev ≠ 0)(hl:∀ y,jF l y=(y == rev || y == nx))
end
def o8(e:Int)(R:AG):AG:=if e=0 then R else zD
def jy(T:List BC):Option Int->List Int->Int
 | _,[]=>0
 | p,x::r=>if(CT T x).2=false then 22 else match p with
  | none=>jy T (some x) r
  | some y=>if x=y then 7 else if x<y then 6 else jy T (some x) r
def kH(D:AG)(l:List Int)(to:BC):Int:=
 if l.length=0 then 11 else if jy D.V none l≠0 then jy D.V none l else if Cn to≠0 then Cn to else if(CT D.V to.id).2=true/\to.id∉l then 7 else 0
def kT(l:List Int):Nat->Option Int
 | 0=>none
 | i+1=>l[i]?
theorem nU{T:List BC}{l:List Int}{i:Nat}{x:Int}(h:i<l.length)(a:l[i]=x):jy T (kT l i) (l.drop i)=if(CT T x).2=false then 22 else match kT l i with
 | none=>jy T (kT l (i+1)) (l.drop (i+1))
 | some y=>if x=y then 7 else if x<y then 6 else jy T (kT l (i+1)) (l.drop (i+1)):=by
 rw[qQ h,a,jy.eq_def];simp only;have:kT l (i+1)=some x:=by rw[kT,qe h,a]
 rw[this]
def mc(D:AG)(l:List Int)(to:BC):List BC:=FB (kU D.V l) (Ud (kU D.V l) to) to
def o7(D:AG)(l:List Int)(to:BC)(clash:Bool):Int:=if kH D l to≠0 then kH D l to else if clash then 24 else 0
theorem lu{T:List BC}:∀{l:List Int} {p:Option Int},jy T p l=0->(∀x∈l,(CT T x).2=true)/\(∀y,p=some y->∀x∈l,y<x)/\l.Pairwise (· < ·)
 | [],p,_=>by simp
 | x :: l, p, h => by
  rw[jy.eq_def]at h;simp only at h;by_cases e:(CT T x).2=false;rw[if_pos e]at h;cases h;rw[if_neg e]at h;have e':(CT T x).2=true:=by simpa using e
  have key:jy T (some x) l=0/\∀y,p=some y->y<x:=by
   cases p with
   | none=>exact⟨h,λy g=>by cases g⟩
   | some y=>
    simp only at h;by_cases c1:x=y;rw[if_pos c1]at h;cases h;rw[if_neg c1]at h;by_cases f:x<y;rw[if_pos f]at h;cases h;rw[if_neg f]at h;exact⟨h,λz g=>by cases g;omega⟩
  obtain⟨a,b,c⟩:=lu key.1;refine⟨λz d=>?_,λy i z d=>?_,ve.2 ⟨b x rfl,c⟩⟩;rcases qt.1 d with rfl|g;exact e';exact a z g;have:=key.2 y i;rcases qt.1 d with rfl|g;exact this;have:=b x rfl z g;omega
structure ox(D:AG)(l:List Int)(to:BC):Prop where
 ne:l≠[]
 find:∀x∈l,(CT D.V x).2=true
 inc:l.Pairwise (· < ·)
 err:Cn to=0
 to:(CT D.V to.id).2=true->to.id∈l
theorem lN{D:AG}{l:List Int}{to:BC}(h:kH D l to=0):ox D l to:=by
 unfold kH at h;by_cases e:l.length=0;rw[if_pos e]at h;cases h;rw[if_neg e]at h;by_cases b:jy D.V none l=0
 rotate_left
 rw[if_pos b]at h;exact absurd h b;rw[if_neg (by simpa using b)]at h;by_cases d:Cn to=0
 rotate_left
 rw[if_pos d]at h;exact absurd h d;rw[if_neg (by simpa using d)]at h;obtain⟨a,_,c⟩:=lu b;refine⟨λg=>e (by rw[g];rfl),a,c,d,λg=>?_⟩;by_cases f:to.id∈l;exact f;rw[if_pos ⟨g,f⟩]at h;cases h
theorem l8{D:AG}{l:List Int}{to:BC}(ht:SK D.V)(h:kH D l to=0):(kU D.V l).length<256/\SK (kU D.V l)/\(∀x∈kU D.V l,x.id≠to.id)/\SK (mc D l to)/\∀x,x∈mc D l to↔x=to\/(x∈D.V/\x.id∉l):=by
 obtain⟨h1,h2,_,j,k⟩:=lN h;obtain⟨n,g⟩:=List.exists_mem_of_ne_nil l h1;obtain⟨r0,m0,i⟩:=VJ (h2 n g);have c:(kU D.V l).length<256:=by
  have:=oZ (ids:=l) m0 (by rw[i];exact g);have:=ht.1;omega
 have f:SK (kU D.V l):=IS ht _;have d:∀x∈kU D.V l,x.id≠to.id:=λx m e=>by
  obtain⟨a,b⟩:=mU.1 m;exact b (e▸k (OD ⟨x,a,e⟩))
 refine⟨c,f,d,(UQ f d).2.2 c j,λx=>?_⟩;unfold mc;rw[HD,mU]
def ov:Tr:=.pure 0<|.pure 1<|.pure 2<|.pure 4<|.one 3<|.one 5<|.pure 6<|.pure 7<|.pure 8<|.one 9<|.one 10 .nil
theorem nY{D:AG}{l:List Int}{to:BC}{b:Bool}(h:kH D l to=0):o7 D l to b=if b then 24 else 0:=by unfold o7;rw[if_neg (by simpa using h)]
section
variable{m2:List Int}{N K:Nat}{d:AG}{rev:Int}
end
theorem K1{U:List Int}(a:U.Pairwise (· ≤ ·)){x:Int}:Dw U x=true↔x∈U:=⟨λh=>RX h,λh=>N0 a h⟩
theorem U6{p:Int->Bool}{id:Int}{K K':Ck}(h0:K.m0=K'.m0)(h1:K.m1=K'.m1){el:Int}{h:AF}(g:In K el h)(hm:∀x,x∈K.m2->ED p id x∈K'.m2)(hid:id≠0)(inc:K4 (E3 p id h).Y):In K' el (E3 p id h):=by
 have eR:Gg K=Gg K':=LF h0 h1;have i0:(B9 p id h.I=0↔h.I=0):=by
  unfold B9;split;rename_i c;exact⟨λe=>absurd e hid,λe=>absurd e c.1⟩;exact Iff.rfl
 have i1:h.I≠0->B9 p id h.I=ED p id h.I:=λg=>by unfold B9 ED;by_cases c:p h.I=true<;>simp[g,c]
 have e2:(E3 p id h).Y=Co (h.Y.map (Ba p id)) h.Y.length:=rfl;have el2:(E3 p id h).Y.length=h.Y.length:=by rw[e2,Gv,qf]
 refine⟨g.Q,λj hj=>?_,?_,?_,by rw[el2];exact g.dlen,λj hj=>?_,?_,λj hj=>?_⟩;have:Ia K'=Ia K:=by funext a b;unfold Ia;rw[eR]
 rw[this];exact g.refs j hj;have:=g.I;show(decide (B9 p id h.I≠0) && !decide (B9 p id h.I∈K'.m2))=false;by_cases z:h.I=0;rw[i0.2 z];simp;have m:h.I∈K.m2:=by simpa[Fc,z]using this
 rw[i1 z,decide_eq_true (hm _ m)];simp;have:=g.mv;unfold It at this ⊢;show(!decide (0<=h.move/\h.move<=1073741824)||(decide (h.move≠0)&&decide (B9 p id h.I=0)))=false;rw[decide_eq_decide.2 i0];exact this;rw[G6 hj];have hmem:(E3 p id h).Y[j]∈(E3 p id h).Y:=qi hj;have all:∀y,y∈(E3 p id h).Y->∃x,x∈h.Y/\Ba p id x=y:=λy hy=>by
  rw[e2,show h.Y.length=(h.Y.map (Ba p id)).length from(qf ..).symm,FP _ _ (qa _),ql]at hy;exact hy
 have hmem2:=all _ hmem;obtain⟨x,hx,ex⟩:=hmem2;obtain⟨k,hk,rfl⟩:=Kw hx;obtain⟨b1,_,b3⟩:=(G6 hk).1 (g.Y k hk);have ex':(E3 p id h).Y[j]=Ba p id h.Y[k]:=ex.symm;rw[ex'];refine⟨hm _ b1,λj0=>?_,b3⟩;have:=(J9.1 inc) (j-1) j (by omega) hj (by omega);rw[ex']at this;exact this;show(h.Z.map (Bp p id)).length<=64;rw[qf];exact g.llen
 . have hj':j<h.Z.length:=by have:(E3 p id h).Z.length=h.Z.length:=qf ..;omega
   have:=g.Z j hj';show Jr K' el (h.Z.map (Bp p id)) j=0;rw[Jr,qe hj']at this;rw[Jr,qX,qe hj',qO];dsimp only at this ⊢;by_cases a1:h.Z[j].rev∈K.m2
   case neg=>simp[a1]at this
   rw[decide_eq_true a1]at this;have r1:(Bp p id h.Z[j]).rev=ED p id h.Z[j].rev:=rfl;have r2:(Bp p id h.Z[j]).key=h.Z[j].key:=rfl;have r3:(Bp p id h.Z[j]).before=h.Z[j].before:=rfl;have r4:(Bp p id h.Z[j]).had=h.Z[j].had:=rfl;have r5:((h.Z.map (Bp p id)).getD (j-1) (Bp p id h.Z[j])).key=(h.Z.getD (j-1) h.Z[j]).key:=by
    by_cases q:j-1<h.Z.length;simp[List.getD,q,Bp];simp[List.getD,q,Bp]
   rw[r1,r2,r3,r4,r5,decide_eq_true (hm _ a1),<-eR];exact this
theorem G8{x:AB}(k:x.k=1):G7 x=0↔x.code=0/\x.id=0/\x.W=[]/\x.R=[]/\A5 x.x=true/\x.x.toList≠[]:=by
 have a1:P6 x=false:=by simp[P6,Wa,k]
 have a2:Ni x=false↔x.code=0/\x.id=0/\x.W=[]/\x.R=[]:=by
  simp[Ni,ZK,ZJ,cX,k];constructor;rintro⟨⟨⟨b1,a⟩,b⟩,c⟩;exact⟨b1,a,b,c⟩;rintro⟨b1,a,b,c⟩;exact⟨⟨⟨b1,a⟩,b⟩,c⟩
 have a3:IU x=false↔x.x.toList≠[]:=by simp[IU,k]
 have a4:Kv x=false:=by simp[Kv,k]
 have a5:(U2 x && !Fb x.x)=false:=by simp[U2,k]
 unfold G7;rw[a1,a4,a5];cases c2:Ni x<;>cases c3:A5 x.x<;>cases c4:IU x<;>simp_all
structure S8(hg:Int->AF->Prop)(G:BN->List AB->Prop)(pl:BN)(x:AB):Prop where
 form:G7 x=0
 k3:x.k=3->pl.body=true
 k6:x.k=6->pl.note=false
 k7:x.k=7->pl.tables<4
 k8:x.k=8->1<=x.id/\x.id<=1073741824
 H:hg x.k x.H
 W:x.k=6->G ⟨false,true,pl.tables⟩ x.W
 R:x.k=7->x.R≠[]/\x.R.length<=256/\∀r∈x.R,hg 9 r.H/\r.cells≠[]/\r.cells.length<=32/\∀c∈r.cells,hg 10 c.H/\G ⟨false,pl.note,IntKind.i64.wrap (pl.tables+1)⟩ c.W
def gH(hg:Int->AF->Prop):Nat->BN->List AB->Prop
 | 0,_,_=>True
 | N+1,pl,l=>∀x∈l,S8 hg (gH hg N) pl x
theorem UK{K:Ck}:∀{N:Nat} {d:BN} {l:List AB},gN K N d l↔gH (λel h=>EV K el h=0) N d l
 | 0,_,_=>Iff.rfl
 | N+1,d,l=>by
  have e:=λd l=>@UK K N d l;constructor;intro h x i;obtain⟨a1,a2,a3,a4,a5,f,g,a⟩:=h x i;exact⟨a1,a2,a3,a4,a5,f,λk=>(e _ _).1 (g k),λk=>⟨(a k).1,(a k).2.1,λr b=>⟨((a k).2.2 r b).1,((a k).2.2 r b).2.1,((a k).2.2 r b).2.2.1,λc hc=>⟨(((a k).2.2 r b).2.2.2 c hc).1,(e _ _).1 (((a k).2.2 r b).2.2.2 c hc).2⟩⟩⟩⟩;intro h x i;obtain⟨a1,a2,a3,a4,a5,f,g,a⟩:=h x i;exact⟨a1,a2,a3,a4,a5,f,λk=>(e _ _).2 (g k),λk=>⟨(a k).1,(a k).2.1,λr b=>⟨((a k).2.2 r b).1,((a k).2.2 r b).2.1,((a k).2.2 r b).2.2.1,λc hc=>⟨(((a k).2.2 r b).2.2.2 c hc).1,(e _ _).2 (((a k).2.2 r b).2.2.2 c hc).2⟩⟩⟩⟩
theorem PJ{x y:AB}(c:y.k=x.k)(g:y.code=x.code)(m:y.id=x.id)(e:y.x=x.x)(f:y.k≠6->y.W=[])(r:y.k≠7->y.R=[])(h:G7 x=0):G7 y=0:=by
 obtain⟨g6,g7,_⟩:=Kx h;have a:(decide (y.k≠6)&&decide (0<y.W.length))=(decide (x.k≠6)&&decide (0<x.W.length)):=by
  by_cases k:x.k=6;rw[c,k];simp;rw[f (by rw[c];exact k),g6 k,c]
 have b:(decide (y.k≠7)&&decide (0<y.R.length))=(decide (x.k≠7)&&decide (0<x.R.length)):=by
  by_cases k:x.k=7;rw[c,k];simp;rw[r (by rw[c];exact k),g7 k,c]
 have j:P6 y=P6 x:=by unfold P6 Wa;rw[c,g]
 have l:Ni y=Ni x:=by unfold Ni;rw[a,b];unfold ZK ZJ cX U2;rw[c,g,m,e]
 have d:IU y=IU x:=by unfold IU;rw[c,e]
 have Z4:Kv y=Kv x:=by unfold Kv;rw[c,e]
 have i:U2 y=U2 x:=by unfold U2;rw[c,g]
 unfold G7 at h ⊢;rw[j,l,d,Z4,i,e];exact h
section
variable{hg hg':Int->AF->Prop}
theorem Nk{G:BN->List AB->Prop}{a:BN}{x:AB}(k:x.k=1)(h:S8 hg G a x){t:ByteArray}(v:A5 t=true)(ne:t.size≠0):S8 hg G a (.mk x.k x.code x.id t x.H x.W x.R):=by
 obtain⟨f1,f2,f3,f4,f5,_⟩:=(G8 k).1 h.form;refine⟨(G8 (x:=.mk x.k x.code x.id t x.H x.W x.R) k).2 ⟨f1,f2,f3,f4,v,λe=>ne ((G5 _).1 e)⟩,h.k3,h.k6,h.k7,h.k8,h.H,h.W,h.R⟩
theorem M7(b:∀el h,hg el h->hg' el h):∀{N:Nat} {e:BN} {l:List AB},gH hg N e l->gH hg' N e l
 | 0,_,_,_=>trivial
 | N+1,e,l,H=>λx i=>by
  obtain⟨a1,a2,a3,a4,a5,f,g,a⟩:=H x i;exact⟨a1,a2,a3,a4,a5,b _ _ f,λk=>M7 b (g k),λk=>⟨(a k).1,(a k).2.1,λr d=>⟨b _ _ ((a k).2.2 r d).1,((a k).2.2 r d).2.1,((a k).2.2 r d).2.2.1,λc hc=>⟨b _ _ (((a k).2.2 r d).2.2.2 c hc).1,M7 b (((a k).2.2 r d).2.2.2 c hc).2⟩⟩⟩⟩
theorem UJ{G:BN->List AB->Prop}{d:BN}:∀(l o:List AB),(∀y∈o,S8 hg G d y)->(∀y∈l,S8 hg G d y)->∀y∈l.foldl AQ o,S8 hg G d y
 | [],_,ho,_=>ho
 | x::l,o,ho,hl=>by
  rw[J5];refine UJ l _ (λy a=>?_) λy a=>hl y (Q9 _ a);have c:=hl x (qV ..);unfold AQ at a;split at a;exact ho y a;split at a;rename_i z f;split at a;rename_i k;rcases qd.1 a with g|g;exact ho y ((List.dropLast_sublist o).subset g);rw[qy.1 g];have b:=ho z (List.mem_of_getLast? f);obtain⟨_,_,_,_,i,h⟩:=(G8 k.2.1).1 b.form;obtain⟨_,_,_,_,j,n2⟩:=(G8 k.1).1 c.form;refine Nk k.2.1 b (HP i j) λe=>h ((G5 _).2 ?_);rw[XJ]at e;omega;rcases qd.1 a with g|g;exact ho y g;rw[qy.1 g];exact c;rcases qd.1 a with g|g;exact ho y g;rw[qy.1 g];exact c
theorem JT:∀{N:Nat} {d:BN} {l:List AB},gH hg N d l->gH hg N d (AO l)
 | 0,_,_,_=>trivial
 | N+1,d,l,H=>by
  show ∀y∈AO l,S8 hg (gH hg N) d y;unfold AO Cy;refine UJ _ _ (λy b=>by cases b) λy b=>?_;rw[Ve]at b;obtain⟨x,p,rfl⟩:=ql.1 b;obtain⟨a1,a2,a3,a4,a5,h,i,e⟩:=H x p;obtain⟨g6,g7,_⟩:=Kx a1;obtain⟨f1,f2,f3,f4,f5,f6,f7⟩:=WY x;have a:x.k=7->(AB.N x).R=x.R.map AP.N:=λk=>HE λr a=>((e k).2.2 r a).2.1;refine⟨PJ f1 f2 f3 f4 (λk=>?_) (λk=>?_) a1,by rw[f1];exact a2,by rw[f1];exact a3,by rw[f1];exact a4,by rw[f1,f3];exact a5,by rw[f1,f5];exact h,λk=>?_,λk=>?_⟩;rw[f6,g6 (by rw[<-f1];exact k)];rfl;rw[f7,g7 (by rw[<-f1];exact k)];rfl;rw[f6];exact JT (i (by rw[<-f1];exact k));rw[f1]at k;obtain⟨b1,j,m⟩:=e k;rw[a k];refine⟨by simpa using b1,by rw[qf];exact j,λr a=>?_⟩;obtain⟨r0,h0,rfl⟩:=ql.1 a;obtain⟨c1,n,o,f⟩:=m r0 h0;rw[(wb r0).1,(wb r0).2];refine⟨c1,by simpa using n,by rw[qf];exact o,λc hc=>?_⟩;obtain⟨z,g,rfl⟩:=ql.1 hc;rw[(Tq z).1,(Tq z).2.2];exact⟨(f z g).1,JT (f z g).2⟩
theorem P8{Q:Int->Prop}:∀{N:Nat} {d:BN} {l:List AB},gH hg N d l->(∀y∈AB.U l,Q y)->gH (λel h=>hg el h/\∀y∈h.all,Q y) N d l
 | 0,_,_,_,_=>trivial
 | N+1,d,l,H,U=>λx j=>by
  obtain⟨a1,a2,a3,a4,a5,m,n,o⟩:=H x j;have us:∀z:AB,z.us=z.H.all++(if z.k=6 then AB.U z.W else if z.k=7 then AP.U z.R else[]):=λz=>by cases z;rw[AB.us];rfl
  have b:∀y∈x.us,Q y:=λy a=>U y (by rw[L9];exact QD.2 ⟨x,j,a⟩);rw[us]at b;refine⟨a1,a2,a3,a4,a5,⟨m,λy a=>b y (qD _ a)⟩,λk=>P8 (n k) λy a=>b y (Qj _ (by rw[if_pos k];exact a)),λk=>?_⟩;obtain⟨b1,p,q⟩:=o k;refine⟨b1,p,λr i=>?_⟩;obtain⟨c1,s,t,g⟩:=q r i;have f:∀y∈r.us,Q y:=λy a=>b y (Qj _ (by rw[if_neg (by rw[k];decide),if_pos k,Ji];exact QD.2 ⟨r,i,a⟩));have v:∀z:AP,z.us=z.H.all++cr.U z.cells:=λz=>by cases z;rw[AP.us];rfl
  rw[v]at f;refine⟨⟨c1,λy a=>f y (qD _ a)⟩,s,t,λc hc=>?_⟩;have e:∀y∈c.us,Q y:=λy a=>f y (Qj _ (by rw[LN];exact QD.2 ⟨c,hc,a⟩));have u:∀z:cr,z.us=z.H.all++AB.U z.W:=λz=>by cases z;rw[cr.us];rfl
  rw[u]at e;exact⟨⟨(g c hc).1,λy a=>e y (qD _ a)⟩,P8 (g c hc).2 λy a=>e y (Qj _ a)⟩
end
theorem KM{K K':Ck}(h0:K.m0=K'.m0)(h1:K.m1=K'.m1){el:Int}{h:AF}(g:In K el h)(hm:∀y∈h.all,y∈K.m2->y∈K'.m2):In K' el h:=by
 have eR:Gg K=Gg K':=LF h0 h1;refine⟨g.Q,λj hj=>?_,?_,g.mv,g.dlen,λj hj=>?_,g.llen,λj hj=>?_⟩;have:Ia K'=Ia K:=by funext a b;unfold Ia;rw[eR]
 rw[this];exact g.refs j hj;have:=g.I;unfold Fc at this ⊢;by_cases z:h.I=0;simp[z];have m:h.I∈K.m2:=by simpa[z]using this
 have:=hm _ (JZ.2 (.inl rfl)) m;simp[this];obtain⟨b1,b2,b3⟩:=(G6 hj).1 (g.Y j hj);exact(G6 hj).2 ⟨hm _ (JZ.2 (.inr (.inl ⟨_,qi hj,rfl⟩))) b1,b2,b3⟩
 . have:=g.Z j hj;rw[Jr,qe hj]at this ⊢;dsimp only at this ⊢;by_cases a1:h.Z[j].rev∈K.m2
   case neg=>simp[a1]at this
   have a2:=hm _ (JZ.2 (.inr (.inr ⟨_,qi hj,rfl⟩))) a1;rw[decide_eq_true a1]at this;rw[decide_eq_true a2,<-eR];exact this
theorem Wp{F:Nat->Int}{i:Nat}(h1:1<=F i)(h2:F i<=1073741824)(a:0<i->F (i-1)<F i):Gb F i=0:=by
 unfold Gb;rw[if_neg (by omega),if_neg λg=>by have:=a g.1;omega,if_neg λg=>by have:=a g.1;omega]
theorem S6{a b c:Int}(d:a=0)(hb:b=0)(hc:c=0):Bc [a,b,c]=0:=by subst d;subst hb;subst hc;rfl
theorem SM{l:List BC}(h:SK l):El l=0:=by
 have hl:=h.1;have e:CD (IQ l) (min l.length 256)=0:=Mp λi hi=>by
  have hi:i<l.length:=by omega
  unfold IQ;rw[qe hi];dsimp only;have r:=h.2.1 _ (qi hi);unfold Cn at r;by_cases a1:l[i].id<1\/1073741824<l[i].id;rw[if_pos a1]at r;cases r;rw[if_neg a1]at r;by_cases a2:l[i].O.size=0;rw[if_pos a2]at r;cases r;rw[if_neg a2]at r;by_cases a3:40<l[i].O.size;rw[if_pos a3]at r;cases r;rw[if_neg a3]at r;cases a4:A5 l[i].O with
  | false=>rw[a4]at r;simp at r
  | true=>
  rw[a4,if_neg (by decide)]at r;by_cases a5:l[i].time<0\/1099511627776<l[i].time;rw[if_pos a5]at r;cases r;have c:Dc l[i].O=true:=by unfold Dc;rw[a4,decide_eq_true (by omega)];rfl
  have d:decide (0<=l[i].time/\l[i].time<=1099511627776)=true:=decide_eq_true (by omega);have hI:∀F:Nat->Int,(∀j (b:j<l.length),F j=l[j].id)->Gb F i=0:=λF a=>Wp (by rw[a i hi];omega) (by rw[a i hi];omega) λi0=>by
   have:=J9.1 h.2.2 (i-1) i (by omega) hi (by omega);rw[a i hi,a (i-1) (by omega)];exact this
  refine S6 (hI _ λj b=>?_) ?_ ?_;rw[qe b];rw[c];rfl;rw[d];rfl
 unfold El;rw[e];have:¬(256:Int)<l.length:=by omega
 simp[Bc,this]
section
variable(κ δ:AF->Option AF)
mutual
theorem oK:∀x:AB,(AB.dc κ x).bind (AB.dc δ)=AB.dc (λh=>(κ h).bind δ) x
 | .mk k c i t h f r => by
  rw[AB.dc,AB.dc];cases κ h with
  | none=>rfl
  | some h'=>
   show AB.dc δ (.mk k c i t h' (AB.dcL κ f) (AP.dcL κ r))=(δ h').map _;rw[AB.dc,kq f,lm r]
theorem kq:∀l:List AB,AB.dcL δ (AB.dcL κ l)=AB.dcL (λh=>(κ h).bind δ) l
 | []=>by rw[AB.dcL,AB.dcL,AB.dcL]
 | x::l=>by
  rw[AB.dcL,AB.dcL,Mw,kq l,<-oK x];cases AB.dc κ x with
  | none=>rw[Option.toList_none,AB.dcL];rfl
  | some y=>rw[VN,AB.dcL,AB.dcL,JP];rfl
theorem nh:∀x:AP,(AP.dc κ x).bind (AP.dc δ)=AP.dc (λh=>(κ h).bind δ) x
 | .mk h c => by
  rw[AP.dc,AP.dc];cases κ h with
  | none=>rfl
  | some h'=>
   show AP.dc δ (.mk h' (cr.dcL κ c))=(δ h').map _;rw[AP.dc,ll c]
theorem lm:∀l:List AP,AP.dcL δ (AP.dcL κ l)=AP.dcL (λh=>(κ h).bind δ) l
 | []=>by rw[AP.dcL,AP.dcL,AP.dcL]
 | x::l=>by
  rw[AP.dcL,AP.dcL,AP.qG,Le,<-AP.qG,<-AP.qG,lm l,<-nh x];cases AP.dc κ x with
  | none=>rw[Option.toList_none,AP.dcL];rfl
  | some y=>rw[VN,AP.dcL,AP.dcL,JP];rfl
theorem ng:∀x:cr,(cr.dc κ x).bind (cr.dc δ)=cr.dc (λh=>(κ h).bind δ) x
 | .mk i h f => by
  rw[cr.dc,cr.dc];cases κ h with
  | none=>rfl
  | some h'=>
   show cr.dc δ (.mk i h' (AB.dcL κ f))=(δ h').map _;rw[cr.dc,kq f]
theorem ll:∀l:List cr,cr.dcL δ (cr.dcL κ l)=cr.dcL (λh=>(κ h).bind δ) l
 | []=>by rw[cr.dcL,cr.dcL,cr.dcL]
 | x::l=>by
  rw[cr.dcL,cr.dcL,TX,Le,<-TX,<-TX,ll l,<-ng x];cases cr.dc κ x with
  | none=>rw[Option.toList_none,cr.dcL];rfl
  | some y=>rw[VN,cr.dcL,cr.dcL,JP];rfl
end
end
section
variable{κ:AF->Option AF}{f:Unit->CI->AF×Bool×Unit}{hp:AF->Prop}{T:Int->Prop}
theorem lP{α β:Type}(φ:α->Option β)(st:List β×Unit->α->List β×Unit):∀(l:List α)(q:List β×Unit),(∀x∈l,∀q,(st q x).1=q.1++(φ x).toList)->(l.foldl st q).1=q.1++l.filterMap φ
 | [],q,_=>by simp
 | x::l,q,h=>by rw[J5,lP φ st l _ λy a=>h y (Q9 _ a),h x (qV ..),CN,qj]
theorem lc(a:∀s p,κ p.H=if(f s p).2.1 then some (f s p).1 else none){sc:BH}(b:sc.id = -1):∀(N:Nat)(id:Int)(l:List AB)(mid:Bool)(s:Unit),id ≠ -1->wf hp (λi=>i ≠ -1) N l->(AT f sc N id l mid s).1=AB.dcL κ l
 | 0,_,_,_,_,_,h=>h.elim
 | N+1,id,l,mid,s,hid,W=>by
  have t:F9 sc id l mid=false:=by unfold F9;rw[b];simp[hid]
  rw[AT,t,if_neg (by simp),Ti];unfold A8;rw[lP (AB.dc κ) _ l _ λx n q=>?_,qE];obtain⟨_,y,d,_,A,w,wr⟩:=DR.1 W x n;rw[AB.dc_eq];have e:=a q.2 ⟨x.H,mid,(BF [x]).1⟩;dsimp only at e;rw[e];unfold CL;dsimp only;by_cases c:(f q.2 ⟨x.H,mid,(BF [x]).1⟩).2.1=true;rw[if_pos c,if_pos c];show q.1++[_]=q.1++[_];have g:x.k=6->∀s,(AT f sc N x.id x.W mid s).1=AB.dcL κ x.W:=λk s=>lc a b N x.id x.W mid s (A k) w;have n0:∀{l:List AB},l=[]->AB.dcL κ l=[]:=λh=>by rw[h,AB.dcL]
  have j:∀s,(HY f (AT f sc N) mid x.R s).1=x.R.filterMap (AP.dc κ):=λs=>by
   unfold HY;rw[lP (AP.dc κ) _ x.R _ λr m q=>?_,qE];rw[S3];have e:=a q.2 ⟨r.H,mid,1⟩;dsimp only at e;rw[e];unfold EG;by_cases c:(f q.2 ⟨r.H,mid,1⟩).2.1=true;rw[if_pos c,if_pos c];show q.1++[_]=q.1++[_];congr 3;unfold Er;rw[lP (cr.dc κ) _ r.cells _ λz o q=>?_,qE];rw[TP];have e:=a q.2 ⟨z.H,mid,1⟩;dsimp only at e;rw[e];unfold DH;by_cases c:(f q.2 ⟨z.H,mid,1⟩).2.1=true;rw[if_pos c,if_pos c];show q.1++[_]=q.1++[_];obtain⟨u,_,v⟩:=(wr r m).2.2 z o;rw[lc a b N z.id z.W mid _ u v];rw[if_neg c,if_neg c];show q.1=q.1++[];rw[JP];rw[if_neg c,if_neg c];show q.1=q.1++[];rw[JP]
  unfold Cm AB.put;by_cases k6:x.k=6;have r0:x.R=[]:=d (by rw[k6];decide);simp only[k6,if_true];rw[g k6,r0];rfl;have f0:x.W=[]:=y k6;by_cases k7:x.k=7;simp only[k7,if_true];rw[if_neg (by decide)];dsimp only;rw[j,n0 f0,f0];have r0:x.R=[]:=d k7;simp only[k6,k7,if_false];rw[n0 f0,f0,r0];rfl;rw[if_neg c,if_neg c];show q.1=q.1++[];rw[JP]
end
section
variable{κ:AF->Option AF}{hp:AF->Prop}{T:Int->Prop}
structure RlI(κ:AF->Option AF)(x y:AB):Prop where
 H:κ x.H=some y.H
 k:y.k=x.k
 code:y.code=x.code
 id:y.id=x.id
 X:y.x=x.x
 f6:x.k=6->y.W=AB.rlL κ x.W
 f0:x.k≠6->y.W=[]
 r7:x.k=7->y.R=x.R.filterMap (AP.rl κ)/\y.R≠[]
 r0:x.k≠7->y.R=[]
theorem kz{N:Nat}{x y:AB}(W:bG hp T N x)(e:AB.rl κ x=some y):RlI κ x y:=by
 obtain⟨_,b,c,_⟩:=W;rw[S5,Yc]at e;obtain⟨h',a,e⟩:=e;by_cases k6:x.k=6;rw[if_pos k6]at e;cases e;exact⟨a,rfl,rfl,rfl,rfl,λ_=>rfl,λk=>absurd k6 k,λk=>absurd (k6.symm.trans k) (by decide),λk=>c k⟩;rw[if_neg k6]at e;by_cases k7:x.k=7;rw[if_pos k7]at e;split at e;cases e;rename_i z;cases e;exact⟨a,rfl,rfl,rfl,rfl,λk=>absurd k k6,λk=>b k,λ_=>⟨rfl,λg=>z (by rw[show x.R.filterMap (AP.rl κ)=[]from g];rfl)⟩,λk=>absurd k7 k⟩;rw[if_neg k7]at e;cases e;exact⟨a,rfl,rfl,rfl,rfl,λk=>absurd k k6,λk=>b k,λk=>absurd k k7,λk=>c k⟩
theorem ka{x y:AP}(e:AP.rl κ x=some y):κ x.H=some y.H/\y.cells=x.cells.filterMap (cr.rl κ)/\y.cells≠[]:=by
 rw[AP.rl_eq,Yc]at e;obtain⟨h',a,e⟩:=e;split at e;cases e;rename_i z;cases e;exact⟨a,rfl,λg=>z (by rw[show x.cells.filterMap (cr.rl κ)=[]from g];rfl)⟩
theorem kZ{x y:cr}(e:cr.rl κ x=some y):κ x.H=some y.H/\y.id=x.id/\y.W=AB.rlL κ x.W:=by
 rw[TN,qN]at e;obtain⟨h',a,rfl⟩:=e;exact⟨a,rfl,rfl⟩
theorem mC:∀{N:Nat} {l:List AB},wf hp T N l->Dp N l->Dp N (AB.rlL κ l)
 | 0,_,h,_=>h.elim
 | N+1,l,W,D=>by
  rw[wu];refine WM.2 λy t=>?_;obtain⟨x,g,e⟩:=Yp.1 t;have w:=DR.1 W x g;have c:=kz w e;obtain⟨_,_,_,_,_,b,wr⟩:=w;obtain⟨⟨m,_⟩,n,o⟩:=WM.1 D x g;refine⟨⟨by rw[c.X];exact m,λk=>(c.r7 (c.k▸k)).2⟩,λk=>?_,λk r d=>?_⟩;rw[c.f6 (c.k▸k)];exact mC b (n (c.k▸k));rw[(c.r7 (c.k▸k)).1]at d;obtain⟨r0,h0,p⟩:=Yp.1 d;obtain⟨_,i,j⟩:=ka p;refine⟨j,λs f=>?_⟩;rw[i]at f;obtain⟨s0,a,q⟩:=Yp.1 f;rw[(kZ q).2.2];exact mC ((wr r0 h0).2.2 s0 a).2.2 ((o (c.k▸k) r0 h0).2 s0 a)
theorem nm{hg hg':Int->AF->Prop}(a:∀el h h',hg el h->κ h=some h'->hg' el h'):∀{N:Nat} {d:BN} {l:List AB},wf hp T N l->gH hg N d l->gH hg' N d (AB.rlL κ l)
 | 0,_,_,h,_=>h.elim
 | N+1,d,l,W,G=>by
  rw[wu];intro y C;obtain⟨x,n,e⟩:=Yp.1 C;have w:=DR.1 W x n;have c:=kz w e;obtain⟨_,_,_,_,_,f,wr⟩:=w;have g:=G x n;refine⟨PJ c.k c.code c.id c.X (λk=>c.f0 (c.k▸k)) (λk=>c.r0 (c.k▸k)) g.form,λk=>g.k3 (c.k▸k),λk=>g.k6 (c.k▸k),λk=>g.k7 (c.k▸k),λk=>by rw[c.id];exact g.k8 (c.k▸k),by rw[c.k];exact a _ _ _ g.H c.H,λk=>?_,λk=>?_⟩;rw[c.f6 (c.k▸k)];exact nm a f (g.W (c.k▸k));have o:x.k=7:=c.k▸k;obtain⟨b1,p⟩:=c.r7 o;obtain⟨g1,z,g3⟩:=g.R o;refine⟨p,by rw[b1];exact qI (List.length_filterMap_le _ _) z,λr j=>?_⟩;rw[b1]at j;obtain⟨r0,h0,u⟩:=Yp.1 j;obtain⟨q,i,t⟩:=ka u;obtain⟨A,g5,g6,g7⟩:=g3 r0 h0;refine⟨a _ _ _ A q,t,by rw[i];exact qI (List.length_filterMap_le _ _) g6,λs m=>?_⟩;rw[i]at m;obtain⟨s0,b,v⟩:=Yp.1 m;obtain⟨D,_,E⟩:=kZ v;obtain⟨g8,B⟩:=g7 s0 b;rw[E];exact⟨a _ _ _ g8 D,nm a ((wr r0 h0).2.2 s0 b).2.2 B⟩
theorem lO{α β:Type}{φ:α->Option α}{v:α->List β}:∀{l:List α},(∀x∈l,∀y,φ x=some y->(v y).Sublist (v x))->((l.filterMap φ).flatMap v).Sublist (l.flatMap v)
 | [],_=>List.Sublist.refl _
 | x :: l, h => by
  have b:=lO (l:=l) λy a=>h y (Q9 _ a);rw[CN,Jk,QZ];refine List.Sublist.append ?_ b;cases e:φ x with
  | none=>exact List.nil_sublist _
  | some y=>
   have:=h x (qV ..) y e;simpa using this
theorem mg:∀{N:Nat} {l:List AB},wf hp T N l->(GU N (AB.rlL κ l)).Sublist (GU N l)
 | 0,_,h=>h.elim
 | N+1,l,W=>by
  rw[wu,JW,JW];refine lO λx j y e=>?_;have w:=DR.1 W x j;have c:=kz w e;obtain⟨_,_,_,_,_,a,wr⟩:=w;unfold GT;rw[c.k,c.id];by_cases k6:x.k=6;rw[if_pos k6,if_pos k6,c.f6 k6];exact(mg a).cons_cons _;rw[if_neg k6,if_neg k6];by_cases k7:x.k=7;rw[if_pos k7,if_pos k7,(c.r7 k7).1];refine List.Sublist.cons_cons _ (lO λr g r' d=>?_);obtain⟨_,b,_⟩:=ka d;unfold Io;rw[b];refine lO λs i s' f=>?_;obtain⟨_,k,m⟩:=kZ f;rw[k,m];exact(mg ((wr r g).2.2 s i).2.2).cons_cons _;rw[if_neg k7,if_neg k7];exact List.Sublist.refl _
theorem mI{α:Type}{φ:α->Option α}{v:α->Int}:∀{l:List α},(∀x∈l,0<=v x)->(∀x∈l,∀y,φ x=some y->0<=v y/\v y<=v x)->0<=((l.filterMap φ).map v).sum/\((l.filterMap φ).map v).sum<=(l.map v).sum
 | [],_,_=>by simp
 | x :: l, h0, h => by
  obtain⟨i1,i2⟩:=mI (l:=l) (λy a=>h0 y (Q9 _ a)) λy a=>h y (Q9 _ a);have h1:=h0 x (qV ..);rw[CN,qc,List.sum_append,qr,XW];cases e:φ x with
  | none=>simp;omega
  | some y=>
   have:=h x (qV ..) y e;simp;omega
theorem kV{α:Type}{v:α->Int}:∀{l:List α},(∀x∈l,0<=v x)->0<=(l.map v).sum
 | [],_=>by simp
 | x::l,h=>by
  have:=kV (l:=l) λy a=>h y (Q9 _ a);have h1:=h x (qV ..);rw[qr,XW];omega
theorem nK(x:AB):0<=Ml x:=by unfold Ml;split<;>(try split)<;>omega
theorem kK:∀(N:Nat)(l:List AB),0<=Oz N l
 | 0,_=>Int.le_refl _
 | N+1,l=>by
  rw[SR];refine kV λx _=>?_;unfold Ql;have:=nK x;split;have:=kK N x.W;omega;split;have:0<=(x.R.map (Vm N)).sum:=kV λr _=>kV λc _=>kK N c.W;omega;omega
theorem oE:∀{N:Nat} {l:List AB},wf hp T N l->Oz N (AB.rlL κ l)<=Oz N l
 | 0,_,h=>h.elim
 | N + 1, l, W => by
  have b:∀x:AB,0<=Ql N x:=λx=>by
   unfold Ql;have:=nK x;split;have:=kK N x.W;omega;split;have:0<=(x.R.map (Vm N)).sum:=kV λr _=>kV λc _=>kK N c.W;omega;omega
  rw[wu,SR,SR];refine(mI (λx _=>b x) λx k y e=>⟨b y,?_⟩).2;have w:=DR.1 W x k;have c:=kz w e;obtain⟨_,_,_,_,_,a,wr⟩:=w;have n:Ml y=Ml x:=by unfold Ml;rw[c.k,c.X]
  unfold Ql;rw[c.k,n];by_cases k6:x.k=6;rw[if_pos k6,if_pos k6,c.f6 k6];have:=oE a;omega;rw[if_neg k6,if_neg k6];by_cases k7:x.k=7;rw[if_pos k7,if_pos k7,(c.r7 k7).1];have:=(mI (l:=x.R) (φ:=AP.rl κ) (v:=Vm N) (λr _=>kV λc _=>kK N c.W) λr i r' f=>⟨kV λc _=>kK N c.W,by
   obtain⟨_,d,_⟩:=ka f;unfold Vm;rw[d];exact(mI (λs _=>kK N s.W) λs j m g=>⟨kK N m.W,by
    rw[(kZ g).2.2];exact oE ((wr r i).2.2 s j).2.2⟩).2⟩).2
  omega;rw[if_neg k7,if_neg k7];exact Int.le_refl _
end
theorem lU{α:Type}{v:α->Int}{t:α->Nat}:∀{l:List α},(∀x∈l,v x<=1000*(t x:Int))->(l.map v).sum<=1000*((l.map t).sum:Int)
 | [],_=>by simp
 | x::l,h=>by
  have:=lU (l:=l) λy a=>h y (Q9 _ a);have h1:=h x (qV ..);rw[qr,XW,qr,XW];push_cast;omega
theorem ml:∀{N:Nat} {l:List AB},Og N l->Oz N l<=1000*(Tm N l:Int)
 | 0,_,h=>h.elim
 | N + 1, l, H => by
  rw[SR,XY];unfold OV;refine lU λx b=>?_;obtain⟨⟨f1,_⟩,f2,f3⟩:=H.2 x b;have u:Ml x<=1000:=by
   unfold Ml;have:=IB x.x x.x.size;split<;>(try split)<;>omega
  have h6:=ml f2;have h7:(x.R.map (Vm N)).sum<=1000*(QW N x.R:Int):=by
   unfold QW;refine lU λr a=>?_;unfold Vm Tn;refine lU λc hc=>?_;have:=ml ((f3 r a).2 c hc)
   push_cast;omega
  unfold Ql
  push_cast
  split;omega;split<;>omega
section
variable(p:Int->Bool)
def kl:Bool->List AM->List AM
 | _,[]=>[]
 | b,y::t=>if(b&&p y.rev)=true then kl true t else y::kl (p y.rev) t
def nW(o:Option AM)(y:AM):Bool:=(match o with|some z=>p z.rev&&decide (z.key=y.key)|none=>false)&&p y.rev
def kX:Option AM->List AM->List AM
 | _,[]=>[]
 | o,y::t=>if nW p o y=true then kX (some y) t else y::kX (some y) t
theorem ms(y:AM):∀(A:List AM)(o:Option AM),kX p o (A++[y])=kX p o A++(if nW p (A.getLast?.or o) y=true then[]else[y])
 | [],o=>by
  rw[qE,kX];show(if nW p o y=true then kX p (some y) []else y::kX p (some y) [])=[]++(if nW p o y=true then[]else[y]);split<;>rfl
 | x :: A, o => by
  have e:(x::A).getLast?.or o=A.getLast?.or (some x):=by
   cases A with
   | nil=>rfl
   | cons a A=>simp[List.getLast?_cons]
  rw[qx,kX,kX,ms y A (some x),e];split;rfl;rw[qx]
end
theorem l0(l:List Int)(Y:List AM):∀i,i<=Y.length->cf l Y i=kX (jF l) none (Y.take i)
 | 0,_=>by rw[cf,vE,kX]
 | i + 1, h => by
  have hi:i<Y.length:=by omega
  have f:=l0 l Y i (by omega);rw[cf,qe hi,qb hi,ms,<-f];dsimp only;have e:(Y.take i).getLast?.or none=if 0<i then Y[i-1]? else none:=by
   rw[Option.or_none,List.getLast?_eq_getElem?,vD,Ut (by omega)];by_cases c:0<i;rw[if_pos c,List.getElem?_take_of_lt (by omega)];rw[if_neg c];have:i=0:=by omega
   subst this;simp
  rw[e];by_cases c:0<i;have a:i-1<Y.length:=by omega
  rw[if_pos c,qe a];unfold nW;by_cases c1:jF l Y[i].rev=true<;>by_cases b:jF l Y[i-1].rev=true<;>by_cases d:Y[i-1].key=Y[i].key<;>simp[c,c1,b,d];rw[if_neg c,if_neg (λg=>c g.1)];simp[nW]
section
variable{p:Int->Bool}
theorem nb{o:Option AM}{t:List AM}(h:∀z y,o=some z->t.head? = some y->z.key≠y.key):kX p o t=kX p none t:=by
 cases t with
 | nil=>rw[kX,kX]
 | cons y t =>
  have:nW p o y=false:=by
   unfold nW;cases o with
   | none=>rfl
   | some z=>simp[h z y rfl rfl]
  have e:nW p none y=false:=rfl;rw[kX,kX,this,e]
theorem lj(k:Int):∀(t:List AM)(z:AM),z.key=k->kX p (some z) t=kl p (p z.rev) (t.takeWhile λx=>decide (x.key=k))++kX p none (t.dropWhile λx=>decide (x.key=k))
 | [],_,_=>by simp[kX,kl]
 | y::t,z,hz=>by
  by_cases c:y.key=k;have d:=lj k t y c;rw[List.takeWhile_cons_of_pos (by simpa using c),List.dropWhile_cons_of_pos (by simpa using c),kX,kl];have e:nW p (some z) y=(p z.rev&&p y.rev):=by simp[nW,hz,c]
  rw[e];by_cases q:(p z.rev&&p y.rev)=true;rw[if_pos q,if_pos q,d];have:p y.rev=true:=by simp at q;exact q.2
  rw[this];rw[if_neg q,if_neg q,d,qx];rw[List.takeWhile_cons_of_neg (by simpa using c),List.dropWhile_cons_of_neg (by simpa using c),kl,qE];exact nb λa b f g=>by cases f;cases g;rw[hz];exact λe=>c e.symm
theorem lz{y:AM}:∀{t:List AM} {b:Bool},y∈kl p b t->y∈t
 | [],_,h=>by rw[kl]at h;cases h
 | x::t,b,h=>by
  rw[kl]at h;split at h;exact Q9 _ (lz h);rcases qt.1 h with e|e;rw[e];exact qV ..;exact Q9 _ (lz e)
theorem lV{y:AM}{t:List AM}:kX p none (y::t)=y::kX p (some y) t:=by
 rw[kX];simp[nW]
theorem pF{α:Type}{q:α->Bool}{A B:List α}(h:∀x∈A,q x=true)(c:∀x,B.head? = some x->q x=false):(A++B).takeWhile q=A/\(A++B).dropWhile q=B:=by
 induction A with
 | nil =>
  cases B with
  | nil=>exact⟨rfl,rfl⟩
  | cons b B=>
   have:=c b rfl;rw[qE,List.takeWhile_cons_of_neg (by simp[this]),List.dropWhile_cons_of_neg (by simp[this])];exact⟨rfl,rfl⟩
 | cons a A ih=>
  obtain⟨e,f⟩:=ih λx d=>h x (Q9 _ d);have:=h a (qV ..);rw[qx,List.takeWhile_cons_of_pos this,List.dropWhile_cons_of_pos this,e,f];exact⟨rfl,rfl⟩
theorem mw{α:Type}{q:α->Bool}{x:α}:∀{l:List α},(l.dropWhile q).head? = some x->q x=false
 | [],h=>by simp at h
 | a::l,h=>by
  by_cases c:q a=true;rw[List.dropWhile_cons_of_pos c]at h;exact mw h;rw[List.dropWhile_cons_of_neg c]at h;cases h;simpa using c
theorem nD:∀(f b:Nat)(Y:List AM),Y.length<=f->(kX p none Y).length<=b->C8 b (kX p none Y)=(C8 f Y).map (kl p false)
 | f,b,[],_,_=>by
  rw[kX];cases f<;>cases b<;>simp[C8]
 | 0,_,_::_,h,_=>by simp at h
 | f+1,0,y::t,_,h=>by rw[lV]at h;simp at h
 | f + 1, b + 1, y :: t, h1, h2 => by
  have e:=lj (p:=p) y.key t y rfl;rw[lV]at h2 ⊢;rw[e]at h2 ⊢;obtain⟨T,g⟩:∃T,T=t.takeWhile λx=>decide (x.key=y.key):=⟨_,rfl⟩
  obtain⟨D,d⟩:∃D,D=t.dropWhile λx=>decide (x.key=y.key):=⟨_,rfl⟩
  have hDl:D.length<=t.length:=by rw[d];exact(List.dropWhile_sublist _).length_le
  rw[<-g,<-d]at h2 ⊢;have a:=pF (q:=λx:AM=>decide (x.key=y.key)) (A:=kl p (p y.rev) T) (B:=kX p none D) (λx c=>by
   have:=lz c;rw[g]at this;exact YO.1 (List.all_takeWhile ..) x this) (λx c=>by
   cases i:D with
   | nil=>rw[i,kX]at c;cases c
   | cons a D'=>
    rw[i,lV]at c;have:(a::D').head? = some x:=c;rw[<-i,d]at this;exact mw (q:=λx:AM=>decide (x.key=y.key)) this)
  rw[C8,C8,a.1,a.2,<-g,<-d,qr,kl];rw[nD f b D (by simp at h1;omega) (by simp at h2;omega)];simp
variable{acc rej:Int->Bool}
theorem kj:∀{l:List AM},l.any (λz=>acc z.rev)=false->Fe acc l=l
 | [],_=>rfl
 | y::l,h=>by
  rw[Wc,Bool.or_eq_false_iff]at h;rw[Fe,h.2,h.1];rfl
theorem na(h:∀x,p x=true->acc x=true):∀{l:List AM} {b:Bool},l.any (λz=>acc z.rev)=false->kl p b l=l
 | [],_,_=>rfl
 | y :: l, b, g => by
  rw[Wc,Bool.or_eq_false_iff]at g;have:p y.rev=false:=by
   cases e:p y.rev with
   | false=>rfl
   | true=>rw[h _ e]at g;cases g.1
  rw[kl,this,Bool.and_false,if_neg (by simp),na h g.2]
theorem nX(h:∀x,p x=true->acc x=true):∀(l:List AM)(b:Bool),l.any (λz=>acc z.rev)=true->(kl p b l).any (λz=>acc z.rev)=true\/b=true
 | [],_,g=>by simp at g
 | y::l,b,g=>by
  rw[kl];by_cases q:(b&&p y.rev)=true;exact .inr (by simp at q;exact q.1);rw[if_neg q,Wc];cases c:acc y.rev with
  | true=>exact .inl rfl
  | false=>
   rw[Wc,c,Bool.false_or]at g;rcases nX h l (p y.rev) g with e|e;rw[e];exact .inl rfl;rw[h _ e]at c;cases c
theorem kN(h:∀x,p x=true->acc x=true):∀(l:List AM)(b:Bool),Fe acc (kl p b l)=Fe acc l
 | [],_=>rfl
 | y::l,b=>by
  rw[kl];by_cases q:(b&&p y.rev)=true;rw[if_pos q,kN h l true,Fe];have:p y.rev=true:=by simp at q;exact q.2
  cases e:l.any (λz=>acc z.rev)with
  | true=>simp
  | false=>simp[h _ this,kj e]
  rw[if_neg q,Fe,Fe,kN h l (p y.rev)];cases e:l.any (λz=>acc z.rev)with
  | false=>
   rw[na h e,e]
  | true =>
   cases a:(kl p (p y.rev) l).any (λz=>acc z.rev)with
   | true=>rfl
   | false=>
    have c:=kN h l (p y.rev);rw[kj a]at c;have d:p y.rev=true:=(nX h l (p y.rev) e).resolve_left (by rw[a];simp);rw[h _ d,if_neg (by simp),if_pos rfl,c,if_pos rfl]
theorem ku(h:∀x,p x=true->rej x=true)(P:Int×Bool):∀(l:List AM)(b:Bool)(now:Int×Bool),GZ rej P (kl p b l) now=GZ rej P l now
 | [],_,_=>rfl
 | y::l,b,now=>by
  rw[kl];by_cases q:(b&&p y.rev)=true;have:p y.rev=true:=by simp at q;exact q.2
  rw[if_pos q,ku h P l true now,GZ,if_pos (h _ this)];rw[if_neg q,GZ,GZ];by_cases r:rej y.rev=true;rw[if_pos r,if_pos r,ku h P l];rw[if_neg r,if_neg r];have a:p y.rev=false:=by
   cases c:p y.rev with
   | false=>rfl
   | true=>exact absurd (h _ c) r
  have e:KZ P (kl p (p y.rev) l)=KZ P l:=by
   rw[a];cases l with
   | nil=>rfl
   | cons x l=>rw[kl,Bool.false_and,if_neg (by simp)];rfl
  rw[e,ku h P l]
end
def C2(δ:AF->Option AF)(d:AG):AG:=⟨AB.rlL δ d.W,(δ d.T0).getD DN,d.V,d.S⟩
theorem Lb{rej:Int->Bool}{p:Int×Bool}:∀{l:List AM} {now:Int×Bool} {y:AM},y∈(GZ rej p l now).1->∃x∈l,x.rev=y.rev
 | [],_,_,h=>by cases h
 | x::l,now,y,h=>by
  rw[GZ]at h;split at h;obtain⟨z,a,e⟩:=Lb h;exact⟨z,Q9 _ a,e⟩;rcases qt.1 h with e|e;exact⟨x,qV ..,by rw[e]⟩;obtain⟨z,a,e⟩:=Lb e;exact⟨z,Q9 _ a,e⟩
theorem Ii{acc rej:Int->Bool}{ps:List Bi}:∀{G:List (List AM)} {o:List Bi×List AM} {y:AM},y∈(G.foldl (CM acc rej ps) o).2->y∈o.2\/∃g∈G,∃x∈g,x.rev=y.rev
 | [],_,_,h=>.inl h
 | g::G,o,y,h=>by
  rw[J5]at h;rcases Ii h with e|⟨k,c,x,a,e⟩
  have e:y∈o.2++(Du acc rej (Ix ps (g.headD ⟨0,0,0,false⟩).key) g).1:=e;rcases qd.1 e with e|e;exact .inl e;obtain⟨x,a,b⟩:=Lb e;exact .inr ⟨g,qV ..,x,(HW a).1,b⟩;exact .inr ⟨k,Q9 _ c,x,a,e⟩
theorem UD{acc rej:Int->Bool}{h h':AF}(e:CE acc rej h=some h'){y:Int}(h0:y≠0)(b:y∈h'.all):y∈h.all:=by
 unfold CE at e;split at e;cases e;cases e;rw[JZ]at b ⊢;rcases b with g|⟨d,a,g⟩|⟨d,a,g⟩
 left;have g:y=if(decide (h.I≠0)&&acc h.I)=true then 0 else h.I:=g
 split at g;exact absurd g h0;exact g;exact .inr (.inl ⟨d,(Kq.1 (show d∈h.Y.filter _ from a)).1,g⟩);rcases Ii (show d∈((C8 h.Z.length h.Z).foldl (CM acc rej h.Q) (h.Q,[])).2 from a)with q|⟨k,c,x,f,q⟩
 cases q;exact .inr (.inr ⟨x,K0 c f,q.trans g⟩)
theorem UP{m2:List Int}{h:AF}(H:Hd m2 h){y:Int}(h0:y≠0)(b:y∈h.all):y∈m2:=by
 rcases JZ.1 b with e|⟨d,a,e⟩|⟨d,a,e⟩
 exact H.I.elim (λg=>absurd (e.trans g) h0) λg=>e▸g;exact e▸H.Y d a;exact e▸H.Z d a
section
variable{m2:List Int}{N K:Nat}{d:AG}{rev:Int}{acc rej acc' rej':Int->Bool}
end
structure oH(p acc rej:Int->Bool):Prop where
 h:(∀x,p x=true->acc x=true)\/((∀x,p x=true->rej x=true)/\∀x,acc x=false)
section
variable{p acc rej:Int->Bool}
theorem oH.grp(V:oH p acc rej)(P:Int×Bool)(g:List AM):Du acc rej P (kl p false g)=Du acc rej P g:=by
 unfold Du;rcases V.h with h|⟨h,h2⟩
 rw[kN h];have no:∀k:List AM,Fe acc k=k:=λk=>kj (List.any_eq_false.2 λx _=>by simp[h2]);have e:KZ P (kl p false g)=KZ P g:=by
  cases g with
  | nil=>rfl
  | cons x g=>rw[kl,Bool.false_and,if_neg (by simp)];rfl
 rw[no,no,ku h,e]
theorem oH.step(V:oH p acc rej)(ps:List Bi)(o:List Bi×List AM)(g:List AM):CM acc rej ps o (kl p false g)=CM acc rej ps o g:=by
 have e:(kl p false g).headD ⟨0,0,0,false⟩=g.headD ⟨0,0,0,false⟩:=by
  cases g with
  | nil=>rfl
  | cons x g=>rw[kl,Bool.false_and,if_neg (by simp)];rfl
 unfold CM;rw[e];dsimp only;rw[V.grp]
theorem oH.fold(V:oH p acc rej)(ps:List Bi):∀(G:List (List AM))(o:List Bi×List AM),(G.map (kl p false)).foldl (CM acc rej ps) o=G.foldl (CM acc rej ps) o
 | [],_=>rfl
 | g::G,o=>by rw[qr,J5,J5,V.step,V.fold]
end
section
variable{l:List Int}{L:List (Int×Int)}{acc rej:Int->Bool}
theorem lA(a:List Bs):gF l L a=kc l L a true:=by unfold gF;rw[l9];rfl
theorem lL(h:∀x,jF l x=true->rej x=true):∀(a:List Bs)(f:Bool),(kc l L a f).filter (λx=>!rej x.rev)=a.filter λx=>!rej x.rev
 | [],_=>rfl
 | d::a,f=>by
  rw[kc];by_cases c:jF l d.rev=true;rw[if_pos c];cases f with
  | true=>rw[if_pos rfl,VX (by simp[h _ c]),VX (by simp[h _ c]),lL h]
  | false=>rw[if_neg (by simp),VX (by simp[h _ c]),lL h]
  rw[if_neg c,List.filter_cons,List.filter_cons,lL h]
theorem ma:∀(a:List Bs)(f:Bool),a.any (λd=>jF l d.rev)=false->kc l L a f=a
 | [],_,_=>rfl
 | d::a,f,h=>by
  rw[Wc,Bool.or_eq_false_iff]at h;rw[kc,if_neg (by rw[h.1];simp),ma a f h.2]
theorem mq:∀(a:List Bs),a.any (λd=>jF l d.rev)=true->(kc l L a true).any (λd=>jF l d.rev)=true
 | [],h=>by simp at h
 | d::a,h=>by
  rw[kc];by_cases c:jF l d.rev=true;rw[if_pos c,if_pos rfl,Wc,c];rfl;rw[if_neg c,Wc];rw[Wc]at h;rw[mq a (by simpa[c]using h)];simp
theorem km:∀(a:List Bs)(f:Bool),((kc l L a f).map (·.rev)).Sublist (a.map (·.rev))
 | [],_=>List.Sublist.refl _
 | d::a,f=>by
  rw[kc];by_cases c:jF l d.rev=true;rw[if_pos c];cases f with
  | true=>rw[if_pos rfl];exact(km a false).cons_cons _
  | false=>rw[if_neg (by simp)];exact(km a false).cons _
  rw[if_neg c];exact(km a f).cons_cons _
theorem mr{a:List Bs}(h:K4 a)(f:Bool):K4 (kc l L a f):=by
 have h:(a.map (·.rev)).Pairwise (· < ·):=List.pairwise_map.2 h;exact List.pairwise_map.1 (h.sublist (km a f))
theorem oM(V:oH (jF l) acc rej)(h:AF)(_hk:(jF l h.I&&h.Y.any λd=>jF l d.rev)=false):CE acc rej (bp l L h)=CE acc rej h:=by
 have s:∀o,(C8 (bp l L h).Z.length (bp l L h).Z).foldl (CM acc rej h.Q) o=(C8 h.Z.length h.Z).foldl (CM acc rej h.Q) o:=λo=>by
  have e:(bp l L h).Z=kX (jF l) none h.Z:=by
   show cf l h.Z h.Z.length=_;rw[l0 l h.Z _ (qa _),qm]
  rw[e,nD h.Z.length _ h.Z (qa _) (qa _),V.fold]
 have hI:jF l h.I=true->h.I≠0:=λg=>by unfold jF at g;simp at g;exact g.1
 have p:(decide (h.I≠0)&&rej h.I||(bp l L h).Y.any λx=>acc x.rev)=(decide (h.I≠0)&&rej h.I||h.Y.any λx=>acc x.rev):=by
  show(_||(gF l L h.Y).any λx=>acc x.rev)=_;rw[lA];rcases V.h with g|⟨g,f⟩
  cases c:h.Y.any λd=>jF l d.rev with
  | false=>rw[ma _ _ c]
  | true=>
   obtain⟨x,i,u⟩:=vo.1 (mq (L:=L) _ c);obtain⟨y,w,v⟩:=vo.1 c;have a:(kc l L h.Y true).any (λx=>acc x.rev)=true:=vo.2 ⟨x,i,g _ u⟩;have b:h.Y.any (λx=>acc x.rev)=true:=vo.2 ⟨y,w,g _ v⟩;rw[a,b]
  have no:∀k:List Bs,(k.any λx=>acc x.rev)=false:=λk=>List.any_eq_false.2 λx _=>by simp[f]
  rw[no,no]
 unfold CE;have m:(bp l L h).I=h.I:=rfl;have n:(bp l L h).Q=h.Q:=rfl;rw[m,p];by_cases c:(decide (h.I≠0)&&rej h.I||h.Y.any λx=>acc x.rev)=true;rw[if_pos c,if_pos c];rw[if_neg c,if_neg c];simp only[n];rw[s];have j:(decide (h.I≠0)&&rej h.I)=false/\(h.Y.any λx=>acc x.rev)=false:=by simpa using c
 have r:(bp l L h).Y.filter (λx=>!rej x.rev)=h.Y.filter λx=>!rej x.rev:=by
  show(gF l L h.Y).filter _=_;rw[lA];rcases V.h with g|⟨g,f⟩
  have:(h.Y.any λd=>jF l d.rev)=false:=by
   rw[List.any_eq_false];intro x i e;have:=List.any_eq_false.1 j.2 x i;exact this (g _ e)
  rw[ma _ _ this];exact lL g _ _
 have t:(if(decide (h.I≠0)&&acc h.I)=true then 0 else(bp l L h).move)=if(decide (h.I≠0)&&acc h.I)=true then 0 else h.move:=by
  show(if _ then 0 else if jF l h.I=true then j9 L (h.I,h.move) 0 else h.move)=_;cases q:jF l h.I with
  | false=>rfl
  | true=>
   rcases V.h with g|⟨g,f⟩
   have z:=hI q;rw[g _ q];simp[z];have:=j.1;rw[g _ q]at this;simp[hI q]at this
 rw[r,t]
def mY(l:List Int)(L:List (Int×Int))(to:Int)(h:AF):Option AF:=if(jx l L to h).2=true then some (jx l L to h).1 else none
theorem ny(to:Int)(h:AF):mY l L to h=if(jF l h.I&&h.Y.any λd=>jF l d.rev)=true then none else some (E3 (jF l) to (bp l L h)):=by
 unfold mY jx;cases(jF l h.I&&h.Y.any λd=>jF l d.rev)<;>rfl
theorem oO{to:Int}{acc' rej':Int->Bool}(V:oH (jF l) acc rej){h:AF}(J:lw l to h)(h0:to≠0)(i:∀x,(x=h.I/\h.I≠0)\/(∃d∈h.Y,d.rev=x)\/(∃y∈h.Z,y.rev=x)->Jn (ED (jF l) to) acc rej acc' rej' x):
 (mY l L to h).bind (CE acc' rej')=CE acc rej h:=by
 rw[ny];by_cases c:(jF l h.I&&h.Y.any λd=>jF l d.rev)=true;rw[if_pos c];simp only[qo]at c;have z:h.I≠0:=by have:=c.1;unfold jF at this;simp at this;exact this.1
 obtain⟨y,j,m⟩:=vo.1 c.2;have:(decide (h.I≠0)&&rej h.I||h.Y.any λx=>acc x.rev)=true:=by
  rcases V.h with g|⟨g,_⟩
  have b:h.Y.any (λx=>acc x.rev)=true:=vo.2 ⟨y,j,g _ m⟩;rw[b];simp;rw[g _ c.1];simp[z]
 unfold CE;rw[if_pos this];rfl;rw[if_neg c,qK,<-oM (L:=L) V h (by simpa using c)];obtain⟨n,_⟩:=mA (l:=l) (L:=L) (to:=to) h.Y (TH J.inc) λd f g=>J.Y d f (by rw[nE J.nz]at g;simpa using g);have a:(bp l L h).Y=kc l L h.Y true:=lA _;refine UC h0 (by rw[a];exact mr J.inc _) (by rw[a];exact n) (λz=>i _ (.inl ⟨rfl,z⟩)) (λx k=>?_) λy j=>i _ (.inr (.inr ⟨y,kL _ _ y j,rfl⟩));rw[a]at k;obtain⟨d,f,e⟩:=lM _ _ x k;exact i _ (.inr (.inl ⟨d,f,e⟩))
end
section
variable{l:List Int}{L:List (Int×Int)}{K K':Ck}{el:Int}
theorem mF{a:List AM}{j:Nat}(d:j<a.length):Jr K el a j=0↔Jr K el [a[j]] 0=0/\¬(0<j/\a[j].key<(a.getD (j-1) a[j]).key):=by
 unfold Jr;rw[qe d];dsimp only[List.getElem?_cons_zero];have e:(decide (0<j)&&decide (a[j].key<(a.getD (j-1) a[j]).key))=decide (0<j/\a[j].key<(a.getD (j-1) a[j]).key):=by rw[Bool.decide_and]
 rw[e];by_cases b:0<j/\a[j].key<(a.getD (j-1) a[j]).key;rw[decide_eq_true b];refine iff_of_false ?_ λq=>q.2 b;by_cases c1:a[j].rev∈K.m2<;>by_cases c:Oh el a[j].key=true<;>simp[c1,c];rw[decide_eq_false b,and_iff_left b];by_cases c1:a[j].rev∈K.m2<;>by_cases c:Oh el a[j].key=true<;>simp[c1,c]
theorem nF{e:List AM}:(∀j,j<e.length->Jr K el e j=0)↔(∀x∈e,Jr K el [x] 0=0)/\e.Pairwise λa b=>a.key<=b.key:=by
 constructor;intro h;refine⟨λx g=>?_,J9.2 λi j hi d hij=>?_⟩;obtain⟨j,d,rfl⟩:=Kw g;exact((mF d).1 (h j d)).1
 induction j with
 | zero=>omega
 | succ j ih=>
  have:=((mF d).1 (h _ d)).2;rw[Nat.add_sub_cancel,Wn,qe (show j<e.length by omega),vR]at this;by_cases c:i=j;subst c;omega;have:=ih (by omega) (by omega);omega
 rintro⟨h1,h2⟩ j d;refine(mF d).2 ⟨h1 _ (qi d),λ⟨c1,f⟩=>?_⟩;have:=J9.1 h2 (j-1) j (by omega) d (by omega);rw[Wn,qe (show j-1<e.length by omega),vR]at f;omega
theorem kn{p:Int->Bool}:∀(Y:List AM)(o:Option AM),(kX p o Y).Sublist Y
 | [],_=>by rw[kX];exact List.Sublist.refl _
 | y::Y,o=>by
  rw[kX];split;exact(kn Y _).cons _;exact(kn Y _).cons_cons _
theorem nZ:∀(a:List Bs)(f:Bool),∀x∈kc l L a f,x∈a\/∃q,x.move=j9 L q 0
 | [],_,x,h=>by cases h
 | d::a,f,x,h=>by
  have b:=λf h=>(nZ a f x h).imp_left (Q9 d);rw[kc]at h;split at h;split at h;rcases qt.1 h with e|h;exact .inr ⟨_,by rw[e]⟩;exact b _ h;exact b _ h;rcases qt.1 h with e|h;exact .inl (by rw[e];exact qV ..);exact b _ h
theorem nI(x:Int×Int):∀(M:List (Int×Int))(k:Int),0<=k->0<=j9 M x k/\j9 M x k<=k+M.length
 | [],k,h=>by rw[j9];simp;omega
 | y::M,k,h=>by
  have:=nI x M (k+1) (by omega);rw[j9,qJ];split<;>push_cast<;>omega
theorem nt(hL:L.length<=1073741824){h:AF}(g:In K el h)(hi:K4 h.Y):In K el (bp l L h):=by
 have n:∀q,0<=j9 L q 0/\j9 L q 0<=1073741824:=λq=>by have:=nI q L 0 (by omega);omega
 have b:(bp l L h).Y=kc l L h.Y true:=lA _;have i:(bp l L h).Z=kX (jF l) none h.Z:=by
  show cf l h.Z h.Z.length=_;rw[l0 l h.Z _ (qa _),qm]
 refine⟨g.Q,g.refs,g.I,?_,?_,λj f=>?_,?_,?_⟩;have:=g.mv;unfold It at this ⊢;show(!decide (0<=(if jF l h.I=true then j9 L (h.I,h.move) 0 else h.move)/\(if jF l h.I=true then j9 L (h.I,h.move) 0 else h.move)<=1073741824)||(decide ((if jF l h.I=true then j9 L (h.I,h.move) 0 else h.move)≠0)&&decide (h.I=0)))=false;by_cases c:jF l h.I=true;rw[if_pos c];have z:h.I≠0:=by unfold jF at c;simp at c;exact c.1
 have:=n (h.I,h.move);simp[z,this];rw[if_neg c];exact this;rw[b];have:=(km (l:=l) (L:=L) h.Y true).length_le;rw[qf,qf]at this;exact qI this g.dlen;rw[G6 f];have m:(bp l L h).Y[j]∈kc l L h.Y true:=by rw[<-b];exact qi f
 obtain⟨d,r,e⟩:=lM _ _ _ m;obtain⟨k,a,rfl⟩:=Kw r;refine⟨by rw[<-e];exact((G6 a).1 (g.Y k a)).1,λj0=>?_,?_⟩;have:=mr (l:=l) (L:=L) hi true;rw[<-b]at this;exact J9.1 this (j-1) j (by omega) f (by omega);rcases nZ _ _ _ m with q|⟨q,o⟩
 obtain⟨k,a,p⟩:=Kw q;rw[<-p];exact((G6 a).1 (g.Y k a)).2.2;rw[o];exact n q;rw[i];exact qI (kn _ _).length_le g.llen;rw[i];obtain⟨h1,h2⟩:=nF.1 g.Z;exact nF.2 ⟨λx s=>h1 x ((kn _ _).mem s),h2.sublist (kn _ _)⟩
theorem nu{to:Int}(h0:K.m0=K'.m0)(h1:K.m1=K'.m1)(c:L.length<=1073741824){h h':AF}(g:In K el h)(J:lw l to h)(i:∀x,x∈K.m2->ED (jF l) to x∈K'.m2)(a:to≠0)(e:mY l L to h=some h'):In K' el h':=by
 rw[ny]at e;split at e;cases e;cases e;refine U6 h0 h1 (nt c g J.inc) i a ?_;obtain⟨j,_⟩:=mA (l:=l) (L:=L) (to:=to) h.Y (TH J.inc) λd f g=>J.Y d f (by rw[nE J.nz]at g;simpa using g);have b:(bp l L h).Y=kc l L h.Y true:=lA _;have:=L3 j;rw[qf]at this;show K4 (Co ((bp l L h).Y.map _) (bp l L h).Y.length);rw[b];exact this
end
theorem KT{X:AG}{y:Int}:y∈(Kd X).m2↔∃r∈X.V,r.id=y:=Wz rfl
section
variable{m2:List Int}{N K:Nat}{d:AG}{rev:Int}
end
theorem pw(g:FuncId)(a b:List SV):PC 95 [.i 0 [] true,.fn (.func g) a b] (.i 0 [] true):=by
 intro h n;refine gq func95 rfl λc=>?_;have hI:=pH [] (by simp) g a b (λ_=>false) (λi hi=>by simp at hi);have hi:BI (λ_=>false) 0 0 = -1:=by unfold BI;simp
 simp[go_sem];refine wn (bs:=[.i 2 (([]:List (Int×Int)).map Gf) false,.fn (.func g) a b]) (h2:=h) 1 AC ⟨Bj (by simp),IO,trivial⟩ (hI.use ?_);simp[go_sem,hi];exact As c rfl rfl
theorem pG:PC 101 [.i 0 [] true] (.i 0 [] true):=by
 intro h n;refine gq func101 rfl λa=>?_;simp[go_sem];exact As a rfl rfl
theorem px(z:Nat)(full:Bool):PC 97 [.i z [] full,.fn (.func 98) [] []] (.tup []):=by
 intro h n;refine⟨pQ,λc vs _ R F A=>?_⟩;have⟨u,rs,ev,hv,A2⟩:∃u rs,vs=u::rs/\V c (.i z [] full) u/\Ag (V c) [.fn (.func 98) [] []] rs:=by
  cases vs with
  | nil=>exact A.elim
  | cons u rs=>exact⟨u,rs,rfl,A.1,A.2⟩
 obtain⟨b,rfl,hv2⟩:=A2.single;subst ev;rw[V]at hv;have fin:∀(p:Option Addr)(cap:Nat),Calls prog 97 #[.slice p 0 cap,b] c.w λe w'=>e=.returned (.tuple #[])/\w'=c.w:=λp cap=>AnyF.slices_SortFunc_none Tryz.sortB p cap b c.w;have key:∃p cap,u=.slice p 0 cap:=by
  rcases hv with⟨_,rfl⟩|⟨a,cap,_,rfl,_⟩
  exact⟨_,_,rfl⟩;exact⟨_,_,rfl⟩
 obtain⟨p,cap,rfl⟩:=key;refine(fin p cap).mono ?_;rintro e w' ⟨rfl,rfl⟩;exact⟨.tuple #[],.tup [],h,n,c,rfl,⟨rfl,rfl,rfl⟩,rfl,by simp[V,VL],R,F,vm n c⟩
def rV(o:Option Nat)(r:List (Int×Int))(f:Bool):SV:=match o with|none=>.i 0 [] true|some j=>.sl j 0 2 r.length f
def rH(o:Option Nat)(r:List (Int×Int))(t:List SV)(H:Hp):Hp:=match o with|none=>H|some j=>h_ H j (some (.cells (kC r++t)))
theorem pE(o:Option Nat)(r:List (Int×Int)):AW 2 o (r.map Gf)=rV o r false:=by cases o<;>simp[AW,rV]
theorem pC(o:Option Nat)(r:List (Int×Int))(H:Hp):AV o (r.map Gf) H=rH o r [] H:=by cases o<;>simp[AV,rH,kC]
theorem nJ{o:Option Nat}{r:List (Int×Int)}{t:List SV}{H:Hp}:∀j,o=some j->rH o r t H j=some (.cells (kC r++t)):=by rintro j rfl;simp[rH,h_]
theorem lr{o:Option Nat}{r:List (Int×Int)}{t:List SV}{H:Hp}{m:Nat}(h:o≠some m):rH o r t H m=H m:=by
 cases o with
 | none=>rfl
 | some j=>simp only[rH];rw[AE _ _ (λg=>h (by rw[g]))]
theorem oA(o:Option Nat)(r a:List (Int×Int))(t b:List SV)(H:Hp):rH o r t (rH o a b H)=rH o r t H:=by cases o<;>simp[rH,Ah]
theorem pD{o:Option Nat}{r:List (Int×Int)}{t:List SV}{H:Hp}{m:Nat}{y:Option Bb}(h:o≠some m):h_ (rH o r t H) m y=rH o r t (h_ H m y):=by
 cases o with
 | none=>rfl
 | some j=>
  have:j≠m:=λg=>h (by rw[g]);simp only[rH];funext q;simp only[h_];by_cases h1:q=m;have:¬q=j:=by omega
  simp[h1];omega;simp[h1]
variable{H:Hp}{n:Nat}{o:Option Nat}{f:Bool}
theorem u95(l:List (Int×Int))(hl:l.length<=1048576)(hn:o=none->l=[])(g:FuncId)(a b:List SV)(p:(Int×Int)->Bool)(hp:∀x∈l,PC g (a++[(Gf x)]++b) (.bool (p x)))(c:∀j,o=some j->H j=some (.cells (kC l))):
 BL prog 95 [rV o l f,.fn (.func g) a b] H n (λv h' n'=>∃f2 t,v=rV o (l.filter λx=>!p x) f2/\h'=rH o (l.filter λx=>!p x) t H/\n'=n):=by
 cases o with
 | none=>
  refine((pw g a b) H n).mono ?_;rintro v h' n' ⟨rfl,rfl,rfl⟩;exact⟨true,[],rfl,rfl,rfl⟩
 | some j=>
  refine(d95 l hl g a b p hp (H:=H) (n:=n) (o:=j) (full:=f) (c j rfl)).mono ?_;rintro v h' n' ⟨f2,t,rfl,rfl,rfl⟩;exact⟨f2,t,rfl,rfl,rfl⟩
theorem u97(l:List (Int×Int))(hl:l.length<=1048576)(hn:o=none->l=[]){t:List SV}(a:∀j,o=some j->H j=some (.cells (kC l++t))):
 BL prog 97 [rV o l f,.fn (.func 98) [] []] H n (λv h' n'=>v=.tup []/\h'=rH o (jw l) t H/\n'=n):=by
 cases o with
 | none=>
  refine((px 0 true) H n).mono ?_;rintro v h' n' ⟨rfl,rfl,rfl⟩;exact⟨rfl,rfl,rfl⟩
 | some j=>exact d97 l hl (H:=H) (n:=n) (o:=j) (full:=f) (t:=t) (a j rfl)
theorem qB(l:List (Int×Int))(hl:l.length<=1048576)(hn:o=none->l=[]){t:List SV}(a:∀j,o=some j->H j=some (.cells (kC l++t))):
 BL prog 101 [rV o l f] H n (λv h' n'=>∃f2 t,v=rV o (kg l l.length) f2/\h'=rH o (kg l l.length) t H/\n'=n):=by
 cases o with
 | none=>
  refine(pG H n).mono ?_;rintro v h' n' ⟨rfl,rfl,rfl⟩;exact⟨true,[],rfl,rfl,rfl⟩
 | some j=>
  refine(p5 l hl (H:=H) (n:=n) (o:=j) (full:=f) (t:=t) (a j rfl)).mono ?_;rintro v h' n' ⟨f2,t,rfl,rfl,rfl⟩;exact⟨f2,t,rfl,rfl,rfl⟩
theorem pS{h' h:Hp}{k:Nat}{r:List (Int×Int)}{t:List SV}(hn:o=none->r=[])(h1:∀j,o=some j->h j=none)(c:∀j,o=some j->h' j=some (.cells (kC r++t))):Fz h' h (k+1) (rV o r f) (.i 2 (r.map Gf) false):=by
 cases o with
 | none=>rw[hn rfl];exact Bj (by simp)
 | some j=>
  have b:r.length=(r.map Gf).length:=by rw[qf]
  have d:=kB r;simp only[rV];rw[b];refine .inr ⟨h1 j rfl,by simp,rfl,rfl,kC r++t,kC r,c j rfl,?_,d,?_⟩;simp only[Bz,qU,vt];rw[qf,if_pos (by rw[qq,kE];omega),List.take_left' (kE r)];have:∀l:List SV,Ag (Fz h' h k) l l:=by
   intro l;induction l with
   | nil=>trivial
   | cons a l ih=>exact⟨IO,ih⟩
  exact this _
theorem lq(x:Int×Int):∀(L:List (Int×Int))(k:Int)(i:Nat),x∉L->Ga prog 89 [.int .i64 x.1,.int .i64 x.2] (ci L k) i=some none
 | [],k,i,_=>rfl
 | y :: L, k, i, h => by
  have a:(x.1==y.1&&x.2==y.2)=false:=by
   cases h1:(x.1==y.1)<;>cases h2:(x.2==y.2)<;>simp;exact h (qt.2 (.inl (Prod.ext (by simpa using h1) (by simpa using h2))))
  simp only[ci,Ga,Gf,jC];rw[a];exact lq x L (k+1) (i+1) λg=>h (Q9 _ g)
theorem mR:∀(a b:List (Int×Int))(k:Int),ci (a++b) k=ci a k++ci b (k+a.length)
 | [],b,k=>by simp[ci]
 | x::a,b,k=>by
  simp only[qx,ci,mR a b (k+1),qJ];congr 3;push_cast;omega
theorem mS:∀(L:List (Int×Int))(k:Int),∀p∈ci L k,ZM p
 | [],_,p,h=>by cases h
 | x::L,k,p,h=>by
  rcases qt.1 h with rfl|h;exact⟨_,_,rfl⟩;exact mS L (k+1) p h
end Go.Proofs.YtgakninlhfkkmaaGreat.Sh
namespace Go.Proofs.YtgakninlhfkkmaaGreat.Sh
open Go.Proofs.Tryz
open Proofs
set_option maxRecDepth 10000
set_option maxHeartbeats 4000000
def ou:Tr:=.pure 0<|.pure 2<|.one 1<|.one 3 .nil
theorem c27(D:AG)(l:List Int)(hl:l.length<=1048576)(to:BC)(w:Bool)(M:List (Int×Int))(hM:M.length<=1048576)(R:AG)(hr:D.V.length<=1048576)(ht:SK D.V)
 (jK:kH D l to=0->∀(p q n0:Nat),p≠q->p<n0->q<n0->∀(H:Hp)(n:Nat),n0<=n->H p=some (.cells [.bool false])->H q=some (.list 2 [])->BL prog 36 [D.e,Sd.e,.fn (.func 93) [] [.ptr p 0,.q [.i 1 (l.map AA) false],.ptr q 0]] H n (λv h' n'=>v=.tup []/\h'=BD (lJ p q) (w,M) H/\n'=n))
 (jN:kH D l to=0->w=false->∀(q n0:Nat),q<n0->∀(H:Hp)(n:Nat),n0<=n->H q=some (.map (ci (pP l M) 0))->BL prog 49 [.fn (.func 102) [] [.q [.i 1 (l.map AA) false],.q [AA to.id,.str to.O,AA to.time],.q [.map q]],D.e,Sd.e,BE (mc D l to)] H n (λv h' n'=>v=R.e/\h'=H/\n'=n)):
 PC 27 [D.e,.i 1 (l.map AA) false,to.e] (.tup [(o8 (o7 D l to w) R).e,AA (o7 D l to w)]):=by
 intro h n;refine DO func27 rfl λho=>?_;have S:=ho.lt;obtain⟨X,hX⟩:∃X:SV,X=.q ([AK D.W]++D.T0.g++[BE D.V]++D.S.g):=⟨_,rfl⟩
 obtain⟨V,hV⟩:∃V:SV,V=.q [AA to.id,.str to.O,AA to.time]:=⟨_,rfl⟩
 obtain⟨J,hJ⟩:∃J:SV,J=.i 1 (l.map AA) false:=⟨_,rfl⟩
 obtain⟨G,hG⟩:∃G:Hp,G=h_ h (n+2) (some (.cells Cq)):=⟨_,rfl⟩
 have K:G (n+2)=some (.cells Cq):=by rw[hG,AD]
 have u:∀j y,G j=some y->j<n+3:=λj y e=>by
  rw[hG]at e;simp only[h_]at e;split at e;omega;have:=S j y e;omega
 have hGk:∀j y,h j=some y->G j=some y:=λj y e=>by have:=S j y e;rw[hG,AE _ _ (by omega)];exact e
 obtain⟨A,hA⟩:∃A,A=o7 D l to w:=⟨_,rfl⟩
 rw[<-hA];have fin:∀(h':Hp)(n':Nat)(e:Int),(∀j y,h j=some y->h' j=some y)->A=e->e≠0->CO n h' n' (.tup [.agg Cq,AA e]) (Is (.tup [(o8 A R).e,AA A]) h n):=λh' n' e hh he hne=>by
  rw[o8,he,if_neg hne];refine Dj 3 ho hh (.inr ⟨.inr ?_,IO,trivial⟩) (Fy n zD e);exact⟨Bj (by simp),Bj (by simp),IO,IO,Bj (by simp),Bj (by simp),Bj (by simp),Bj (by simp),Bj (by simp),Bj (by simp),Bj (by simp),trivial⟩
 have keep:=AL (m:=n+2) (y:=some (.cells Cq)) (h:=h) (h':=G) (λj z e=>by have:=S j z e;omega) hGk;obtain⟨E,hE⟩:∃E,E=kH D l to:=⟨_,rfl⟩
 have hAE:E≠0->A=E:=λg=>by rw[hA];unfold o7;rw[<-hE,if_pos g]
 refine By 1 [(1,J),(3,X),(5,V),(6,.ptr (n+2) 0)] G (λm=>n+3<=m) ?_ (λm k=>?_);rw[hX,hV,hG,hJ];simp[go_sem,AG.e,BC.e,AF.g,AI.g,IO,qu,Cq];refine⟨⟨AZ (by simp[h_];exact ho.none (by omega)) (by simp[h_]),AZ (by simp[h_];exact ho.none (by omega)) (by simp[h_])⟩,λj y=>?_⟩;have:=S j y;simp only[h_];grind;refine Bg 0 [(1,J),(3,X),(5,V),(6,.ptr (n+2) 0)] G (λm=>n+3<=m/\l.length≠0) (AJ ?_) (λm k=>?_);rw[hJ];by_cases e0:l.length=0;have:l=[]:=List.length_eq_zero_iff.1 e0;subst this;simp[go_sem,K,Cq,AD];have e11:E=11:=by rw[hE];rfl
 exact fin _ _ 11 keep (by rw[hAE (by rw[e11];decide),e11]) (by decide);have e1:l≠[]:=λg=>e0 (by rw[g];rfl);simp[go_sem,IO,k,e1];obtain⟨k,hl0⟩:=k;have P:E=if jy D.V none l≠0 then jy D.V none l else if Cn to≠0 then Cn to else if(CT D.V to.id).2=true/\to.id∉l then 7 else 0:=by rw[hE];unfold kH;rw[if_neg hl0]
 refine Bg 0 [(1,J),(3,X),(5,V),(6,.ptr (n+2) 0)] G (λm=>n+3<=m/\jy D.V none l=0) ?_ (λm k=>?_);refine By 0 [(1,J),(3,X),(5,V),(6,.ptr (n+2) 0),(28,J),(29,AA l.length),(30,AA 0)] G (λm=>n+3<=m) ?_ (λm k=>?_);rw[hJ];simp[go_sem,IO,k];refine AY (BT 0 (α:=Nat) (λi=>[(1,J),(3,X),(5,V),(6,.ptr (n+2) 0),(28,J),(29,AA l.length),(30,AA i)]) (λ_=>G) (λi m=>i<=l.length/\n+3<=m/\jy D.V none l=jy D.V (kT l i) (l.drop i)) (λi=>l.length-i) 0 ⟨by omega,k,rfl⟩ ?_ AC ?_);simp[go_sem,Ao,IO];rintro i m ⟨hi,k,h0⟩;by_cases B:i<l.length;have w1:=wS i (by omega);obtain⟨x,hx⟩:∃x,l[i]=x:=⟨_,rfl⟩
 have C:=nU (T:=D.V) B hx;rw[<-h0]at C;have Z:∀(e:Int)(m:Nat)(h':Hp),(∀j y,h j=some y->h' j=some y)->jy D.V none l=e->e≠0->CO n h' m (.tup [.agg Cq,AA e]) (Is (.tup [(o8 A R).e,AA A]) h n):=λe m h' hh h1 h2=>fin _ _ e hh (by
  have:E=e:=by rw[P,h1,if_pos h2]
  rw[hAE (by rw[this];exact h2),this]) h2
 refine B5 0 [(1,J),(3,X),(5,V),(6,.ptr (n+2) 0),(28,J),(29,AA l.length),(30,AA i),(31,.bool true)] G m ?_ (λm2 I=>?_);simp[go_sem,IO,B];subst I;refine B5 0 [(1,J),(3,X),(5,V),(6,.ptr (n+2) 0),(28,J),(29,AA l.length),(30,AA i)] G m ?_ (λm2 I=>?_);simp[go_sem,IO];subst I;refine AX 0 (α:=Unit) (λ_=>[(1,J),(3,X),(5,V),(6,.ptr (n+2) 0),(28,J),(29,AA l.length),(30,AA i)]) (λ_=>G) (λ_ m=>n+3<=m/\jy D.V none l=jy D.V (kT l (i+1)) (l.drop (i+1))) (AY ?_) (λ_ m k=>?_);refine B5 0 [(1,J),(3,X),(5,V),(6,.ptr (n+2) 0),(28,J),(29,AA l.length),(30,AA i),(8,AA i),(9,AA x)] G m ?_ (λm2 I=>?_);rw[hJ];simp[go_sem,IO,B,hx];subst I;refine By 0 [(1,J),(3,X),(5,V),(6,.ptr (n+2) 0),(28,J),(29,AA l.length),(30,AA i),(8,AA i),(9,AA x),(11,.bool (CT D.V x).2)] G (λm2=>n+3<=m2) ?_ (λm2 I=>?_);rw[hX];simp[go_sem,AF.g,AI.g];refine qz (fW D.V hr x) ?_;simp[go_sem,IO,BC.e,AD,Ah];exact⟨by omega,AL (λj z e=>by have:=u j z e;omega) AC⟩;refine AY ?_;refine By 0 [(1,J),(3,X),(5,V),(6,.ptr (n+2) 0),(28,J),(29,AA l.length),(30,AA i),(8,AA i),(9,AA x),(42,.bool (!(CT D.V x).2))] G (λm=>n+3<=m) ?_ (λm k=>?_);simp[go_sem,IO,I];cases e:(CT D.V x).2 with
 | false=>
  refine Au (b:=true) (by simp[go_sem]) (AJ ?_);simp[go_sem,K,Cq,AD];exact Z 22 _ _ keep (by rw[C,e];rfl) (by decide)
 | true=>
  rw[e,if_neg (by decide)]at C;refine Au (b:=false) (by simp[go_sem]) ?_;simp only[qn,if_false];by_cases i0:i=0;subst i0;refine By 0 [(1,J),(3,X),(5,V),(6,.ptr (n+2) 0),(28,J),(29,AA l.length),(30,AA (0:Nat)),(8,AA (0:Nat)),(9,AA x),(46,.bool false)] G (λm=>n+3<=m) ?_ (λm k=>?_);simp[go_sem,IO,k];refine Au (b:=false) (by simp[go_sem]) ?_;simp only[qn,if_false];refine By 0 [(1,J),(3,X),(5,V),(6,.ptr (n+2) 0),(28,J),(29,AA l.length),(30,AA (0:Nat)),(8,AA (0:Nat)),(9,AA x),(59,.bool false)] G (λm=>n+3<=m) ?_ (λm k=>?_);simp[go_sem,IO,k];refine Au (b:=false) (by simp[go_sem]) (AJ ?_);simp[go_sem,IO,k];rw[C];simp[kT];have i1:0<i:=by omega
  have hi1:i-1<l.length:=by omega
  have w2:IntKind.i64.wrap ((i:Int)-1)=((i-1:Nat):Int):=by rw[DA]<;>omega
  obtain⟨y,hy⟩:∃y,l[i-1]=y:=⟨_,rfl⟩
  have hp:kT l i=some y:=by
   obtain⟨j,rfl⟩:∃j,i=j+1:=⟨i-1,by omega⟩
   rw[kT,qe (by omega)];simpa using hy
  rw[hp]at C;simp only at C;refine By 0 [(1,J),(3,X),(5,V),(6,.ptr (n+2) 0),(28,J),(29,AA l.length),(30,AA i),(8,AA i),(9,AA x),(46,.bool (decide (x=y)))] G (λm=>n+3<=m) ?_ (λm k=>?_);rw[hJ];simp[go_sem,IO,k,i1,w2,hi1,hy];rw[show(x==y)=decide (x=y)from rfl];exact IO;by_cases exy:x=y;refine Au (b:=true) (by simp[go_sem,exy]) (AJ ?_);simp[go_sem,K,Cq,AD];exact Z 7 _ _ keep (by rw[C,if_pos exy]) (by decide);rw[if_neg exy]at C;refine Au (b:=false) (by simp[go_sem,exy]) ?_;simp only[qn,if_false];refine By 0 [(1,J),(3,X),(5,V),(6,.ptr (n+2) 0),(28,J),(29,AA l.length),(30,AA i),(8,AA i),(9,AA x),(59,.bool (decide (x<y)))] G (λm=>n+3<=m) ?_ (λm k=>?_);rw[hJ];simp[go_sem,IO,k,i1,w2,hi1,hy];by_cases lxy:x<y;refine Au (b:=true) (by simp[go_sem,lxy]) (AJ ?_);simp[go_sem,K,Cq,AD];exact Z 6 _ _ keep (by rw[C,if_pos lxy]) (by decide);rw[if_neg lxy]at C;refine Au (b:=false) (by simp[go_sem,lxy]) (AJ ?_);simp[go_sem,IO,k];exact C
 refine AJ ?_;simp[go_sem,w1,IO,-Int.natCast_add];exact⟨i+1,by omega,⟨by omega,k.1,k.2⟩,IO⟩;refine AJ ?_;rw[Vk (by omega),jy]at h0;simp[go_sem,B,IO];exact⟨k,h0⟩;obtain⟨k,e1⟩:=k;rw[e1,if_neg (by decide)]at P;refine Bg 0 [(1,J),(3,X),(5,V),(6,.ptr (n+2) 0)] G (λm=>n+3<=m/\Cn to=0) (AJ ?_) (λm k=>?_);rw[hV];simp[go_sem];refine qz (by simpa[BC.e]using d7 to) ?_;by_cases e2:Cn to=0;simp[go_sem,e2,IO,k];simp[go_sem,e2,K,Cq,AD];have e3:E=Cn to:=by rw[P,if_pos e2]
 exact fin _ _ _ keep (by rw[hAE (by rw[e3];exact e2),e3]) e2;obtain⟨k,e2⟩:=k;rw[e2,if_neg (by decide)]at P;obtain⟨N,hN⟩:∃N:SV,N=.q [.i 1 (l.map AA) false]:=⟨_,rfl⟩
 refine By 1 [(1,J),(3,X),(5,V),(6,.ptr (n+2) 0),(13,N)] G (λm=>n+3<=m) ?_ (λm k=>?_);have hGm:∀j y,G j=some y->j<m:=λj y e=>by have:=u j y e;omega
 rw[hN,hJ];simp[go_sem,IO,AD,Ah];exact⟨by omega,AZ (AS hGm (qa _)) (AD _ _ _),AL hGm AC⟩;have hto:to.id≠0:=by have:=OC e2;omega
 have hhas:jF l to.id=decide (to.id∈l):=by unfold jF;simp[hto]
 refine Bg 0 [(1,J),(3,X),(5,V),(6,.ptr (n+2) 0),(13,N)] G (λm=>n+3<=m/\E=0) (AJ ?_) (λm k=>?_);have hGm:∀j y,G j=some y->j<m:=λj y e=>by have:=u j y e;omega
 rw[hX,hV,hN];simp[go_sem,AF.g,AI.g];refine qz (fW D.V hr to.id) ?_;cases e3:(CT D.V to.id).2 with
 | false=>
  simp[go_sem,BC.e,AD,Ah,IO];exact⟨⟨by omega,by rw[P,e3];simp⟩,AL hGm AC⟩
 | true=>
  simp[go_sem,BC.e,AD,Ah];refine qz (pZ l (by omega) to.id false) ?_;rw[hhas];by_cases e4:to.id∈l;simp[go_sem,e4,IO];exact⟨⟨by omega,by rw[P,e3];simp[e4]⟩,AL hGm AC⟩;have hne:m≠n+2:=by omega
  simp[go_sem,e4,AE _ _ hne.symm,K,Cq,AD];have e5:E=7:=by rw[P,e3,if_pos ⟨rfl,e4⟩]
  exact fin _ _ 7 (λj y e=>by have:=S j y e;rw[AE _ _ (by omega),AE _ _ (by omega)];exact hGk j y e) (by rw[hAE (by rw[e5];decide),e5]) (by decide)
 obtain⟨k,e3⟩:=k;have hz:kH D l to=0:=by rw[<-hE];exact e3
 have hA2:A=if w then 24 else 0:=by rw[hA];exact nY hz
 refine By 0 [(1,J),(3,X),(5,V),(6,.ptr (n+2) 0),(13,N),(16,.ptr m 0)] (h_ G m (some (.cells [.i 0 [] true]))) (λm'=>m+1=m') ?_ (λm' hm'=>?_);simp[go_sem,IO];subst hm';have q1:m≠m+1:=by omega
 refine By 0 [(1,J),(3,X),(5,V),(6,.ptr (n+2) 0),(13,N),(16,.ptr m 0),(17,.ptr (m+1) 0)] (h_ (h_ G m (some (.cells [.i 0 [] true]))) (m+1) (some (.cells [.bool false]))) (λm'=>m+2=m') ?_ (λm' hm'=>?_);simp[go_sem,IO,AD,Ah];subst hm';refine nO m 2 none (by rw[AE _ _ q1,AD]) ?_;obtain⟨W,hW⟩:∃W:Bool×List (Int×Int)->Hp,∀s,W s=h_ (h_ G m (some (.list 2 (s.2.map Gf)))) (m+1) (some (.cells [.bool s.1])):=⟨_,λ_=>rfl⟩
 have hW0:h_ (h_ (h_ G m (some (.cells [.i 0 [] true]))) (m+1) (some (.cells [.bool false]))) m (some (.list 2 []))=W (false,[]):=by
  rw[hW];funext j;simp only[h_,Yo];grind
 have hWup:∀s s',BD (lJ (m+1) m) s' (W s)=W s':=λs s'=>by
  rw[hW,hW];funext j;simp only[BD,lJ,h_];grind
 have hWp:∀s,W s (m+1)=some (.cells [.bool s.1]):=λs=>by rw[hW,AD]
 have hWq:∀s,W s m=some (.list 2 (s.2.map Gf)):=λs=>by rw[hW,AE _ _ q1,AD]
 have hWk:∀s j y,G j=some y->W s j=some y:=λs j y e=>by
  have:=u j y e;rw[hW,AE _ _ (by omega),AE _ _ (by omega)];exact e
 have hWb:∀s j y,W s j=some y->j<m+2:=λs j y e=>by
  rw[hW]at e;by_cases c1:j=m;omega;by_cases c2:j=m+1;omega;rw[AE _ _ c2,AE _ _ c1]at e;have:=u j y e;omega
 rw[hW0];have k36':=λ(m':Nat)(hm':m+2<=m')=>jK hz (m+1) m (m+2) q1.symm (by omega) (by omega) (W (false,[])) m' hm' (hWp _) (hWq _);simp only[hWup]at k36';refine AX 0 (α:=Unit) (λ_=>[(1,J),(3,X),(5,V),(6,.ptr (n+2) 0),(13,N),(16,.ptr m 0),(17,.ptr (m+1) 0)]) (λ_=>W (w,M)) (λ_ m'=>m+2<=m') (CK ou rfl (by kernel_rfl) (by kernel_rfl) ?_) (λ_ m2 I=>?_);rw[hX];simp[go_sem,ou,AF.g,AI.g];refine c67.use ?_;simp[go_sem];refine qP (by simpa[AG.e,AF.g,AI.g,hN]using k36' (m+2) (qa _)) ?_;rintro v H' n' ⟨rfl,rfl,rfl⟩;simp[go_sem,IO];refine Bg 0 [(1,J),(3,X),(5,V),(6,.ptr (n+2) 0),(13,N),(16,.ptr m 0)] (W (w,M)) (λm'=>m+2<=m'/\w=false) (AJ ?_) (λm3 hm3=>?_);cases hbd:w with
 | true=>
  rw[hbd]at hA2;have h1:W (true,M) (n+2)=some (.cells Cq):=hWk _ _ _ K;simp[go_sem,hWp,h1,Cq,AD];exact fin _ _ 24 (λj y e=>by have:=S j y e;rw[AE _ _ (by omega)];exact hWk _ _ _ (hGk j y e)) (by rw[hA2];rfl) (by decide)
 | false=>
  simp[go_sem,hWp,IO,I]
 obtain⟨hm3,hbd⟩:=hm3;have hA3:A=0:=by rw[hA2,hbd];rfl
 refine mn m (kB M) (hWq _) λo d hm4 hAc hoe=>?_;have hMn:o=none->M=[]:=λg=>List.map_eq_nil_iff.1 (hAc.none g);have hom:o≠some m:=λg=>by have:=(hAc.lt m g).1;omega
 rw[pC,pE];obtain⟨U,hU⟩:∃U:SV->Hp,∀v,U v=h_ (W (w,M)) m (some (.cells [v])):=⟨_,λ_=>rfl⟩
 have hUs:∀v v',h_ (U v) m (some (.cells [v']))=U v':=λv v'=>by rw[hU,hU,Ah]
 have hUm:∀v,U v m=some (.cells [v]):=λv=>by rw[hU,AD]
 have hUk:∀v j y,G j=some y->U v j=some y:=λv j y e=>by
  have:=u j y e;rw[hU,AE _ _ (by omega)];exact hWk _ j y e
 rw[<-hU];obtain⟨r,hrr⟩:∃r,r=M.filter λx=>jF l x.1:=⟨_,rfl⟩
 have hrl:r.length<=1048576:=by rw[hrr];exact qI (JM _ _) hM
 have hrn:o=none->r=[]:=λg=>by rw[hrr,hMn g];rfl
 have r1:∀r t v,rH o r t (U v) m=some (.cells [v]):=λr t v=>by rw[lr hom];exact hUm v
 have r2:∀r t v v',h_ (rH o r t (U v)) m (some (.cells [v']))=rH o r t (U v'):=λr t v v'=>by rw[pD hom,hUs]
 refine B8 0 (α:=Bx×List SV) (λq=>[(1,J),(3,X),(5,V),(6,.ptr (n+2) 0),(13,N),(16,.ptr m 0)]) (λq=>rH o r q.2 (U (rV o r q.1.b))) (λ_ m'=>d=m') ?_ (λq m5 hm5=>?_);simp[go_sem,r1];refine qP (u95 M hM hMn 96 [] [N] (λx=>!jF l x.1) (λx _=>by rw[hN];exact c96 l (by omega) x false) (f:=false) (H:=rH o M [] (U (rV o M false))) (n:=d) (λj e=>by have:=nJ (r:=M) (t:=[]) (H:=U (rV o M false)) j e;simpa using this)) ?_;rintro v H' n' ⟨f2,t,rfl,rfl,rfl⟩;simp only[Bool.not_not,<-hrr,oA];cases o with
 | none=>
  simp only[rV]at r1 r2 ⊢;simp[go_sem,r1,r2,IO];exact⟨⟨f2⟩,t,AC⟩
 | some j=>
  simp only[rV]at r1 r2 ⊢;simp[go_sem,r1,r2,IO];exact⟨⟨f2⟩,t,AC⟩
 obtain⟨⟨f2⟩,t⟩:=q;dsimp only;subst hm5;refine B5 0 [(1,J),(3,X),(5,V),(6,.ptr (n+2) 0),(13,N),(16,.ptr m 0)] (rH o (jw r) t (U (rV o r f2))) d ?_ (λm5 hm5=>?_);simp[go_sem,r1];refine qP (u97 r hrl hrn (f:=f2) (H:=rH o r t (U (rV o r f2))) (n:=d) (t:=t) (λj e=>nJ j e)) ?_;rintro v H' n' ⟨rfl,rfl,rfl⟩;simp[go_sem,oA,IO];subst hm5;have hsl:(jw r).length=r.length:=XI _;have hrV:rV o r f2=rV o (jw r) f2:=by cases o<;>simp[rV,hsl]
 rw[hrV];have hsn:o=none->jw r=[]:=λg=>List.length_eq_zero_iff.1 (by rw[hsl,hrn g];rfl);have hol:∀j,o=some j->j<d:=λj e=>(hAc.lt j e).2;have hUb:∀r t v j y,rH o r t (U v) j=some y->j<d:=λr t v j y e=>by
  by_cases c:o=some j;exact hol j c;rw[lr c,hU]at e;by_cases c2:j=m;omega;rw[AE _ _ c2]at e;have:=hWb _ j y e;omega
 refine By 0 [(1,J),(3,X),(5,V),(6,.ptr (n+2) 0),(13,N),(16,.ptr m 0),(18,.ptr (d+1) 0)] (h_ (h_ (rH o (jw r) t (U (rV o (jw r) f2))) d (some (.map []))) (d+1) (some (.cells [.map d]))) (λm'=>d+2=m') ?_ (λm5 hm5=>?_);simp[go_sem,IO,AD,Ah];subst hm5;obtain⟨L,hL⟩:∃L,L=pP l M:=⟨_,rfl⟩
 have hLd:kg (jw r) (jw r).length=L:=by rw[hL,hrr];rfl
 have hLi:o9 L:=by rw[hL];exact oX l M
 have hLl:L.length<=1048576:=by rw[<-hLd];have:=mB (jw r) (jw r).length;omega
 have hLn:o=none->L=[]:=λg=>by rw[<-hLd,hsn g];rfl
 obtain⟨F,O⟩:∃F:List (SV×SV)->Hp,∀es,F es=h_ (h_ G d (some (.map es))) (d+1) (some (.cells [.map d])):=⟨_,λ_=>rfl⟩
 have hK1:∀es,F es (d+1)=some (.cells [.map d]):=λes=>by rw[O,AD]
 have hK0:∀es,F es d=some (.map es):=λes=>by rw[O,AE _ _ (by omega),AD]
 have hKs:∀es es',h_ (F es) d (some (.map es'))=F es':=λes es'=>by rw[O,O];funext j;simp only[h_];grind
 have hKb:∀es j y,F es j=some y->j<d+2:=λes j y e=>by
  rw[O]at e;by_cases c1:j=d;omega;by_cases c2:j=d+1;omega;rw[AE _ _ c2,AE _ _ c1]at e;have:=u j y e;omega
 have hKk:∀es j y,G j=some y->F es j=some y:=λes j y e=>by
  have:=u j y e;rw[O,AE _ _ (by omega),AE _ _ (by omega)];exact e
 have hoj:∀j,o=some j->m3<=j/\j<d:=hAc.lt;refine Bg 0 [(1,J),(3,X),(5,V),(6,.ptr (n+2) 0),(13,N),(18,.ptr (d+1) 0)] (F (ci L 0)) (λm'=>d+2<=m') ?_ (λm6 hm6=>?_);refine By 1 [(1,J),(3,X),(5,V),(6,.ptr (n+2) 0),(13,N),(18,.ptr (d+1) 0),(110,.i 2 (L.map Gf) false),(111,AA L.length),(112,AA 0)] (F []) (λm'=>d+2<=m') ?_ (λm6 hm6=>?_);have y1:m≠d:=by omega
 have y2:m≠d+1:=by omega
 obtain⟨Y,hY⟩:∃Y:Hp,Y=h_ (h_ (rH o (jw r) t (U (rV o (jw r) f2))) d (some (.map []))) (d+1) (some (.cells [.map d])):=⟨_,rfl⟩
 have hYm:Y m=some (.cells [rV o (jw r) f2]):=by rw[hY,AE _ _ y2,AE _ _ y1];exact r1 _ _ _
 have hYj:∀j,o=some j->Y j=some (.cells (kC (jw r)++t)):=λj e=>by
  have:=hoj j e;rw[hY,AE _ _ (by omega),AE _ _ (by omega)];exact nJ j e
 have hYk:∀t j y,F [] j=some y->rH o L t Y j=some y:=λt j y e=>by
  by_cases c1:j=d;subst c1;rw[hK0]at e;rw[lr (λg=>by have:=hoj _ g;omega),hY,AE _ _ (by omega),AD];exact e;by_cases c2:j=d+1;subst c2;rw[hK1]at e;rw[lr (λg=>by have:=hoj _ g;omega),hY,AD];exact e;rw[O,AE _ _ c2,AE _ _ c1]at e;have:=u j y e;have c3:o≠some j:=λg=>by have:=hoj _ g;omega
  rw[lr c3,hY,AE _ _ c2,AE _ _ c1,lr c3];exact hUk _ j y e
 rw[<-hY];simp[go_sem,hYm];refine qP (qB (jw r) (by omega) hsn (f:=f2) (H:=Y) (n:=d+2) (t:=t) hYj) ?_;rintro v H' n' ⟨f3,t3,rfl,rfl,rfl⟩;rw[hLd];have hfz:Fz (rH o L t3 Y) (F []) 1 (rV o L f3) (.i 2 (L.map Gf) false):=pS hLn (λj e=>by
  have:=hoj j e;rw[O,AE _ _ (by omega),AE _ _ (by omega)];exact AS u (by omega)) (λj e=>nJ j e)
 have hk:=hYk t3;generalize rH o L t3 Y=Y2 at hfz hk ⊢;cases o with
 | none=>
  have hL0:=hLn rfl;simp only[rV]at hfz ⊢;simp[go_sem,IO,hL0];exact⟨by simpa[hL0]using hfz,hk⟩
 | some j=>
  simp only[rV]at hfz ⊢;simp[go_sem,IO];exact⟨hfz,hk⟩
 refine AY (BT 0 (α:=Nat) (λi=>[(1,J),(3,X),(5,V),(6,.ptr (n+2) 0),(13,N),(18,.ptr (d+1) 0),(110,.i 2 (L.map Gf) false),(111,AA L.length),(112,AA i)]) (λi=>F (ci (L.take i) 0)) (λi m=>i<=L.length/\d+2<=m) (λi=>L.length-i) 0 ⟨by omega,hm6⟩ ?_ (by rw[vE];exact AC) ?_);simp[go_sem,Ao,IO];rintro i m7 ⟨hi,hm7⟩;by_cases B:i<L.length;have w1:=wS i (by omega);obtain⟨x,hx⟩:∃x,L[i]=x:=⟨_,rfl⟩
 have htk:L.take (i+1)=L.take i++[x]:=by rw[qb B,hx]
 have hnot:x∉L.take i:=λg=>by
  obtain⟨j,hj,e⟩:=List.mem_take_iff_getElem.1 g;have:=J9.1 hLi j i (by omega) B (by omega);exact oS this (by rw[e,hx])
 refine B5 0 [(1,J),(3,X),(5,V),(6,.ptr (n+2) 0),(13,N),(18,.ptr (d+1) 0),(110,.i 2 (L.map Gf) false),(111,AA L.length),(112,AA i),(113,.bool true)] (F (ci (L.take i) 0)) m7 ?_ (λm k=>?_);simp[go_sem,IO,B];subst k;refine B5 0 [(1,J),(3,X),(5,V),(6,.ptr (n+2) 0),(13,N),(18,.ptr (d+1) 0),(110,.i 2 (L.map Gf) false),(111,AA L.length),(112,AA i)] (F (ci (L.take i) 0)) m7 ?_ (λm k=>?_);simp[go_sem,IO];subst k;refine AX 0 (α:=Unit) (λ_=>[(1,J),(3,X),(5,V),(6,.ptr (n+2) 0),(13,N),(18,.ptr (d+1) 0),(110,.i 2 (L.map Gf) false),(111,AA L.length),(112,AA i)]) (λ_=>F (ci (L.take (i+1)) 0)) (λ_ m=>d+2<=m) (AY ?_) (λ_ m k=>?_);refine By 1 [(1,J),(3,X),(5,V),(6,.ptr (n+2) 0),(13,N),(18,.ptr (d+1) 0),(110,.i 2 (L.map Gf) false),(111,AA L.length),(112,AA i),(19,AA i),(20,.q [AA x.1,AA x.2])] (F (ci (L.take i) 0)) (λm=>d+2<=m) ?_ (λm k=>?_);have hKm:∀j y,F (ci (L.take i) 0) j=some y->j<m7:=λj y e=>by have:=hKb _ j y e;omega
 simp[go_sem,IO,B,hx,Gf,AD,Ah];exact⟨by omega,AZ (AS hKm (qa _)) (AD _ _ _),AL hKm AC⟩;refine AJ ?_;simp[go_sem,hK1,w1,-Int.natCast_add];refine lI (q:=d) (a:=x.1) (b:=x.2) rfl (by simp[go_sem]) (hK0 _) (by simp[go_sem]) (mS _ _) (es2:=ci (L.take (i+1)) 0) (r:=none) ?_ (lq x _ _ _ hnot) ?_;have hil:(L.take i).length=i:=by rw[vD];omega
 rw[htk,mR,hil];simp[go_sem,Gf,ci];simp[go_sem,hKs,IO,k];refine AJ ?_;simp[go_sem,w1,IO,-Int.natCast_add];exact⟨i+1,by omega,⟨by omega,k⟩,IO,AC⟩;have:i=L.length:=by omega
 subst this;refine AJ ?_;rw[qm];simp[go_sem,IO];exact hm7;obtain⟨t1,t2,t3,_,_⟩:=l8 ht hz;obtain⟨Q,hQ⟩:∃Q:Hp,Q=h_ G d (some (.map (ci L 0))):=⟨_,rfl⟩
 have hKQ:∀j y,Q j=some y->F (ci L 0) j=some y:=λj y e=>by
  by_cases c1:j=d;subst c1;rw[hQ,AD]at e;rw[hK0];exact e;rw[hQ,AE _ _ c1]at e;exact hKk _ j y e
 have hQ0:Q d=some (.map (ci L 0)):=by rw[hQ,AD]
 have hQb:∀j y,Q j=some y->j<d+1:=λj y e=>by
  by_cases c1:j=d;omega;rw[hQ,AE _ _ c1]at e;have:=u j y e;omega
 have hQk:∀j y,G j=some y->Q j=some y:=λj y e=>by have:=u j y e;rw[hQ,AE _ _ (by omega)];exact e
 refine AX 1 (α:=Unit) (λ_=>[(3,X),(5,V),(6,.ptr (n+2) 0),(13,N),(18,.q [.map d]),(21,BE (mc D l to)),(22,AA 0)]) (λ_=>Q) (λ_ m=>d+2<=m) (CK ov rfl (by kernel_rfl) (by kernel_rfl) ?_) (λ_ m8 hm8=>?_);rw[hX,hJ,hV];simp[go_sem,ov,AF.g,AI.g];refine qz (c64 D.V hr l hl) ?_;simp[go_sem];refine qz (by simpa[BC.e]using po t2 t1 e2 t3) ?_;simp[go_sem,IO,mc,hm6];exact⟨AZ (AS hQb (qa _)) (hK1 _),hKQ⟩;refine Gz ?_;refine By 0 [(3,X),(5,V),(6,.ptr (n+2) 0),(13,N),(18,.q [.map d]),(21,BE (mc D l to)),(132,.bool false)] Q (λm=>d+2<=m) ?_ (λm9 hm9=>?_);simp[go_sem,IO,hm8];refine Au (b:=false) (by simp[go_sem]) ?_;simp only[qn,if_false];refine Hi ?_;rw[Fm];refine By 0 [(3,X),(6,.ptr (n+2) 0),(21,BE (mc D l to)),(23,.fn (.func 102) [] [N,V,.q [.map d]])] Q (λm=>d+2<=m) ?_ (λm10 hm10=>?_);simp[go_sem,IO,hm9];refine AX 0 (α:=Unit) (λ_=>[(6,.ptr (n+2) 0),(7,AA 0)]) (λ_=>h_ Q (n+2) (some (.cells ([AK R.W]++R.T0.g++[BE R.V]++R.S.g)))) (λ_ m=>d+2<=m) (CK pV rfl (by kernel_rfl) (by kernel_rfl) ?_) (λ_ m11 hm11=>?_);have hQz:Q (n+2)=some (.cells Cq):=hQk _ _ K;have hk:=jN hz hbd d (d+1) (by omega) Q m10 (by omega) (by rw[hQ0,hL]);rw[<-hN,<-hV]at hk;rw[hX];simp[go_sem,pV,AF.g,AI.g];refine c67.use ?_;simp[go_sem];refine qP (by simpa[AG.e,AF.g,AI.g]using hk) ?_;rintro v H' n' ⟨rfl,rfl,rfl⟩;simp[go_sem,hQz,Cq,IO,hm10];refine AJ ?_;simp[go_sem,AF.g,AI.g,AD];rw[o8,hA3,if_pos rfl];exact A3 ho (AL (λj z e=>by have:=S j z e;omega) (λj y e=>hQk j y (hGk j y e))) (by simp[AG.e,AF.g,AI.g]) (Fy n R 0)
end Go.Proofs.YtgakninlhfkkmaaGreat.Sh
