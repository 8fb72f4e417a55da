/- A part of the proof (part 17 of 17). -/
import Derived.Test.YthinbkgpjmjfeaaGreatDoorN16
import Derived.Test.YthinbkgpjmjfeaaGreatDoorTie
import Derived.Test.YthinbkgpjmjfeaaGreatDoorCards
import Derived.Deep.DeepHandedRow
import Derived.Deep.DeepWitnessRowRef
import Derived.Lib.LaidIn
import Derived.SevenTiedAt
import Derived.Test.YthinbkgpjmjfeaaGreatDoorNF
namespace Go.Proofs.YthinbkgpjmjfeaaGreatDoor.Sh
open Go.Proofs.Tryz
open Proofs
set_option maxRecDepth 10000
set_option maxHeartbeats 4000000
theorem Qv:∀(a pre L:List AR),L=pre++a->(∀i j (hi:i<L.length) (f:j<i),1<=L[i].id/\L[j].id<L[i].id)->(∀i (hi:i<L.length),1<=L[i].id/\(L[i].parent=0\/L[i].parent∈(L.take i).map (·.id)))->GI (pre.map (·.id)) a
 | [],_,_,_,_,_=>trivial
 | c::a,pre,L,hL,h1,h2=>by
  have b:=Qv a (pre++[c]) L (by simp[hL]) h1 h2;have k:pre.length<L.length:=by simp[hL]
  have h:L[pre.length]=c:=by simp[hL]
  have d:=h2 pre.length k;have l:L.take pre.length=pre:=by simp[hL]
  rw[h,l]at d;refine⟨λe=>by have:=d.1;rw[e]at this;omega,λg=>?_,d.2,by simpa using b⟩;obtain⟨x,o,e⟩:=qa.1 g;obtain⟨j,f,rfl⟩:=vX o;have m:=(h1 pre.length j k f).2;have n:L[j]=pre[j]:=by simp[hL,List.getElem_append_left f]
  rw[h,n,e]at m;omega
theorem T7{l:List AR}(h:JD l=0):l.length<=1024/\GI [] l:=by
 unfold JD at h;rw[EL]at h;obtain⟨h1,h2⟩:=h;have hl:l.length<=1024:=by
  by_cases c:(1024:Int)<l.length;rw[my c]at h1;exact absurd h1 (by decide);omega
 rw[vF hl]at h2;have key:∀i (hi:i<l.length),(1<=l[i].id/\(0<i->∀(hj:i-1<l.length),l[i-1].id<l[i].id))/\(l[i].parent=0\/l[i].parent∈(l.take i).map (·.id)):=λi hi=>by
  have h3:=GW h2 i hi;unfold Si at h3;rw[qk hi]at h3;dsimp only at h3;obtain⟨k1,k2⟩:=Nd h3;obtain⟨a1,_,a3⟩:=Pt k1;rw[qk hi]at a1 a3;refine⟨⟨a1,λi0 hj=>?_⟩,?_⟩;have:=a3 i0;rw[qk hj]at this;exact this
  . by_cases p0:l[i].parent=0;exact .inl p0
    . right;split at k2;exact absurd k2 (by decide)
      next g=>
      rw[vI,vV,decide_eq_true_eq,Tz,JB]at g;obtain⟨j,hj,e⟩:=g.resolve_left p0;rw[qk hj]at e;exact qa.2 ⟨_,qn hj,of_decide_eq_true e⟩
 have inc:∀i j (hi:i<l.length) (hj:j<i),l[j].id<l[i].id:=λi=>by
  induction i with
  | zero=>intro j _ hj;omega
  | succ i ih=>
   intro j hi hj;have s:=(key (i+1) hi).1.2 mq mq;simp only[Nat.add_sub_cancel]at s;by_cases e:j=i;subst e;exact s;have:=ih j mq mq;omega
 exact⟨hl,Qv l [] l rfl (λi j hi hj=>⟨(key i hi).1.1,inc i j hi hj⟩) λi hi=>⟨(key i hi).1.1,(key i hi).2⟩⟩
theorem W6{a b c d:Int}(h:BL [a,b,c,d]=0):c=0:=by
 simp only[BL]at h;by_cases h1:a=0<;>by_cases h2:b=0<;>by_cases h3:c=0<;>simp_all
theorem KX{s:AQ}(h:ah s=0):JD s.C=0:=W6 h
structure ON(m2:List Int)(N:Nat)(d:AI):Prop where
 lim:lim (Vy m2) 150000 N d.W
 T0 : Vy m2 d.T0
 mlen:m2.length<=1000
 rlen:d.V.length<=1048576
 set:d.S.l
 clen:d.S.C.length<=1024
 heads:(AB.hdL d.W).length<=3150
section
variable{m2:List Int}{N:Nat}{d e:AI}
theorem ON.doc(F:ON m2 N d):d.l/\d.normal.l/\(BG [] (AB.U (AY d.W)++d.T0.all)).length<=1048576:=Wq F.mlen mq F.lim F.T0 F.rlen F.set
theorem ON.rn(F:ON m2 N d){hp:AG->Prop}{T:Int->Prop}(hw:wf hp T N d.W):ON m2 N d.normal.renum/\(Cu 0 d.normal.W).2<=1099511627776:=by
 have h1:=LV hw;have h2:=QD (AY d.W) 0;have h3:=F.heads;refine⟨⟨S8 0 (Gv F.lim),F.T0,F.mlen,qC (vC _ _) F.rlen,F.set,F.clen,?_⟩,?_⟩;show(AB.hdL (Cu 0 (AY d.W)).1).length<=_;rw[N0];omega;show(Cu 0 (AY d.W)).2<=_;omega
theorem JK{hp:AG->Prop}{K:Nat}{T:Int->Prop}{g:AG->Prop}:∀{N:Nat} {l:List AB},wf g T N l->Sh.lim hp K N l->wf hp T N l
 | 0,_,h,_=>h.elim
 | N+1,l,H,L=>DG.2 λx j=>by
  obtain⟨a,b,c,q,e,f,w⟩:=DG.1 H x j;obtain⟨k,m,x3,i⟩:=(Ca.1 L).2.2 x j;exact⟨k,b,c,q,e,JK f m,λr hr=>⟨(i r hr).1,(w r hr).2.1,λy d=>⟨((w r hr).2.2 y d).1,((i r hr).2.2 y d).1,JK ((w r hr).2.2 y d).2.2 ((i r hr).2.2 y d).2⟩⟩⟩
theorem ON.Y(F:ON m2 N d){hp:AG->Prop}{T:Int->Prop}(hw:wf hp T N d.W):∀h∈AB.hdL d.W,h.Y.length<=16:=λh hh=>(I8 (JK hw F.lim) h hh).2.dlen
theorem ON.mvs(F:ON m2 N d){hp:AG->Prop}{T:Int->Prop}(hw:wf hp T N d.W):(C6 (AB.hdL d.W)).length<=53550:=by
 have:=aC (F.Y hw);have:=F.heads;omega
theorem Qo{R:List Int}{e:Int->Int->Int}(h0:(0:Int)∉R){x:AG}(h1:Vy m2 x)(h2:HR R x):Vy (R.map (BI R)) (OQ R e x):=by
 obtain⟨⟨a1,a2,a3⟩,⟨b1,c,b3,d,b5⟩⟩:=h1;refine⟨⟨a1,by show(x.Y.map _).length<=_;rw[qf];exact a2,by show(x.Z.map _).length<=_;rw[qf];exact a3⟩,⟨?_,by show(x.Y.map _).length<=_;rw[qf];exact c,λy a=>?_,by show(x.Z.map _).length<=_;rw[qf];exact d,λy a=>?_⟩⟩;by_cases g:x.I=0;left;show BI R x.I=0;rw[g,Cd.2 h0];exact .inr (qa.2 ⟨_,h2.I g,rfl⟩);obtain⟨z,b,rfl⟩:=qa.1 (show y∈x.Y.map _ from a);exact qa.2 ⟨_,h2.Y z b,rfl⟩;obtain⟨z,b,rfl⟩:=qa.1 (show y∈x.Z.map _ from a);exact qa.2 ⟨_,h2.lays z b,rfl⟩
theorem ON.can(F:ON m2 N e)(H:Hc N e)(hr:e.V.length<=1000):ON ((A6 e).map (BI (A6 e))) N (MR e):=by
 obtain⟨T,hw⟩:=H.wf;have hend:HR (A6 e) e.T0:=⟨λg=>absurd H.endi g,λ_=>H.endm,λd hd=>(by rw[H.endd]at hd;cases hd),H.endl⟩
 have a:(MR e).W=AB.gmL (OQ (A6 e) (Dy (A6 e) (Mm e))) (U7 (Io (H5 e))) id e.W:=KB _ _ _;refine⟨?_,Qo H.rev0 F.T0 hend,by simp only[qf];exact hr,?_,?_,?_,?_⟩;rw[a];refine LZ (hp:=λh=>Vy m2 h/\HR (A6 e) h) (λx h=>Qo H.rev0 h.1 h.2) ?_;have f:=JK hw F.lim;exact S7 F.lim λh hh=>⟨I8 f h hh,I8 hw h hh⟩
 show(FM e.V 0).length<=_;rw[It];omega;obtain⟨s1,s2,s3,s4,b,c⟩:=F.set;exact⟨s1,s2,by show(e.S.C.map _).length<=_;rw[qf];exact s3,s4,b,c⟩;show(e.S.C.map _).length<=_;rw[qf];exact F.clen;rw[a,LU,qf];exact F.heads
theorem T6(H:Hc N e):OO ((CF e.S.C 0 [(0,0)]).2,[]) ([],Ee e):=by
 obtain⟨a,_⟩:=NR e.S.C _ [] If.zero H.coms;simp only[qI,vU,Int.natCast_zero]at a;exact⟨a,⟨λx=>rfl,rfl,λp hp=>by cases hp⟩⟩
theorem ZT(e:AI):(H5 e).1.length<=(AB.hdL e.W).length/\(H5 e).2.length<=e.S.C.length+(AB.hdL e.W).length:=by
 have h:=PY e.W;unfold H5;rw[Jj];have h1:=Kb (((AB.anL e.W).filter λa=>decide (a.1<=2)).map (·.2)) [];have h2:=Kb (((AB.anL e.W).filter λa=>!decide (a.1<=2)).map (·.2)) (Ee e);have h3:=vC (λa:Int×Int=>decide (a.1<=2)) (AB.anL e.W);have h4:=vC (λa:Int×Int=>!decide (a.1<=2)) (AB.anL e.W);simp only[qf,vU]at h1 h2;dsimp only;omega
theorem Xh(F:ON m2 N e)(H:Hc N e):(HY N e).length<=1048576:=by
 obtain⟨T,hw⟩:=H.wf;have h1:=O4 (C6 (AB.hdL e.W++[e.T0])) [];have h2:C6 (AB.hdL e.W++[e.T0])=C6 (AB.hdL e.W)++C6 [e.T0]:=by simp[C6]
 have h3:(C6 [e.T0]).length=1:=by simp[C6,AG.mvs,H.endd]
 have h4:=F.mvs hw;rw[Px hw];rw[h2,ql]at h1;simp only[vU]at h1;rw[h2];omega
theorem Se(F:ON m2 N d):PC 24 [d.h,d.h] (.bool true):=q17 (hp:=Vy m2) (λx g=>g.1) (K:=150000) mq N d F.lim F.T0.1 F.rlen F.set
theorem XF{B:Nat}(b:lim AG.l B N d.W)(e:d.T0.l)(f:d.S.l)(G:Cy N d)(a:LS N d.W)(ht:MM N d.W<=150):GE N d/\(∃m3,ON m3 N d)/\d.V.length<=1000:=by
 have hd:=G.ok;obtain⟨c1,c⟩:=T7 (KX G.S);have hrl:=MG hd.V;have hm:(BG [] (d.V.map (·.id))).length<=1000:=by
  have:=Kb (d.V.map (·.id)) [];simp at this;omega
 have hh:=Sy a;exact⟨GE.good b G.W G.endH G.endI G.endM G.endD (JO hd) c,⟨_,Pl b a hd.W,⟨e,hd.T0.toUM⟩,hm,by omega,f,c1,by omega⟩,by omega⟩
end
theorem TC.wk{f:FuncId}{us bs:List SV}{T:SV->Prop}(k:Nat)(H:TC f bs T)(hw:AU (Fz (λ_=>none) (λ_=>none) k) us bs):TC f us T:=λh n=>
 wW k (λ_ _ e=>e) (hw.mono λ_ _=>Fz.any k) (H h n)
def PQ:IQ:=⟨[],.empty,false,false,false,false,[]⟩
theorem iT(d:AI)(r:IQ){B N:Nat}(t:B<=1048576)(hd:d.sizedT B N)(R:Rsz r):TC 12 [d.h,r.h] (KO (Cy N d) N d):=by
 intro h n;refine gq func12 rfl λg=>?_;have u:∀(a b:Option A9),∀o z,h o=some z->h_ (h_ h n a) (n+1) b o=some z:=λa b=>bO g;have fin:∀(b:Bool)(a c:Option A9)(m:Nat),(b=true->Cy N d/\LS N d.W/\MM N d.W<=150)->Ce n (h_ (h_ h n a) (n+1) c) m (.bool b) (λv h' n'=>(KO (Cy N d) N d) v/\h'=h/\n'=n):=λb a c m hb=>Rb g (u _ _) (by simp[C_]) ⟨b,rfl,hb⟩;have e:∀(b:Bool)(m:Nat),(b=true->Cy N d/\LS N d.W/\MM N d.W<=150)->Ce n h m (.bool b) (λv h' n'=>(KO (Cy N d) N d) v/\h'=h/\n'=n):=λb m hb=>Rb g AC (by simp[C_]) ⟨b,rfl,hb⟩;have hvl:=R.hv;by_cases h1:(30:Int)<r.ranges.length;simp[go_sem,IQ.h,AI.h,AG.j,AQ.j,AE,qq,h1];exact fin _ _ _ _ mr;by_cases h2:(30:Int)<r.vars.length;simp[go_sem,IQ.h,AI.h,AG.j,AQ.j,AE,qq,h1,h2];exact fin _ _ _ _ mr;by_cases l:(200:Int)<r.marker.size;simp[go_sem,IQ.h,AI.h,AG.j,AQ.j,AE,qq,h1,h2,l];exact fin _ _ _ _ mr;simp[go_sem,IQ.h,AI.h,AG.j,AQ.j,AE,qq,h1,h2,l];refine BC 1 (α:=Nat) (λk=>[(2,.q (dcs d)),(3,.q (rcs r)),(5,AA k)]) (λ_=>h) (λk m=>k<=r.vars.length/\n<=m) (λk=>r.vars.length-k) 0 ?_ ?_ (bO g) ?_;simp;intro p hp;simp only[qe,vG,or_false]at hp;rcases hp with rfl|rfl|rfl;exact Ap (UE g n (IO _)) (by simp[AE,AD,AG.j,AQ.j]);exact Ap (UE g (n+1) mq) (by simp[AE]);exact Or;rintro k m ⟨hk,i⟩;by_cases f:k<r.vars.length;have w:=wS k mq;by_cases s:(200:Int)<(r.vars[k]).size;simp[go_sem,f,s];exact e _ _ mr;simp[go_sem,f,s,w,-Int.natCast_add];exact⟨k+1,by omega,⟨by omega,i⟩,Or⟩;simp[go_sem,f,AG.j,AQ.j];refine TC.use (by simpa[AI.h,AG.j,AQ.j]using iV d t hd) ?_;rintro v ⟨b,rfl,hb⟩;simp[go_sem];exact e _ _ hb
theorem iU(d:AI){B N:Nat}(a:B<=1048576)(hd:d.sizedT B N):TC 12 [d.h,.agg [.y 0 [] true,.str .empty,.bool false,.bool false,.bool false,.bool false,.y 0 [] true]] (KO (Cy N d) N d):=
 (iT d PQ a hd ⟨by simp[PQ],by simp[PQ],by simp[PQ]⟩).wk 2 ⟨Or,.inr ⟨.inr ⟨by simp,.inl rfl,trivial,by simp[PQ]⟩,Or,Or,Or,Or,Or,.inr ⟨by simp,.inl rfl,trivial,by simp[PQ]⟩,trivial⟩,trivial⟩
section
variable{g g':AG->AG}{p p':Int->Int->Int->Int}{q q':Int->Int}
mutual
theorem gi:∀x:AB,AB.gm g' p' q' (AB.gm g p q x)=AB.gm (λh=>g' (g h)) (λk c i=>p' k c (p k c i)) (λi=>q' (q i)) x
 | .mk k c i t h f r=>by rw[AB.gm,AB.gm,AB.gm,Po f,XC r]
theorem Po:∀l:List AB,AB.gmL g' p' q' (AB.gmL g p q l)=AB.gmL (λh=>g' (g h)) (λk c i=>p' k c (p k c i)) (λi=>q' (q i)) l
 | []=>by rw[AB.gmL,AB.gmL,AB.gmL]
 | x::l=>by rw[AB.gmL,AB.gmL,AB.gmL,gi x,Po l]
theorem cu:∀x:AL,AL.gm g' p' q' (AL.gm g p q x)=AL.gm (λh=>g' (g h)) (λk c i=>p' k c (p k c i)) (λi=>q' (q i)) x
 | .mk h c=>by rw[AL.gm,AL.gm,AL.gm,XB c]
theorem XC:∀l:List AL,AL.gmL g' p' q' (AL.gmL g p q l)=AL.gmL (λh=>g' (g h)) (λk c i=>p' k c (p k c i)) (λi=>q' (q i)) l
 | []=>by rw[AL.gmL,AL.gmL,AL.gmL]
 | x::l=>by rw[AL.gmL,AL.gmL,AL.gmL,cu x,XC l]
theorem ct:∀x:AF,AF.gm g' p' q' (AF.gm g p q x)=AF.gm (λh=>g' (g h)) (λk c i=>p' k c (p k c i)) (λi=>q' (q i)) x
 | .mk i h f=>by rw[AF.gm,AF.gm,AF.gm,Po f]
theorem XB:∀l:List AF,AF.gmL g' p' q' (AF.gmL g p q l)=AF.gmL (λh=>g' (g h)) (λk c i=>p' k c (p k c i)) (λi=>q' (q i)) l
 | []=>by rw[AF.gmL,AF.gmL,AF.gmL]
 | x::l=>by rw[AF.gmL,AF.gmL,AF.gmL,ct x,XB l]
end
end
def UG(g:AG->AG)(p:Int->Int->Int->Int):PT Unit:=⟨λ_ l s=>(l,s),λh s=>(g h,s),λx s=>(G0 x (p x.x x.code x.id),true,s)⟩
section
variable{g:AG->AG}{p:Int->Int->Int->Int}{it:Int->List AB->Unit->List AB×Unit}{hp:AG->Prop}{T:Int->Prop}
theorem Oq:∀(l out:List AF),(∀c∈l,∀id,(it id c.W ()).1=AB.gmL g p (λi=>i) c.W)->(l.foldl (Dd (UG g p) it) (out,())).1=out++l.map (AF.gm g p λi=>i)
 | [],out,_=>by simp
 | c :: l, out, h => by
  have e:Dd (UG g p) it (out,()) c=(out++[AF.gm g p (λi=>i) c],()):=by
   unfold Dd;simp only[UG];have:=h c mr c.id;rw[wU];rw[<-this]
  rw[qL,e,Oq l _ λc a=>h c (by simp[a])];simp
theorem Q8:∀(l out:List AL),(∀r∈l,∀c∈r.cells,∀id,(it id c.W ()).1=AB.gmL g p (λi=>i) c.W)->(l.foldl (E6 (UG g p) it) (out,())).1=out++l.map (AL.gm g p λi=>i)
 | [],out,_=>by simp
 | r :: l, out, h => by
  have e:E6 (UG g p) it (out,()) r=(out++[AL.gm g p (λi=>i) r],()):=by
   unfold E6 IF;simp only[UG];have:=Oq (g:=g) (p:=p) (it:=it) r.cells [] (h r mr);unfold UG at this;rw[wN,this];simp
  rw[qL,e,Q8 l _ λr hr=>h r (by simp[hr])];simp
theorem XD(x:AB)(b:∀id,(it id x.W ()).1=AB.gmL g p (λi=>i) x.W)(hr:∀r∈x.R,∀c∈r.cells,∀id,(it id c.W ()).1=AB.gmL g p (λi=>i) c.W)(out:List AB):
 Dl (UG g p) it (out,()) x=(out++[AB.gm g p (λi=>i) x],()):=by
 have a:=Q8 (g:=g) (p:=p) (it:=it) x.R [] hr;unfold Dl;simp only[UG,if_true];have d:(G0 x (p x.x x.code x.id)).wHead (g (G0 x (p x.x x.code x.id)).H)=.mk x.x x.code (p x.x x.code x.id) x.J (g x.H) x.W x.R:=rfl;rw[d,Pe,ws];dsimp only;rw[b 0];unfold De;unfold UG at a;rw[a];simp
theorem Wf:∀(N:Nat)(l:List AB),wf hp T N l->∀id,(Bd (UG g p) N id l ()).1=AB.gmL g p (λi=>i) l
 | 0,_,h,_=>h.elim
 | N + 1, l, H, id => by
  have key:∀(l out:List AB),(∀x∈l,en hp T N x)->l.foldl (Dl (UG g p) (Bd (UG g p) N)) (out,())=(out++AB.gmL g p (λi=>i) l,()):=by
   intro l
   induction l with
   | nil=>intro out _;rw[AB.gmL];simp
   | cons x l ih=>
    intro out h;have W:=h x mr;rw[qL,XD x (Wf N _ W.W) (λr hr c a=>Wf N _ ((W.R r hr).2.2 c a).2.2),ih _ λy d=>h y (by simp[d]),AB.gmL];simp
  show(l.foldl _ ([],())).1=_;rw[key l [] λx b=>DG.1 H x b];simp
end
def Vz(h:AG):Prop:=h.l/\∀y∈h.all,0<=y/\y<=1073741824
def okU:Nat->List AB->Prop
 | 0,_=>False
 | N+1,l=>l.length<=1048576/\∀x∈l,(Vz x.H/\0<=x.id/\x.id<=1073741824)/\okU N x.W/\x.R.length<=1048576/\∀r∈x.R,Vz r.H/\r.cells.length<=1048576/\∀c∈r.cells,(Vz c.H/\0<=c.id/\c.id<=1073741824)/\okU N c.W
def iJ(N:Nat)(x:AB):Prop:=(Vz x.H/\0<=x.id/\x.id<=1073741824)/\okU N x.W/\x.R.length<=1048576/\∀r∈x.R,Vz r.H/\r.cells.length<=1048576/\∀c∈r.cells,(Vz c.H/\0<=c.id/\c.id<=1073741824)/\okU N c.W
theorem aJ(N:Nat):okU (N+1) []:=⟨by simp,λx a=>by cases a⟩
theorem W7{x:AB}(h:Hi x=0)(k6:x.x≠6)(k7:x.x≠7)(d:x.x≠8):x.id=0:=by
 unfold Hi at h;by_cases c:So x=true;rw[my c]at h;exact absurd h (by decide);rw[mw c]at h;by_cases a:Sp x=true;rw[my a]at h;exact absurd h (by decide);have f5:bL x=false:=by simp[bL,k6,k7,d]
 unfold Sp at a;simp only[f5]at a;simp only[Bool.not_eq_true,Bool.or_eq_false_iff,Bool.and_eq_false_iff,Bool.not_false]at a;obtain⟨⟨⟨⟨_,b⟩,_⟩,_⟩,_⟩:=a;rcases b with b|b;cases b;by_cases e:x.id=0;exact e;simp[e]at b
theorem JI{K:Ck}{el:Int}{h:AG}(b:h.l)(a:∀y∈K.m2,1<=y/\y<=1073741824)(g:Dv K el h=0):Vz h:=by
 refine⟨b,λy c=>?_⟩;have H:=(Gb.1 g).ok;rcases HM.1 c with e|⟨d,hd,e⟩|⟨d,hd,e⟩
 rcases H.I with k|k;rw[e,k];decide;have:=a _ k;rw[e];omega;have:=a _ (H.Y d hd);rw[<-e];omega;have:=a _ (H.Z d hd);rw[<-e];omega
theorem Nt{K:Ck}(f:∀y∈K.m2,1<=y/\y<=1073741824){B:Nat}(v:B<=1048576)(n:Int)(g:AG->AG)(q:Int->Int):∀{N:Nat} {w:Cw} {l:List AB},lim AG.l B N l->gN K N w l->(∀i∈Jb N l,1<=i/\i<=1073741824)->okU N l/\AB.gmL g (λ_ _ i=>EE n i) q l=AB.gmL g (SR n) q l
 | 0,_,_,h,_,_=>h.elim
 | N + 1, w, l, hl, hg, hi => by
  obtain⟨h1,_,I⟩:=Ca.1 hl;have nil:∀{M:Nat} {l:List AB},lim AG.l B M l->l=[]->okU M l/\AB.gmL g (λ_ _ i=>EE n i) q l=AB.gmL g (SR n) q l:=fun {M l} h e=>by
   cases M with
   | zero=>exact h.elim
   | succ M=>rw[e];exact⟨aJ M,by rw[AB.gmL,AB.gmL]⟩
  have key:∀x∈l,iJ N x/\AB.gm g (λ_ _ i=>EE n i) q x=AB.gm g (SR n) q x:=λx d=>by
   obtain⟨a1,a2,a3,a4⟩:=I x d;obtain⟨b1,b2,b3,b4,z,A,C,D⟩:=hg x d;obtain⟨f1,f2,_⟩:=Km b1;have a:∀i∈HD N x,1<=i/\i<=1073741824:=λi hm=>hi i (by rw[Ot,qE];exact⟨x,d,hm⟩);have o:(0<=x.id/\x.id<=1073741824)/\EE n x.id=SR n x.x x.code x.id:=by
    by_cases k6:x.x=6;have:=a x.id (by unfold HD;rw[my k6];simp);exact⟨by omega,by unfold SR;rw[my (.inl k6)]⟩;by_cases k7:x.x=7;have:=a x.id (by unfold HD;rw[mw k6,my k7];simp);exact⟨by omega,by unfold SR;rw[my (.inr (.inl k7))]⟩;by_cases s:x.x=8;have:=z s;exact⟨by omega,by unfold SR;rw[my (.inr (.inr s))]⟩;have e:=W7 b1 k6 k7 s;exact⟨by rw[e];decide,by unfold SR;rw[mw mq,e];rfl⟩
   have j:okU N x.W/\AB.gmL g (λ_ _ i=>EE n i) q x.W=AB.gmL g (SR n) q x.W:=by
    by_cases k:x.x=6;exact Nt f v n g q a2 (C k) λi hm=>a i (by unfold HD;rw[my k];simp[hm]);exact nil a2 (f1 k)
   have p:∀r∈x.R,(Vz r.H/\r.cells.length<=1048576/\∀c∈r.cells,(Vz c.H/\0<=c.id/\c.id<=1073741824)/\okU N c.W)/\AL.gm g (λ_ _ i=>EE n i) q r=AL.gm g (SR n) q r:=λr hr=>by
    by_cases k:x.x=7;obtain⟨c1,c2,E⟩:=D k;obtain⟨F,d2,d3,t⟩:=E r hr;obtain⟨G,e2,u⟩:=a4 r hr;have m:∀c∈r.cells,∀i∈c.id::Jb N c.W,1<=i/\i<=1073741824:=λc b i hm=>a i (by
     unfold HD;rw[mw mq,my k];exact qP _ (qE.2 ⟨r,hr,qE.2 ⟨c,b,hm⟩⟩))
    have b:∀c∈r.cells,okU N c.W/\AB.gmL g (λ_ _ i=>EE n i) q c.W=AB.gmL g (SR n) q c.W:=λc b=>Nt f v n g q (u c b).2 (t c b).2 λi hm=>m c b i (by simp[hm]);refine⟨⟨JI G f F,by omega,λc hm=>⟨⟨JI (u c hm).1 f (t c hm).1,by have:=m c hm c.id mr;omega⟩,(b c hm).1⟩⟩,?_⟩;rw[wN,wN];congr 1;exact qF λc hm=>by rw[wU,wU,(b c hm).2]
    rw[f2 k]at hr;cases hr
   refine⟨⟨⟨JI a1 f A,o.1⟩,j.1,by omega,λr hr=>(p r hr).1⟩,?_⟩;rw[ws,ws,o.2,j.2];congr 1;exact qF λr hr=>(p r hr).2
  refine⟨⟨by omega,λx d=>(key x d).1⟩,?_⟩;rw[wM,wM];exact qF λx d=>(key x d).2
theorem eZ(i b:Int)(hi:0<=i/\i<=1073741824)(hb:0<=b/\b<=1000):PC 28 [AA i,.q [AA b]] (AA (EE b i)):=by
 intro h n;refine gq func28 rfl λa=>?_;unfold EE;by_cases h0:i=0;simp[go_sem,h0];exact Ar a rfl rfl;have c:IntKind.i64.wrap (i+b)=i+b:=by rw[EU]<;>omega
 simp[go_sem,h0,c];exact Ar a rfl rfl
abbrev G7(b:Int):SV:=.fn (.func 28) [] [.q [AA b]]
theorem w29(x:AG)(hs:Vz x)(b:Int)(hb:0<=b/\b<=1000):PC 29 [x.h,.q [G7 b]] (PO b x).h:=by
 intro H n;refine FF func29 rfl λho=>?_;have D:=ho.lt;obtain⟨X,hX⟩:∃X:Hp,X=h_ (h_ H n (some (.cells [AO x.Q,AA x.I,AA x.move,AX x.Y,AN x.Z]))) (n+1) (some (.cells [.y 0 [] true,AA 0,AA 0,.y 0 [] true,.y 0 [] true])):=⟨_,rfl⟩
 refine Bc 0 [(1,.q [G7 b]),(2,.ptr n 0),(3,.ptr (n+1) 0)] X (λm=>n+2=m) ?_ (λm hm=>?_);rw[hX];simp[go_sem,AG.h,AG.j,qq,Or,SV.cells];subst hm;have hx:X n=some (.cells [AO x.Q,AA x.I,AA x.move,AX x.Y,AN x.Z]):=by rw[hX,AD _ _ mq,AE]
 have hy:X (n+1)=some (.cells [.y 0 [] true,AA 0,AA 0,.y 0 [] true,.y 0 [] true]):=by rw[hX,AE]
 have hXo:∀j y,H j=some y->X j=some y:=λj y e=>by have:=D j y e;rw[hX,AD _ _ mq,AD _ _ mq];exact e
 clear hX;have hnn:n+1≠n:=by omega
 refine DH 0 (α:=SV×SV×DA×DA×Hp) (λ_=>[(1,.q [G7 b]),(2,.ptr n 0),(3,.ptr (n+1) 0)]) (λa=>a.2.2.2.2)
  (λa m=>I76 x H n a m) ?_ (λa m hm=>?_)
 simp[go_sem,hx];refine wL (by simpa[AG.h,AG.j]using n30 x hs.1) ?_;rintro v h' n' ⟨hn1,ob,⟨F,o1,vl,o2,rfl,rfl,hD,hL⟩,T,o,hh⟩;have hx1:=wg (_L:=Ha []) (_v:=F) o hh (show n<n+2 by omega) hx;have hy1:=wg (_L:=Ha []) (_v:=F) o hh (show n+1<n+2 by omega) hy;have hD':IN 2 _ _ F o1:=hD;have hL':IN 4 _ _ vl o2:=hL;obtain⟨s1,s2⟩:=hD'.st;obtain⟨s3,s4⟩:=hL'.st;unfold SV.B at s1 s3;unfold SV.cells at s2 s4;simp[go_sem,hx1];refine⟨F,vl,o1,o2,_,⟨hn1,hD,hL,T,o,λp hp=>?_,AE _ _ _,by dsimp only;rw[AD _ _ hnn];exact hy1,λj y e=>?_⟩,AC⟩;have:=o p.1 (qa.2 ⟨p,hp,rfl⟩);dsimp only at hp ⊢;rw[AD _ _ mq];exact JP T hh p hp;have:=D j y e;dsimp only;rw[AD _ _ mq];exact wg (_L:=Ha []) (_v:=F) o hh mq (hXo j y e);obtain⟨F,vl,o1,o2,hh⟩:=a;obtain⟨hnm,hD,hL,T,o,hob,hx1,hy1,BA⟩:=hm;dsimp only at hnm hD hL T o hob hx1 hy1 BA ⊢;have hins:=hs.2 x.I (HM.2 (.inl rfl));refine Al 0 [(1,.q [G7 b]),(2,.ptr n 0),(3,.ptr (n+1) 0)] (h_ hh n (some (.cells [AO x.Q,AA (EE b x.I),AA x.move,F,vl]))) m ?_ (λm' r=>?_);simp[go_sem,hx1];refine qY (eZ x.I b hins hb) ?_;simp[go_sem,hx1,Or];subst r;obtain⟨B,hB⟩:∃B:Hp,B=h_ hh n (some (.cells [AO x.Q,AA (EE b x.I),AA x.move,F,vl])):=⟨_,rfl⟩
 have Bn:B n=some (.cells [AO x.Q,AA (EE b x.I),AA x.move,F,vl]):=by rw[hB,AE]
 have Bo:∀j,j≠n->B j=hh j:=λj R=>by rw[hB,AD _ _ R]
 rw[<-hB];obtain⟨J,hfd⟩:∃J:Di->Di,J=λd=>{ d with rev:=EE b d.rev }:=⟨_,rfl⟩
 obtain⟨K,hfl⟩:∃K:A3->A3,K=λy=>{ y with rev:=EE b y.rev }:=⟨_,rfl⟩
 have A:∀k∈AJ o1,n+2<=k/\k<m:=λk hk=>o k (by rw[Ac];exact qz _ hk);have t:∀k∈AJ o2,n+2<=k/\k<m:=λk hk=>o k (by rw[Ac];exact qx _ hk);refine AV 0 (α:=Hp) (λ_=>[(1,.q [G7 b]),(2,.ptr n 0),(3,.ptr (n+1) 0)]) (λq=>q) (λq m'=>m<=m'/\(∃o',AJ o'=AJ o1/\Ka 2 ((x.Y.map J).map Di.h) F o'/\BF o' q)/\∀j,j∉AJ o1->q j=B j) ?_ (λh2 m2 hm2=>?_)
 . rcases hD with⟨hd0,⟨z',full,rfl⟩,rfl⟩|⟨f,full,cs,sub,rfl,rfl,rfl,rfl⟩
   have N:x.Y=[]:=by simpa using hd0
   refine Al 0 [(1,.q [G7 b]),(2,.ptr n 0),(3,.ptr (n+1) 0),(4,AA 0)] B m ?_ (λm' r=>?_);simp[go_sem,Or];subst r;refine AP (Aq 0 (α:=Unit) (λ_=>[(1,.q [G7 b]),(2,.ptr n 0),(3,.ptr (n+1) 0),(4,AA 0)]) (λ_=>B) (λ_ m'=>m=m') (λ_=>0) () rfl (by simp[look,Or]) AC ?_);rintro _ m' rfl;refine AK ?_;simp[go_sem,Bn];exact⟨B,⟨⟨by rw[N];exact .inl ⟨rfl,⟨_,_,rfl⟩,rfl⟩,λp hp=>by cases hp⟩,λ_=>rfl⟩,AC⟩
   . have hjd:=A f (by simp[AJ]);have hjb:f≠n:=by omega
     have hBj:B f=some (.cells ((x.Y.map Di.h).flatMap SV.cells)):=by rw[Bo _ hjb];exact hob (f,_) mr
     obtain⟨W,M⟩:∃W:Nat->Hp,∀i,W i=h_ B f (some (.cells ((((x.Y.take i).map J++x.Y.drop i).map Di.h).flatMap SV.cells))):=⟨_,λ_=>rfl⟩
     have Wj:∀i,W i f=some (.cells ((((x.Y.take i).map J++x.Y.drop i).map Di.h).flatMap SV.cells)):=λi=>by rw[M,AE]
     have Wo:∀i j,j≠f->W i j=B j:=λi j R=>by rw[M,AD _ _ R]
     have W0:W 0=B:=by rw[M];simp only[vk,vN,qI,vT];funext j;simp only[h_];grind
     rw[qf]at Bn;have Wn:∀i,W i n=_:=λi=>(Wo i n hjb.symm).trans Bn;refine Al 0 [(1,.q [G7 b]),(2,.ptr n 0),(3,.ptr (n+1) 0),(4,AA 0)] (W 0) m ?_ (λm' r=>?_);rw[W0];simp[go_sem,Or];subst r;refine AP (Aq 0 (α:=Nat) (λi=>[(1,.q [G7 b]),(2,.ptr n 0),(3,.ptr (n+1) 0),(4,AA i)]) W (λi m'=>i<=x.Y.length/\m<=m') (λi=>x.Y.length-i) 0 ⟨qj _,IO _⟩ ?_ AC ?_);simp[go_sem,look,Or];rintro i m' ⟨hi,hmm⟩;by_cases l:i<x.Y.length
     . have hsd:=hs.1.Y;have w1:=wS i mq;obtain⟨d,hd⟩:∃d,x.Y[i]=d:=⟨_,rfl⟩
       have hdr:=hs.2 d.rev (HM.2 (.inr (.inl ⟨d,hd▸qn l,rfl⟩)));refine Al 0 [(1,.q [G7 b]),(2,.ptr n 0),(3,.ptr (n+1) 0),(4,AA i)] (W i) m' ?_ (λm3 w=>?_);simp[go_sem,Or,l,Wn i];subst w;refine AV 0 (α:=Unit) (λ_=>[(1,.q [G7 b]),(2,.ptr n 0),(3,.ptr (n+1) 0),(4,AA i)]) (λ_=>W (i+1)) (λ_ m3=>m'<=m3) (AP ?_) (λ_ m3 w=>?_)
       . obtain⟨P,hP⟩:∃P:List SV,P=((((x.Y.take i).map J)).map Di.h).flatMap SV.cells:=⟨_,rfl⟩
         obtain⟨S,hS⟩:∃S:List SV,S=((x.Y.drop (i+1)).map Di.h).flatMap SV.cells:=⟨_,rfl⟩
         have c:P.length=i*2:=by rw[hP,Fe (z:=2) (λe he=>by obtain⟨y,_,rfl⟩:=qa.1 he;rfl),qf,qf,vu,vF hi]
         have e1:(((x.Y.take i).map J++x.Y.drop i).map Di.h).flatMap SV.cells=P++(AA d.rev::AA d.move::S):=by
          rw[qA l,hd,hP,hS,qc,qH];rfl
         have e2:(((x.Y.take (i+1)).map J++x.Y.drop (i+1)).map Di.h).flatMap SV.cells=P++(AA (EE b d.rev)::AA d.move::S):=by
          rw[qb l,hd,hP,hS,qc,qc,qH,qc,qH,qr,hfd];rfl
         have Wi:=Wj i;rw[e1]at Wi;have Wi1:W (i+1)=h_ (W i) f (some (.cells (P++(AA (EE b d.rev)::AA d.move::S)))):=by
          rw[M (i+1),M i,e2,Ad]
         have u:(i:Int)<x.Y.length:=by omega
         have G:=Wn i;rw[Wi1];refine AK ?_;simp[go_sem,G,Wi,u,Am c,c]
         repeat first|refine⟨by omega,?_⟩|refine nd mu ?_|refine sq ?_
         refine vy _ _ _ _ _ _ (eZ d.rev b hdr hb) ?_;simp[go_sem,Wi,u,Av c,An c,c,Or]
         repeat first|refine⟨by omega,?_⟩|refine nd (by simp[CL,DU,DE,Aj,Region.binds]<;>omega) ?_|refine sq ?_
         simp[CL,DU,DE,Aj,Region.binds]<;>omega
       refine AK ?_;simp[go_sem,w1,Or,-Int.natCast_add];exact⟨i+1,by omega,⟨by omega,by omega⟩,Or,AC⟩
     have:i=x.Y.length:=by omega
     subst this;refine AK ?_;have O:m<=m'/\(∃o',AJ o'=AJ [(f,A9.cells ((x.Y.map Di.h).flatMap SV.cells))]/\Ka 2 ((x.Y.map J).map Di.h) (.sl f 0 2 x.Y.length full) o'/\BF o' (W x.Y.length))/\∀j,j∉AJ [(f,A9.cells ((x.Y.map Di.h).flatMap SV.cells))]->W x.Y.length j=B j:=by
      refine⟨hmm,⟨[(f,.cells (((x.Y.map J).map Di.h).flatMap SV.cells))],rfl,.inr ⟨f,full,_,[],by simp,rfl,rfl,rfl⟩,λp hp=>?_⟩,λj R=>Wo _ j (λe=>R (by simp[AJ,e]))⟩;rw[qw]at hp;subst hp;show W _ f=_;rw[Wj,qp,vH,qV]
     have Wnl:=Wn x.Y.length;simp[go_sem,Wnl];exact⟨W x.Y.length,by simpa using O,AC⟩
 obtain⟨hmm,⟨o1',hk1,hD',ho1'⟩,C⟩:=hm2;have nin:∀j,j<n+2->j∉AJ o1:=λj R g=>by have:=A j g;omega
 have Gn:h2 n=_:=(C n (nin n mq)).trans Bn;have Gn1:h2 (n+1)=_:=(C _ (nin _ mq)).trans ((Bo _ hnn).trans hy1);have Gold:∀j y,H j=some y->h2 j=some y:=λj y e=>by have:=D j y e;rw[C j (nin j mq),Bo j mq];exact BA j y e
 have U:=T;rw[Ac,qu]at U;have ho2:BF o2 h2:=λp hp=>by
  have hk:p.1∈AJ o2:=qa.2 ⟨p,hp,rfl⟩;have:=t p.1 hk;rw[C p.1 (λg=>U.2.2 _ g _ hk rfl),Bo p.1 mq];exact hob p (qx _ hp)
 refine AV 0 (α:=Hp) (λ_=>[(1,.q [G7 b]),(2,.ptr n 0),(3,.ptr (n+1) 0)]) (λq=>q) (λq m'=>m2<=m'/\(∃o',AJ o'=AJ o2/\Ka 4 ((x.Z.map K).map A3.h) vl o'/\BF o' q)/\∀j,j∉AJ o2->q j=h2 j) ?_ (λh3 m3 w=>?_)
 . rcases hL with⟨hd0,⟨z',full,rfl⟩,rfl⟩|⟨f,full,cs,sub,rfl,rfl,rfl,rfl⟩
   have N:x.Z=[]:=by simpa using hd0
   refine Al 0 [(1,.q [G7 b]),(2,.ptr n 0),(3,.ptr (n+1) 0),(5,AA 0)] h2 m2 ?_ (λm' r=>?_);simp[go_sem,Or];subst r;refine AP (Aq 0 (α:=Unit) (λ_=>[(1,.q [G7 b]),(2,.ptr n 0),(3,.ptr (n+1) 0),(5,AA 0)]) (λ_=>h2) (λ_ m'=>m2=m') (λ_=>0) () rfl (by simp[look,Or]) AC ?_);rintro _ m' rfl;refine AK ?_;simp[go_sem,Gn];exact⟨h2,⟨⟨by rw[N];exact .inl ⟨rfl,⟨_,_,rfl⟩,rfl⟩,λp hp=>by cases hp⟩,λ_=>rfl⟩,AC⟩
   . have hjd:=t f (by simp[AJ]);have hjb:f≠n:=by omega
     have hBj:h2 f=some (.cells ((x.Z.map A3.h).flatMap SV.cells)):=ho2 (f,_) mr;obtain⟨W,M⟩:∃W:Nat->Hp,∀i,W i=h_ h2 f (some (.cells ((((x.Z.take i).map K++x.Z.drop i).map A3.h).flatMap SV.cells))):=⟨_,λ_=>rfl⟩
     have Wj:∀i,W i f=some (.cells ((((x.Z.take i).map K++x.Z.drop i).map A3.h).flatMap SV.cells)):=λi=>by rw[M,AE]
     have Wo:∀i j,j≠f->W i j=h2 j:=λi j R=>by rw[M,AD _ _ R]
     have W0:W 0=h2:=by rw[M];simp only[vk,vN,qI,vT];funext j;simp only[h_];grind
     rw[qf]at Gn;have Wn:∀i,W i n=_:=λi=>(Wo i n hjb.symm).trans Gn;refine Al 0 [(1,.q [G7 b]),(2,.ptr n 0),(3,.ptr (n+1) 0),(5,AA 0)] (W 0) m2 ?_ (λm' r=>?_);rw[W0];simp[go_sem,Or];subst r;refine AP (Aq 0 (α:=Nat) (λi=>[(1,.q [G7 b]),(2,.ptr n 0),(3,.ptr (n+1) 0),(5,AA i)]) W (λi m'=>i<=x.Z.length/\m2<=m') (λi=>x.Z.length-i) 0 ⟨qj _,IO _⟩ ?_ AC ?_);simp[go_sem,look,Or];rintro i m' ⟨hi,hmm⟩;by_cases l:i<x.Z.length
     . have hsd:=hs.1.Z;have w1:=wS i mq;obtain⟨d,hd⟩:∃d,x.Z[i]=d:=⟨_,rfl⟩
       have hdr:=hs.2 d.rev (HM.2 (.inr (.inr ⟨d,hd▸qn l,rfl⟩)));refine Al 0 [(1,.q [G7 b]),(2,.ptr n 0),(3,.ptr (n+1) 0),(5,AA i)] (W i) m' ?_ (λm3 w=>?_);simp[go_sem,Or,l,Wn i];subst w;refine AV 0 (α:=Unit) (λ_=>[(1,.q [G7 b]),(2,.ptr n 0),(3,.ptr (n+1) 0),(5,AA i)]) (λ_=>W (i+1)) (λ_ m3=>m'<=m3) (AP ?_) (λ_ m3 w=>?_)
       . obtain⟨P,hP⟩:∃P:List SV,P=((((x.Z.take i).map K)).map A3.h).flatMap SV.cells:=⟨_,rfl⟩
         obtain⟨S,hS⟩:∃S:List SV,S=((x.Z.drop (i+1)).map A3.h).flatMap SV.cells:=⟨_,rfl⟩
         have c:P.length=i*4:=by rw[hP,Fe (z:=4) (λe he=>by obtain⟨y,_,rfl⟩:=qa.1 he;rfl),qf,qf,vu,vF hi]
         have e1:(((x.Z.take i).map K++x.Z.drop i).map A3.h).flatMap SV.cells=P++(AA d.rev::AA d.key::AA d.before::.bool d.had::S):=by
          rw[qA l,hd,hP,hS,qc,qH];rfl
         have e2:(((x.Z.take (i+1)).map K++x.Z.drop (i+1)).map A3.h).flatMap SV.cells=P++(AA (EE b d.rev)::AA d.key::AA d.before::.bool d.had::S):=by
          rw[qb l,hd,hP,hS,qc,qc,qH,qc,qH,qr,hfl];rfl
         have Wi:=Wj i;rw[e1]at Wi;have Wi1:W (i+1)=h_ (W i) f (some (.cells (P++(AA (EE b d.rev)::AA d.key::AA d.before::.bool d.had::S)))):=by
          rw[M (i+1),M i,e2,Ad]
         have u:(i:Int)<x.Z.length:=by omega
         have G:=Wn i;rw[Wi1];refine AK ?_;simp[go_sem,G,Wi,u,Am c,c]
         repeat first|refine⟨by omega,?_⟩|refine nd mu ?_|refine sq ?_
         refine vy _ _ _ _ _ _ (eZ d.rev b hdr hb) ?_;simp[go_sem,Wi,u,Av c,An c,c,Or]
         repeat first|refine⟨by omega,?_⟩|refine nd (by simp[CL,DU,DE,Aj,Region.binds]<;>omega) ?_|refine sq ?_
         simp[CL,DU,DE,Aj,Region.binds]<;>omega
       refine AK ?_;simp[go_sem,w1,Or,-Int.natCast_add];exact⟨i+1,by omega,⟨by omega,by omega⟩,Or,AC⟩
     have:i=x.Z.length:=by omega
     subst this;refine AK ?_;have O:m2<=m'/\(∃o',AJ o'=AJ [(f,A9.cells ((x.Z.map A3.h).flatMap SV.cells))]/\Ka 4 ((x.Z.map K).map A3.h) (.sl f 0 4 x.Z.length full) o'/\BF o' (W x.Z.length))/\∀j,j∉AJ [(f,A9.cells ((x.Z.map A3.h).flatMap SV.cells))]->W x.Z.length j=h2 j:=by
      refine⟨hmm,⟨[(f,.cells (((x.Z.map K).map A3.h).flatMap SV.cells))],rfl,.inr ⟨f,full,_,[],by simp,rfl,rfl,rfl⟩,λp hp=>?_⟩,λj R=>Wo _ j (λe=>R (by simp[AJ,e]))⟩;rw[qw]at hp;subst hp;show W _ f=_;rw[Wj,qp,vH,qV]
     have Wnl:=Wn x.Z.length;simp[go_sem,Wnl];exact⟨W x.Z.length,by simpa using O,AC⟩
 obtain⟨hmm3,⟨o2',hk2,hL',ho2'⟩,s⟩:=w;have nin2:∀j,j<n+2->j∉AJ o2:=λj R g=>by have:=t j g;omega
 have Yn:h3 n=_:=(s n (nin2 n mq)).trans Gn;have Yn1:h3 (n+1)=_:=(s _ (nin2 _ mq)).trans Gn1;have ho13:BF o1' h3:=λp hp=>by
  have hk:p.1∈AJ o1:=by rw[<-hk1];exact qa.2 ⟨p,hp,rfl⟩
  rw[s p.1 (λg=>U.2.2 _ hk _ g rfl)];exact ho1' p hp
 have Yold:∀j y,H j=some y->h3 j=some y:=λj y e=>by have:=D j y e;rw[s j (nin2 j mq)];exact Gold j y e
 have hD2:IN 2 _ _ F o1':=hD';have hL2:IN 4 _ _ vl o2':=hL';obtain⟨s1,s2⟩:=hD2.st;obtain⟨s3,s4⟩:=hL2.st;unfold SV.B at s1 s3;unfold SV.cells at s2 s4;have V:∀k,n+2<=k->H k=none:=λk hk=>by
  cases e:H k with
  | none=>rfl
  | some y=>have:=D k y e;omega
 obtain⟨Y,hY⟩:∃Y:Hp,Y=h_ h3 (n+1) (some (.cells [AO x.Q,AA (EE b x.I),AA x.move,F,vl])):=⟨_,rfl⟩
 have Yk:∀k,k≠n+1->Y k=h3 k:=λk hk=>by rw[hY,AD _ _ hk]
 have ho13y:BF o1' Y:=λp hp=>by
  have hk:p.1∈AJ o1:=by rw[<-hk1];exact qa.2 ⟨p,hp,rfl⟩
  have:=A p.1 hk;rw[Yk _ mq];exact ho13 p hp
 have ho2y:BF o2' Y:=λp hp=>by
  have hk:p.1∈AJ o2:=by rw[<-hk2];exact qa.2 ⟨p,hp,rfl⟩
  have:=t p.1 hk;rw[Yk _ mq];exact ho2' p hp
 obtain⟨K1,f1⟩:=hD'.fz (h2:=H) (by intro e he;obtain⟨y,_,rfl⟩:=qa.1 he;exact⟨rfl,rfl⟩) ho13y (λk hk=>V k (A k (by rw[hk1]at hk;exact hk)).1);obtain⟨K2,f2⟩:=hL'.fz (h2:=H) (by intro e he;obtain⟨y,_,rfl⟩:=qa.1 he;exact⟨rfl,rfl⟩) ho2y (λk hk=>V k (t k (by rw[hk2]at hk;exact hk)).1);refine AK ?_;simp[go_sem,Yn,Yn1,AE];rw[<-hY];have hen:(PO b x).h=.agg [AO x.Q,AA (EE b x.I),AA x.move,.y 2 ((x.Y.map J).map Di.h) false,.y 4 ((x.Z.map K).map A3.h) false]:=by
  rw[hfd,hfl];rfl
 refine .inr ⟨max K1 K2+1,(PO b x).h,H,?_,?_,λj y e=>⟨?_,ho j y e⟩,rfl,rfl,rfl⟩;rw[hen];exact .inr ⟨Or,Or,Or,(f1 _ mq).1,(f2 _ mq).1,trivial⟩;exact AG.E.cl n _;have:=D j y e;rw[Yk j mq];exact Yold j y e
theorem w32(x:AB)(hi:0<=x.id/\x.id<=1073741824)(b:Int)(hb:0<=b/\b<=1000):PC 32 [x.h,.q [G7 b]] (.tup [(G0 x (EE b x.id)).h,.bool true]):=by
 intro h n;refine FF func32 rfl λg=>?_;have d:=g.lt;obtain⟨Z,a⟩:∃Z:Int->List SV,∀i,Z i=[AA x.x,AA x.code,AA i,.str x.J,AO x.H.Q,AA x.H.I,AA x.H.move,AX x.H.Y,AN x.H.Z,AH x.W,Au x.R]:=⟨_,λ_=>rfl⟩
 have c:∀i,(G0 x i).h=.agg (Z i):=λi=>by rw[a,qy];rfl
 have f:x.h=.agg (Z x.id):=by rw[a,qy]
 rw[c];refine AK ?_;rw[f,a,a];simp[go_sem,AE,AD];refine qY (eZ x.id b hi hb) ?_;simp[go_sem,AE,AD];rw[<-a];refine Ny g ?_ λj y e=>?_;rw[<-a (EE b x.id),<-c];simp only[C_,c_,AB.cl,Bool.and_true];have:=d j y e;simp only[h_];grind
structure IY(n:Nat)(H:Hp)(ob:DA)(hh:Hp)(m:Nat):Prop where
 le:n<=m
 nd:(AJ ob).Nodup
 ks:∀k∈AJ ob,n<=k/\k<m
 has:BF ob hh
 old:∀j y,H j=some y->hh j=some y
def NY(ks:List Nat)(h:Hp):Hp:=λk=>if k∈ks then none else h k
theorem St{h h2:Hp}{k:Nat}:∀l:List SV,AU (Fz h h2 k) l l
 | []=>trivial
 | _::l=>⟨Or,St l⟩
section
variable{n m:Nat}{H hh:Hp}{ob Z:DA}{p:Nat}
theorem IY.perm{o2:DA}(W:IY n H ob hh m)(g:ob.Perm o2):IY n H o2 hh m:=
 ⟨W.le,(g.map _).nodup_iff.1 W.nd,λk hk=>W.ks k ((g.map _).mem_iff.2 hk),λq a=>W.has q (g.mem_iff.2 a),W.old⟩
theorem IY.at{y:A9}(W:IY n H ob hh m)(h:(p,y)∈ob):hh p=some y:=W.has _ h
theorem IY.write{y y':A9}(W:IY n H ((p,y)::Z) hh m)(hb:∀j y,H j=some y->j<n):IY n H ((p,y')::Z) (h_ hh p (some y')) m:=by
 have b:=W.nd;simp only[AJ,qi,qU]at b;have hp:=W.ks p (by simp[AJ]);refine⟨W.le,W.nd,W.ks,λq a=>?_,λj z e=>?_⟩;rcases qe.1 a with rfl|a;exact AE _ _ _;have:q.1≠p:=λe=>b.1 (qa.2 ⟨q,a,e⟩);rw[AD _ _ this];exact W.has q (qP _ a);have:=hb j z e;rw[AD _ _ mq];exact W.old j z e
theorem IY.push{q:Nat}{y b:A9}(W:IY n H [(q,b)] hh m)(hp:m<=p)(hb:∀j y,H j=some y->j<n):IY n H ((q,b)::[(p,y)]) (h_ hh p (some y)) (p+1):=by
 have hq:=W.ks q (by simp[AJ]);have hw:=W.le;refine⟨by omega,by simp[AJ];omega,λk hk=>?_,λx a=>?_,λj z e=>?_⟩;simp[AJ]at hk;omega;rcases qe.1 a with rfl|a;rw[AD _ _ (show q≠p by omega)];exact W.at mr;rw[qw]at a;subst a;exact AE _ _ _;have:=hb j z e;rw[AD _ _ mq];exact W.old j z e
theorem IY.fz{E:BZ}{d:Program}{N n':Nat}{code:Code}{Q:CT}{sa:SA}{h cs' A B:List SV}{v w:SV}(W:IY n H ((p,.cells h)::(ob++Z)) hh m)(hb:∀j y,H j=some y->j<n)(o:h=A++v::B)(c:cs'=A++w::B)
 (hv:∀h2:Hp,(∀k∈AJ ob,h2 k=none)->∃k,Fz hh h2 k v w) (K:∀hh',IY n H ((p,.cells cs')::Z) hh' m->GU E d N code Q sa hh' n'):GU E d N code Q sa hh n':=by
 subst o;subst c;have b:=W.nd;simp only[AJ,qi,qc,qU,qu,qd,not_or]at b;obtain⟨⟨a1,a2⟩,b1,i,l⟩:=b;obtain⟨k,hk⟩:=hv (NY (AJ ob) hh) (λk hk=>by simp only[NY,my hk]);have keep:∀q,q∉AJ ob->NY (AJ ob) hh q=hh q:=λq a=>by simp only[NY,mw a]
 have f:IY n H ((p,.cells (A++v::B))::Z) (NY (AJ ob) hh) m:=by
  refine⟨W.le,?_,λk hk=>W.ks k ?_,λq a=>?_,λj z e=>?_⟩;simp only[AJ,qi,qU];exact⟨a2,i⟩;simp only[AJ,qi,qc,qe,qd]at hk ⊢;exact hk.imp_right .inr;rcases qe.1 a with rfl|a;rw[keep p a1];exact W.at mr;rw[keep q.1 (λg=>l _ g _ (qa.2 ⟨q,a,rfl⟩) rfl)];exact W.has q (by simp[a]);rw[keep j (λg=>by
   have:=hb j z e;have:=W.ks j (by simp only[AJ,qi,qc,qe,qd];exact .inr (.inl g));omega)]
  exact W.old j z e
 refine ZP k p (A++v::B) (A++w::B) (h2:=NY (AJ ob) hh) (λq y e=>?_) (f.at mr) ?_ (K _ (f.write hb));unfold NY at e;split at e;cases e;exact e;exact AU.app (St A) ⟨hk,St B⟩
end
theorem N5{β:Type}{f:β->SV}{z:Nat}(E:My f z){h' h2:Hp}{c:Nat}{l:List β}{len:Nat}{full:Bool}(a:l.length=len)(b:h2 c=none)(hh:h' c=some (.cells ((l.map f).flatMap SV.cells))):Fz h' h2 1 (.sl c 0 z len full) (.y z (l.map f) false):=by
 have:=E7 (h':=h') (h:=h2) (k:=0) (z:=z) (o:=c) (es:=l.map f) (full:=full) (full':=false) b mr hh (E.size l);rw[qf,a]at this;exact this
theorem Xx{α β:Type}{f:β->SV}{z:Nat}(E:My f z)(g:α->β)(l:List α):∃P:Nat->List SV,P 0=[]/\(∀i,i<=l.length->(P i).length=i*z)/\(∀i (h:i<l.length),P (i+1)=P i++(f (g l[i])).cells)/\P l.length=((l.map g).map f).flatMap SV.cells:=by
 refine⟨λi=>(((l.take i).map g).map f).flatMap SV.cells,rfl,λi hi=>?_,λi h=>?_,?_⟩;dsimp only;rw[Bq (E.size _),qf,qf,vu,vF hi];dsimp only;rw[qb h,qc,qc,qH];simp;dsimp only;rw[qp]
abbrev ku(b:Int):AB->AB:=AB.gm (λh=>h) (λ_ _ i=>i) λi=>i+b
abbrev Oh(b:Int):List AB->List AB:=AB.gmL (λh=>h) (λ_ _ i=>i) λi=>i+b
abbrev fC(b:Int):AL->AL:=AL.gm (λh=>h) (λ_ _ i=>i) λi=>i+b
abbrev fB(b:Int):AF->AF:=AF.gm (λh=>h) (λ_ _ i=>i) λi=>i+b
def okK:Nat->List AB->Prop
 | 0,_=>False
 | N+1,l=>l.length<=1048576/\AB.G l/\∀x∈l,okK N x.W/\x.R.length<=1048576/\∀r∈x.R,r.cells.length<=1048576/\∀c∈r.cells,(0<=c.id/\c.id<=1073741824)/\okK N c.W
theorem Ud{a c:Nat×A9}{s Z:DA}:(a::((c::s)++Z)).Perm (c::(s++(a::Z))):=(List.Perm.swap c a _).trans (List.perm_middle.symm.cons c)
structure KS where
 i:Nat
 D:List SV
 oD:DA
 hh:Hp
theorem w33(b:Int)(hb:0<=b/\b<=1000):∀N l,okK N l->PC 33 [AH l,AA b] (AH (Oh b l))
 | 0,_,h=>h.elim
 | N+1,l,⟨hl,hs,hx⟩=>by
  have ih:=w33 b hb N;intro H n;refine FF func33 rfl λho=>?_;have C:=ho.lt;have hnone:∀k,n<=k->H k=none:=λk hk=>ho.none hk;refine Al 0 [(0,AH l),(1,AA b)] H n ?_ (λm hm=>?_);simp[go_sem,Or];subst hm;refine DH 0 (α:=SV×DA×Hp) (λa=>[(1,AA b),(5,a.1)]) (λa=>a.2.2) (λa m=>Ha l a.1 a.2.1/\IY n H a.2.1 a.2.2 m) ?_ (λa m hm=>?_);simp[go_sem];refine wL (n96 l hl hs) ?_;rintro v h1 n1 ⟨hn1,ob,hL,hnd,hks,hh⟩;have W:IY n H ob h1 n1:=⟨hn1,hnd,hks,JP hnd hh,λj y e=>wg (_L:=Ha l) (_v:=v) hks hh (C j y e) e⟩
  simp[go_sem,Or];exact⟨v,ob,h1,⟨hL,W⟩,Or,AC⟩;obtain⟨v,ob,h1⟩:=a;obtain⟨hL,W⟩:=hm;dsimp only at hL W ⊢;refine LL 1 [(5,AH (Oh b l))] H n ?_ (λm' hm'=>?_)
  . rcases hL with⟨hl0,⟨z',full,rfl⟩,rfl⟩|⟨j,full,cs,sub,rfl,rfl,hcs⟩
    have:l=[]:=vb.1 hl0;subst this;refine Al 0 [(1,AA b),(5,.y z' [] full),(6,AA 0)] h1 m ?_ (λm' hm'=>?_);simp[go_sem,Or];subst hm';refine AP (Aq 0 (α:=Unit) (λ_=>[(1,AA b),(5,.y z' [] full),(6,AA 0)]) (λ_=>h1) (λ_ m'=>m=m') (λ_=>0) () rfl (by simp[look,Or]) AC ?_);rintro _ m' rfl;refine AK ?_;simp[go_sem];refine⟨W.le,?_,W.old⟩;rw[show AH (Oh b [])=.y 11 [] false by rw[Oh,AB.gmL];rfl];exact Fg mr;obtain⟨P,hP0,hPl,hPs,hPe⟩:=Xx AB.E (ku b) l;refine Al 0 [(1,AA b),(5,.sl j 0 11 l.length full),(6,AA 0)] h1 m ?_ (λm' hm'=>?_);simp[go_sem,Or];subst hm';refine AP (Aq 0 (α:=KS) (λs=>[(1,AA b),(5,.sl j 0 11 l.length full),(6,AA s.i)]) (λs=>s.hh)
     (λs m'=>m'=m/\s.i<=l.length/\BK (l.drop s.i) s.D s.oD/\IY n H ((j,.cells (P s.i++s.D))::s.oD) s.hh m) (λs=>l.length-s.i) ⟨0,cs,sub,h1⟩ ⟨rfl,Nat.zero_le _,hcs,by dsimp only;rw[hP0];exact W⟩ ?_ AC ?_)
    simp[go_sem,look,Or];rintro⟨i,D,oD,hh⟩ m' ⟨rfl,hi,hD,W⟩;dsimp only at hi hD W ⊢;by_cases u:i<l.length
    · have w1 := wS i mq
      obtain⟨x,hxe⟩:∃x,l[i]=x:=⟨_,rfl⟩
      have hxm:x∈l:=hxe▸qn u;obtain⟨x1,x2,x3⟩:=hx x hxm;have d:=hPl i hi;have hPi:=hPs i u;rw[hxe]at hPi;rw[qA u,hxe,BK]at hD;obtain⟨c1,V,o1,o2,rfl,rfl,hX,hD⟩:=hD;refine Al 0 [(1,AA b),(5,.sl j 0 11 l.length full),(6,AA i)] hh m' ?_ (λm2 hm2=>?_);simp[go_sem,Or,u];subst hm2;refine AV 0 (α:=KS) (λ_=>[(1,AA b),(5,.sl j 0 11 l.length full),(6,AA i)]) (λs=>s.hh) (λs m2=>m2=m'/\s.i=i+1/\BK (l.drop s.i) s.D s.oD/\IY n H ((j,.cells (P s.i++s.D))::s.oD) s.hh m') (AP ?_) (λs m2 hs2=>?_)
      . cases x with
        | mk xk xc xi xt xh xf xr=>
        rw[D6]at hX;obtain⟨vf,p1,vr,p2,rfl,rfl,hF,hR⟩:=hX;simp only[AB.W,AB.R]at x1 x2 x3;rw[qr p1 p2 o2]at W;refine W.fz (A:=P i++[AA xk,AA xc,AA xi,.str xt,AO xh.Q,AA xh.I,AA xh.move,AX xh.Y,AN xh.Z]) (B:=vr::V) (v:=vf) (w:=AH xf) (cs':=P i++AA xk::AA xc::AA xi::.str xt::AO xh.Q::AA xh.I::AA xh.move::AX xh.Y::AN xh.Z::AH xf::vr::V)
         C (by simp[AG.j]) mr (λh2 hn=>(TG hF (λq hq=>W.has q (by simp[hq])) hn).imp λK0 hK=>hK K0 (IO _)) (λhh1 W1=>?_)
        have hj1:=W1.at (p:=j) (qK ..);have G:(i:Int)<l.length:=by omega
        refine Al 0 [(1,AA b),(5,.sl j 0 11 l.length full),(6,AA i)] (h_ hh1 j (some (.cells (P i++AA xk::AA xc::AA xi::.str xt::AO xh.Q::AA xh.I::AA xh.move::AX xh.Y::AN xh.Z::AH (Oh b xf)::vr::V)))) m' ?_ (λm2 hm2=>?_);simp[go_sem,hj1,G,Av d,d,qq];refine qY (ih _ x1) ?_;simp[go_sem,hj1,G,Av d,Ax d,d,qq,Or];subst hm2;have W2:=W1.write (y':=.cells (P i++AA xk::AA xc::AA xi::.str xt::AO xh.Q::AA xh.I::AA xh.move::AX xh.Y::AN xh.Z::AH (Oh b xf)::vr::V)) C;generalize h_ hh1 j (some (.cells (P i++AA xk::AA xc::AA xi::.str xt::AO xh.Q::AA xh.I::AA xh.move::AX xh.Y::AN xh.Z::AH (Oh b xf)::vr::V)))=hh2 at W2 ⊢;clear W1 hj1;have hPn:P (i+1)++V=P i++AA xk::AA xc::AA xi::.str xt::AO xh.Q::AA xh.I::AA xh.move::AX xh.Y::AN xh.Z::AH (Oh b xf)::Au (xr.map (fC b))::V:=by
         rw[hPi,show ku b (.mk xk xc xi xt xh xf xr)=.mk xk xc xi xt xh (Oh b xf) (xr.map (fC b))from ws _ _ _ _,qy];simp[SV.cells,AB.x,AB.code,AB.id,AB.J,AB.H,AB.W,AB.R]
        refine Al 0 [(1,AA b),(5,.sl j 0 11 l.length full),(6,AA i),(7,AA 0)] hh2 m' ?_ (λm2 hm2=>?_);simp[go_sem,Or];subst hm2;rcases hR with⟨hr0,⟨z',fr,rfl⟩,rfl⟩|⟨r,fr,csr,sr,rfl,rfl,hcr⟩
        have:xr=[]:=vb.1 hr0;subst this;refine W2.fz (ob:=[]) (Z:=o2) (A:=P i++[AA xk,AA xc,AA xi,.str xt,AO xh.Q,AA xh.I,AA xh.move,AX xh.Y,AN xh.Z,AH (Oh b xf)]) (B:=V) (v:=.y z' [] fr) (w:=Au []) (cs':=P i++AA xk::AA xc::AA xi::.str xt::AO xh.Q::AA xh.I::AA xh.move::AX xh.Y::AN xh.Z::AH (Oh b xf)::Au []::V) C mr mr (λh2 _=>⟨1,Fg mr⟩) (λo F=>?_);have t:=F.at (p:=j) (qK ..);refine AP (Aq 0 (α:=Unit) (λ_=>[(1,AA b),(5,.sl j 0 11 l.length full),(6,AA i),(7,AA 0)]) (λ_=>o) (λ_ m2=>m'=m2) (λ_=>0) () rfl (by simp[look,Or]) AC ?_);rintro _ m2 rfl;refine AK ?_;simp[go_sem,t,G,Av d,d,qq];exact⟨⟨i+1,V,o2,o⟩,⟨rfl,hD,by dsimp only;rw[hPn];exact F⟩,AC⟩;obtain⟨P1,hQ0,hQl,hQs,hQe⟩:=Xx AL.E (fC b) xr;obtain⟨X,O⟩:∃X,X=P i++AA xk::AA xc::AA xi::.str xt::AO xh.Q::AA xh.I::AA xh.move::AX xh.Y::AN xh.Z::AH (Oh b xf)::.sl r 0 6 xr.length fr::V:=⟨_,rfl⟩
        rw[<-O]at W2;refine AP (Aq 0 (α:=KS) (λs=>[(1,AA b),(5,.sl j 0 11 l.length full),(6,AA i),(7,AA s.i)]) (λs=>s.hh) (λs m2=>m2=m'/\s.i<=xr.length/\Bg (xr.drop s.i) s.D s.oD/\IY n H ((r,.cells (P1 s.i++s.D))::(s.oD++((j,.cells X)::o2))) s.hh m') (λs=>xr.length-s.i) ⟨0,csr,sr,hh2⟩ ⟨rfl,Nat.zero_le _,hcr,by dsimp only;rw[hQ0];exact W2.perm Ud⟩ ?_ AC ?_);simp[go_sem,look,Or];rintro⟨a,Dr,oR,hr⟩ m2 ⟨rfl,ha,K,Wr⟩;dsimp only at ha K Wr ⊢;by_cases M:a<xr.length
        . have w2:=wS a mq;have hjr:=Wr.at (p:=j) (y:=.cells X) mr;rw[O]at hjr;obtain⟨y,hye⟩:∃y,xr[a]=y:=⟨_,rfl⟩
          obtain⟨y1,y2⟩:=x3 y (hye▸qn M);have f:=hQl a ha;have hQi:=hQs a M;rw[hye]at hQi;rw[qA M,hye,Bg]at K;obtain⟨d1,d2,q1,q2,rfl,rfl,hY,K⟩:=K;refine Al 0 [(1,AA b),(5,.sl j 0 11 l.length full),(6,AA i),(7,AA a)] hr m2 ?_ (λU hm3=>?_);simp[go_sem,Or,hjr,G,M,Av d,d,qq];subst hm3;refine AV 0 (α:=KS) (λ_=>[(1,AA b),(5,.sl j 0 11 l.length full),(6,AA i),(7,AA a)]) (λs=>s.hh) (λs U=>U=m2/\s.i=a+1/\Bg (xr.drop s.i) s.D s.oD/\IY n H ((r,.cells (P1 s.i++s.D))::(s.oD++((j,.cells X)::o2))) s.hh m2) (AP ?_) (λs U hs3=>?_)
          . cases y with
            | mk yh yc=>
            rw[Gc]at hY;obtain⟨vc,rfl,hC⟩:=hY;simp only[AL.cells]at y1 y2;rw[qr q1]at Wr;have hQn:P1 (a+1)++d2=P1 a++AO yh.Q::AA yh.I::AA yh.move::AX yh.Y::AN yh.Z::BS (yc.map (fB b))::d2:=by
             rw[hQi,show fC b (.mk yh yc)=.mk yh (yc.map (fB b))from wN _ _ _ _,qR];simp[SV.cells,AL.H,AL.cells]
            refine Al 0 [(1,AA b),(5,.sl j 0 11 l.length full),(6,AA i),(7,AA a),(8,AA 0)] hr m2 ?_ (λU hm3=>?_);simp[go_sem,Or];subst hm3;rcases hC with⟨hc0,⟨z',fc,rfl⟩,rfl⟩|⟨c,fc,csc,sc,rfl,rfl,hcc⟩
            have:yc=[]:=vb.1 hc0;subst this;refine Wr.fz (ob:=[]) (A:=P1 a++[AO yh.Q,AA yh.I,AA yh.move,AX yh.Y,AN yh.Z]) (B:=d2) (v:=.y z' [] fc) (w:=BS []) (cs':=P1 a++AO yh.Q::AA yh.I::AA yh.move::AX yh.Y::AN yh.Z::BS []::d2) C (by simp[AG.j]) mr (λh2 _=>⟨1,Fg mr⟩) (λo F=>?_);have T:=F.at (p:=r) (qK ..);have t:=F.at (p:=j) (y:=.cells X) mr;rw[O]at t;refine AP (Aq 0 (α:=Unit) (λ_=>[(1,AA b),(5,.sl j 0 11 l.length full),(6,AA i),(7,AA a),(8,AA 0)]) (λ_=>o) (λ_ U=>m2=U) (λ_=>0) () rfl (by simp[look,Or]) AC ?_);rintro _ U rfl;refine AK ?_;simp[go_sem,t,T,G,M,Av d,d,Av f,f,qq];exact⟨⟨a+1,d2,q2,o⟩,⟨rfl,K,by dsimp only;rw[hQn];exact F⟩,AC⟩;obtain⟨P2,hK0,hKl,hKs,hKe⟩:=Xx AF.E (fB b) yc;obtain⟨CR,hCR⟩:∃CR,CR=P1 a++AO yh.Q::AA yh.I::AA yh.move::AX yh.Y::AN yh.Z::.sl c 0 7 yc.length fc::d2:=⟨_,rfl⟩
            have eR:P1 a++(yh.j++[.sl c 0 7 yc.length fc]++d2)=CR:=by rw[hCR];simp[AG.j]
            rw[eR]at Wr;refine AP (Aq 0 (α:=KS) (λs=>[(1,AA b),(5,.sl j 0 11 l.length full),(6,AA i),(7,AA a),(8,AA s.i)]) (λs=>s.hh) (λs U=>U=m2/\s.i<=yc.length/\BJ (yc.drop s.i) s.D s.oD/\IY n H ((c,.cells (P2 s.i++s.D))::(s.oD++((r,.cells CR)::(q2++((j,.cells X)::o2))))) s.hh m2) (λs=>yc.length-s.i) ⟨0,csc,sc,hr⟩ ⟨rfl,Nat.zero_le _,hcc,by dsimp only;rw[hK0];exact Wr.perm Ud⟩ ?_ AC ?_);simp[go_sem,look,Or];rintro⟨k,Dc,oC,hc⟩ U ⟨rfl,hk,S,Wc⟩;dsimp only at hk S Wc ⊢;by_cases hlk:k<yc.length
            . have w3:=wS k mq;have hjc:=Wc.at (p:=j) (y:=.cells X) mr;have hrc:=Wc.at (p:=r) (y:=.cells CR) mr;rw[O]at hjc;rw[hCR]at hrc;obtain⟨z,hze⟩:∃z,yc[k]=z:=⟨_,rfl⟩
              obtain⟨z1,z2⟩:=y2 z (hze▸qn hlk);have g:=hKl k hk;have hKi:=hKs k hlk;rw[hze]at hKi;rw[qA hlk,hze,BJ]at S;obtain⟨e1,e2,r1,r2,rfl,rfl,hZ,S⟩:=S;refine Al 0 [(1,AA b),(5,.sl j 0 11 l.length full),(6,AA i),(7,AA a),(8,AA k)] hc U ?_ (λm4 hm4=>?_);simp[go_sem,Or,hjc,hrc,G,M,hlk,Av d,d,Av f,f,qq];subst hm4;refine AV 0 (α:=KS) (λ_=>[(1,AA b),(5,.sl j 0 11 l.length full),(6,AA i),(7,AA a),(8,AA k)]) (λs=>s.hh) (λs m4=>m4=U/\s.i=k+1/\BJ (yc.drop s.i) s.D s.oD/\IY n H ((c,.cells (P2 s.i++s.D))::(s.oD++((r,.cells CR)::(q2++((j,.cells X)::o2))))) s.hh U) (AP ?_) (λs m4 hs4=>?_)
              . cases z with
                | mk ei eh ef=>
                rw[Eu]at hZ;obtain⟨ve,rfl,hG⟩:=hZ;simp only[AF.id,AF.W]at z1 z2;rw[qr r1]at Wc;have w4:IntKind.i64.wrap (ei+b)=ei+b:=EU mq mq;have hKn:P2 (k+1)++e2=P2 k++AA (ei+b)::AO eh.Q::AA eh.I::AA eh.move::AX eh.Y::AN eh.Z::AH (Oh b ef)::e2:=by
                 rw[hKi,show fB b (.mk ei eh ef)=.mk (ei+b) eh (Oh b ef)from wU _ _ _ _,vD];simp[SV.cells,AF.id,AF.H,AF.W]
                refine Wc.fz (A:=P2 k++[AA ei,AO eh.Q,AA eh.I,AA eh.move,AX eh.Y,AN eh.Z]) (B:=e2) (v:=ve) (w:=AH ef) (cs':=P2 k++AA ei::AO eh.Q::AA eh.I::AA eh.move::AX eh.Y::AN eh.Z::AH ef::e2) C (by simp[AG.j]) mr (λh2 hn=>(TG hG (λq hq=>Wc.has q (by simp[hq])) hn).imp λK0 hK=>hK K0 (IO _)) (λo F=>?_);have hc3:=F.at (p:=c) (qK ..);have t:=F.at (p:=j) (y:=.cells X) mr;have T:=F.at (p:=r) (y:=.cells CR) mr;rw[O]at t;rw[hCR]at T;refine Al 0 [(1,AA b),(5,.sl j 0 11 l.length full),(6,AA i),(7,AA a),(8,AA k),(9,.ptr c (k*7))] o U ?_ (λm4 hm4=>?_);simp[go_sem,Or,t,T,G,M,hlk,Av d,d,Av f,f,qq];subst hm4;clear t T;refine Al 0 [(1,AA b),(5,.sl j 0 11 l.length full),(6,AA i),(7,AA a),(8,AA k),(9,.ptr c (k*7))] (h_ o c (some (.cells (P2 k++AA (ei+b)::AO eh.Q::AA eh.I::AA eh.move::AX eh.Y::AN eh.Z::AH ef::e2)))) U ?_ (λm4 hm4=>?_);simp[go_sem,Or,hc3,w4,Av g,Am g,An g,g,qq];subst hm4;have W4:=F.write (y':=.cells (P2 k++AA (ei+b)::AO eh.Q::AA eh.I::AA eh.move::AX eh.Y::AN eh.Z::AH ef::e2)) C;generalize h_ o c (some (.cells (P2 k++AA (ei+b)::AO eh.Q::AA eh.I::AA eh.move::AX eh.Y::AN eh.Z::AH ef::e2)))=hh4 at W4 ⊢;clear F hc3;have hc4:=W4.at (p:=c) (qK ..);refine AK ?_;simp[go_sem,hc4,Av g,g,qq];refine qY (ih _ z2) ?_;simp[go_sem,hc4,Av g,Ax g,g,qq];have W5:=W4.write (y':=.cells (P2 k++AA (ei+b)::AO eh.Q::AA eh.I::AA eh.move::AX eh.Y::AN eh.Z::AH (Oh b ef)::e2)) C;exact⟨⟨k+1,e2,r2,_⟩,⟨rfl,S,by dsimp only;rw[hKn];exact W5⟩,AC⟩
              refine AK ?_;obtain⟨rfl,hsi,hD2,W2⟩:=hs4;simp[go_sem,w3,Or,-Int.natCast_add];exact⟨s,by omega,⟨by omega,hD2,W2⟩,by rw[hsi];exact Or,AC⟩
            . have hie:k=yc.length:=by omega
              subst hie;rw[vH,BJ]at S;obtain⟨rfl,rfl⟩:=S;rw[qV,hKe]at Wc;have Wc2:=Wc.perm (List.Perm.swap _ _ _);refine IY.fz (ob:=[(c,_)]) (Z:=q2++((j,.cells X)::o2)) (A:=P1 a++[AO yh.Q,AA yh.I,AA yh.move,AX yh.Y,AN yh.Z]) (B:=d2) (v:=.sl c 0 7 yc.length fc) (w:=BS (yc.map (fB b))) (cs':=P1 a++AO yh.Q::AA yh.I::AA yh.move::AX yh.Y::AN yh.Z::BS (yc.map (fB b))::d2) Wc2 C (by rw[hCR];simp) mr (λh2 hn=>⟨1,N5 AF.E mr (hn c (by simp[AJ])) (Wc.at (qK ..))⟩) (λo F=>?_);have T:=F.at (p:=r) (qK ..);have t:=F.at (p:=j) (y:=.cells X) mr;rw[O]at t;refine AK ?_;simp[go_sem,t,T,G,M,Av d,d,Av f,f,qq];exact⟨⟨a+1,d2,q2,o⟩,⟨rfl,K,by dsimp only;rw[hQn];exact F⟩,AC⟩
          refine AK ?_;obtain⟨rfl,hsi,hD2,W2⟩:=hs3;simp[go_sem,w2,Or,-Int.natCast_add];exact⟨s,by omega,⟨by omega,hD2,W2⟩,by rw[hsi];exact Or,AC⟩
        . have hie:a=xr.length:=by omega
          subst hie;rw[vH,Bg]at K;obtain⟨rfl,rfl⟩:=K;rw[qV,hQe]at Wr;have Wr2:=Wr.perm (List.Perm.swap _ _ _);refine IY.fz (ob:=[(r,_)]) (Z:=o2) (A:=P i++[AA xk,AA xc,AA xi,.str xt,AO xh.Q,AA xh.I,AA xh.move,AX xh.Y,AN xh.Z,AH (Oh b xf)]) (B:=V) (v:=.sl r 0 6 xr.length fr) (w:=Au (xr.map (fC b))) (cs':=P i++AA xk::AA xc::AA xi::.str xt::AO xh.Q::AA xh.I::AA xh.move::AX xh.Y::AN xh.Z::AH (Oh b xf)::Au (xr.map (fC b))::V) Wr2 C (by rw[O];simp) mr (λh2 hn=>⟨1,N5 AL.E mr (hn r (by simp[AJ])) (Wr.at (qK ..))⟩) (λo F=>?_);have t:=F.at (p:=j) (qK ..);refine AK ?_;simp[go_sem,t,G,Av d,d,qq];exact⟨⟨i+1,V,o2,o⟩,⟨rfl,hD,by dsimp only;rw[hPn];exact F⟩,AC⟩
      refine AK ?_;obtain⟨rfl,hsi,hD2,W2⟩:=hs2;simp[go_sem,w1,Or,-Int.natCast_add];exact⟨s,by omega,⟨by omega,hD2,W2⟩,by rw[hsi];exact Or,AC⟩
    have hie:i=l.length:=by omega
    subst hie;rw[vH,BK]at hD;obtain⟨rfl,rfl⟩:=hD;rw[qV,hPe]at W;refine AK ?_;simp[go_sem];refine⟨W.le,?_,W.old⟩;rw[show AH (Oh b l)=.y 11 ((l.map (ku b)).map AB.h) false by rw[Oh,wM]];exact N5 AB.E mr (hnone _ (W.ks j (by simp[AJ])).1) (W.at mr)
  refine AK ?_;simp[go_sem];exact Ar ho (AB.E.y _ _ _ _) rfl
theorem upC(b:Int)(hb:0<=b/\b<=1000):ak (σ:=Unit) (λ_ _=>none) 0 113 29 32 [] [.q [G7 b]] [.q [G7 b]] (UG (PO b) λ_ _ i=>EE b i) okU iJ Vz (λ_=>0) 0 where
 up:=⟨λ_ _ _=>IO _,λ_ _=>IO _,λ_ _=>IO _⟩
 lt s o h:=rfl
 dom s s' o h:=rfl
 cl s o y h:=by cases h
 zero l h:=h
 W N id l s H n hl ht hn hs:=by
  refine ww (eY id l H n) ?_;rintro v h' n' ⟨rfl,rfl,rfl⟩;exact⟨rfl,(DF s _ hs).symm,rfl⟩
 H x s H n hx _ hn hs:=by
  refine ww (w29 x hx b hb H n) ?_;rintro v h' n' ⟨rfl,rfl,rfl⟩;exact⟨rfl,(DF s _ hs).symm,rfl⟩
 item N x s H n hx ht hn hs:=by
  refine ww (w32 x hx.1.2 b hb H n) ?_;rintro v h' n' ⟨rfl,rfl,rfl⟩;exact⟨rfl,(DF s _ hs).symm,rfl⟩
 flow_ok N id l s hl:=⟨hl.1,hl.2⟩
 item_ok N x s hx _:=⟨hx.1.1,λ_=>hx.2.1,λ_=>⟨hx.2.2.1,λr hr=>⟨(hx.2.2.2 r hr).1,(hx.2.2.2 r hr).2.1,λc a=>⟨((hx.2.2.2 r hr).2.2 c a).1.1,((hx.2.2.2 r hr).2.2 c a).2⟩⟩⟩⟩
theorem w31(b:Int)(hb:0<=b/\b<=1000){N:Nat}{l:List AB}(f:okU N l){hp:AG->Prop}{T:Int->Prop}(hw:wf hp T N l):PC 31 [AH l,.fn (.func 32) [] [.q [G7 b]],.fn (.func 29) [] [.q [G7 b]]] (AH (AB.gmL (PO b) (λ_ _ i=>EE b i) (λi=>i) l)):=by
 intro H n;have h:=d31 (upC b hb) (λ_ _ _=>rfl) (λN x s a _=>⟨a.2.1,a.2.2.1,λr hr=>⟨(a.2.2.2 r hr).1,(a.2.2.2 r hr).2.1,λc d=>⟨((a.2.2.2 r hr).2.2 c d).1.1,((a.2.2.2 r hr).2.2 c d).2⟩⟩⟩) N 0 l () H n f (IO _) (qj _) (λo y e=>by cases e);rw[Wf N l hw 0]at h;refine ww h ?_;rintro v h' n' ⟨rfl,rfl,rfl⟩;exact⟨rfl,rfl,rfl⟩
structure fU(B N:Nat)(b:Int)(d z:AI):Prop where
 okU:okU N d.W
 hend:Vz d.T0
 V:∀r∈d.V,0<=r.id/\r.id<=1073741824
 coms:∀c∈d.S.C,(0<=c.id/\c.id<=1073741824)/\0<=c.parent/\c.parent<=1073741824
 wf:∃hp T,wf hp T N d.W
 okK:okK N (AB.gmL (PO b) (λ_ _ i=>EE b i) (λi=>i) d.W)
 W:Oh b (AB.gmL (PO b) (λ_ _ i=>EE b i) (λi=>i) d.W)=(KR b d).W
 size:(KR b d).sizedT B N
 p1:PC 25 [d.h] z.h
 p2:PC 24 [z.h,z.h] (.bool true)
 p3:Cy N (KR b d)->PC 25 [(KR b d).h] z.h
def B7(d:AI)(f:List AB)(e:AG)(v w:SV):List SV:=[AH f,AO e.Q,AA e.I,AA e.move,AX e.Y,AN e.Z,v,AT d.S.A,Bi d.S.L,w,CA d.S.vars]
structure AS where
 v:SV
 o:DA
 hh:Hp
def iX:Tr:=(.pure 0 (.one 1 (.pure 2 (.pure 3 (.two 4 6 (.two 5 6 (.one 6 (.one 7 (.one 8 (.pure 9 (.pure 10 .nil))))) (.one 5 (.one 7 (.one 8 (.pure 9 (.pure 10 .nil)))))) (.one 4 (.one 5 (.one 7 (.one 8 (.pure 9 (.pure 10 .nil)))))))))))
theorem apR{H:Hp}{p:Nat}:Ak prog H p .append [30,30] [.y 3 [] true,BV []]=some { val:=.y 3 [] true }:=by
 have a:A5 prog 30=some 68:=by simp[go_sem]
 have b:Bj prog 68=3:=by simp[go_sem]
 have c:(BU prog 68).B=true:=by simp[go_sem]
 have d:(BU prog 68).cells.length=3:=by simp[go_sem]
 simp only[Ak,a,Option.isSome_some,if_true,Fq,b,c,d];simp[OM,In,flat,C9]
theorem apM{H:Hp}{p:Nat}:Ak prog H p .append [33,33] [.y 6 [] true,Af []]=some { val:=.y 6 [] true }:=by
 have a:A5 prog 33=some 71:=by simp[go_sem]
 have b:Bj prog 71=6:=by simp[go_sem]
 have c:(BU prog 71).B=true:=by simp[go_sem]
 have d:(BU prog 71).cells.length=6:=by simp[go_sem]
 simp only[Ak,a,Option.isSome_some,if_true,Fq,b,c,d];simp[OM,In,flat,C9]
theorem cq(fE:GC 11 [] (.bool true))(d:AI){B N:Nat}(hB:B<=1048576)(hd:d.sizedT B N)(y:Int)(hy:0<=y/\y<65536)(HF:∀b,0<=b/\b<=1000->Cy N d->LS N d.W->MM N d.W<=150->∃z,fU B N b d z):GC 10 [d.h,.int .u16 y] (.bool true):=by
 intro E hI h n;refine FF func10 rfl λho=>?_;have g:=ho.lt;refine As 1 [(1,.int .u16 y),(2,.q (B9 d)),(4,.bool false)] h n ?_ (λm hm=>?_);rw[B9];simp[go_sem,Or,AI.h,AG.j,AQ.j];refine⟨Ap (ho.none (IO n)) (by simp[h_]),λj y=>?_⟩;have:=ho j y;simp only[h_];grind;have h12:=iU d hB hd;rw[Gq]at h12;refine LK ?_;refine DH 0 (α:=Bx) (λx=>[(1,.int .u16 y),(2,.q (B9 d)),(19,.bool (!x.b))]) (λ_=>h) (λx m=>n<=m/\(x.b=true->Cy N d/\LS N d.W/\MM N d.W<=150)) ?_ (λx m hm=>?_);simp[go_sem];refine fE.use hI ?_;simp[go_sem,B9];refine TC.use (by simpa[B9]using h12) ?_;rintro v ⟨b,rfl,hb⟩;simp[go_sem,Or];exact⟨⟨b⟩,⟨hm,hb⟩,rfl⟩;obtain⟨hm,hb⟩:=hm;rcases x with⟨b⟩
 cases b with
 | false=>
  refine BD (b:=true) ms ?_;rw[my rfl];refine AK ?_;simp[go_sem];refine fE.use hI ?_;simp[go_sem];exact Ar ho rfl rfl
 | true=>
  obtain⟨hg,hfw,htt⟩:=hb rfl;clear hb;obtain⟨b,hbt,hb⟩:∃b,y.tmod 1001=b/\0<=b/\b<=1000:=⟨_,rfl,by rw[Int.tmod_eq_emod_of_nonneg hy.1];omega⟩
  have w0:IntKind.i64.wrap b=b:=EU mq mq;obtain⟨zd,HF⟩:=HF b hb hg hfw htt;refine BD (b:=false) ms ?_;rw[mw mr];have hHm:∀j y,h j=some y->j<m:=λj y e=>by have:=g j y e;omega
  refine M6 ?_;show SP _ _ _ _ _ _ _;refine As 1 [(2,.q (B9 d)),(5,.q [AA b])] h n ?_ (λm hm=>?_);simp[go_sem,Or,hbt,w0,AE,Ad];refine⟨by omega,Ap (Ai hHm (IO _)) (by rw[AE]),λj y e=>by have:=hHm j y e;rw[AD _ _ mq];exact e⟩;have hHm:∀j y,h j=some y->j<m:=λj y e=>by have:=g j y e;omega
  refine As 1 [(2,.q (B9 d)),(5,.q [AA b]),(6,.q [G7 b])] h n ?_ (λm hm=>?_);simp[go_sem,Or,AE,Ad];refine⟨by omega,Ap (Ai hHm (IO _)) (by rw[AE]),λj y e=>by have:=hHm j y e;rw[AD _ _ mq];exact e⟩;have hHm:∀j y,h j=some y->j<m:=λj y e=>by have:=g j y e;omega
  refine DH 0 (α:=Nat) (λq=>[(2,.q (B9 d)),(5,.q [AA b]),(6,.q [G7 b]),(7,.ptr q 0)]) (λq=>h_ h q (some (.cells (B9 d)))) (λq m=>n<=q/\q<m) ?_ (λq m hm=>?_);simp[go_sem,Or,B9,AE,Ad];exact⟨m,⟨hm,by omega⟩,rfl,AC⟩;obtain⟨hnq,hqm⟩:=hm;have W:IY n h [(q,.cells (B9 d))] (h_ h q (some (.cells (B9 d)))) m:=⟨by omega,by simp[AJ],λk hk=>by simp[AJ]at hk;omega,λp hp=>by rw[qw]at hp;subst hp;exact AE _ _ _,λj z e=>by have:=g j z e;rw[AD _ _ mq];exact e⟩
  generalize h_ h q (some (.cells (B9 d)))=hh at W ⊢;clear hHm;have hrl:=hd.V;have hcl:=hd.S.1.C;refine DH 0 (α:=AS) (λ_=>[(2,.q (B9 d)),(5,.q [AA b]),(6,.q [G7 b]),(7,.ptr q 0)]) (λa=>a.hh) (λa m'=>m<=m'/\IY n h ((q,.cells (B7 d d.W d.T0 a.v (Af d.S.C)))::a.o) a.hh m'/\Ka 3 (d.V.map By.h) a.v a.o) ?_ (λa m2 hm=>?_);have u:=W.at (p:=q) (qK ..);rw[B9]at u;rw[B9];simp[go_sem];refine BX (z:=3) rfl rfl mu ?_;cases hr:d.V with
  | nil=>
   simp[go_sem,apR,u,Or];exact⟨⟨.y 3 [] true,[],_⟩,⟨W.write (y':=.cells (B7 d d.W d.T0 (.y 3 [] true) (Af d.S.C))) g,.inl ⟨rfl,⟨_,_,rfl⟩,rfl⟩⟩,AC⟩
  | cons a l=>
   have hap:Ak prog hh m .append [30,30] [.y 3 [] true,BV (a::l)]=_:=Gi (P:=prog) (h:=hh) (n:=m) (t:=30) (t2:=30) (el:=68) (z:=3) (es:=(a::l).map By.h) (full:=false) ms ms ms mr ms ms ms mr (by rw[hr]at hrl;simp at hrl ⊢;omega);obtain⟨CR,hCR⟩:∃CR,CR=((a::l).map By.h).flatMap SV.cells:=⟨_,rfl⟩
   rw[<-hCR]at hap;have hmq:m≠q:=by omega
   simp[go_sem,hap,u,Or,AD _ _ hmq.symm];exact⟨⟨.sl m 0 3 (l.length+1) false,[(m,.cells CR)],_⟩,⟨(W.push (y:=.cells CR) (IO m) g).write (y':=.cells (B7 d d.W d.T0 (.sl m 0 3 (l.length+1) false) (Af d.S.C))) g,.inr ⟨m,false,CR,[],by simp,rfl,hCR,rfl⟩⟩,AC⟩
  obtain⟨hmm,W,hL⟩:=hm;rcases a with⟨v,o,hh⟩
  dsimp only at hmm W hL ⊢;obtain⟨R,hR⟩:∃R,R=d.V.map λr:By=>{ r with id:=EE b r.id }:=⟨_,rfl⟩
  refine AV 0 (α:=Hp) (λ_=>[(2,.q (B9 d)),(5,.q [AA b]),(6,.q [G7 b]),(7,.ptr q 0)]) (λhh=>hh) (λhh H=>H=m2/\IY n h [(q,.cells (B7 d d.W d.T0 (BV R) (Af d.S.C)))] hh H) ?_ (λhh H hm3=>?_)
  . refine Al 0 [(2,.q (B9 d)),(5,.q [AA b]),(6,.q [G7 b]),(7,.ptr q 0),(8,AA 0)] hh m2 ?_ (λH hm3=>?_);simp[go_sem,Or];subst hm3;rcases hL with⟨h0,⟨z',full,rfl⟩,rfl⟩|⟨r,full,cs,sub,rfl,rfl,hcs,rfl⟩
    have h0':d.V=[]:=by simpa using h0
    have hR0:R=[]:=by rw[hR,h0'];rfl
    refine W.fz (ob:=[]) (Z:=[]) (A:=[AH d.W,AO d.T0.Q,AA d.T0.I,AA d.T0.move,AX d.T0.Y,AN d.T0.Z]) (B:=[AT d.S.A,Bi d.S.L,Af d.S.C,CA d.S.vars]) (v:=.y z' [] full) (w:=BV R) (cs':=B7 d d.W d.T0 (BV R) (Af d.S.C)) g rfl rfl (λh2 _=>⟨1,by rw[hR0];exact Fg mr⟩) (λK W3=>?_);have G:=W3.at (p:=q) (qK ..);rw[hR0,B7]at G;refine AP (Aq 0 (α:=Unit) (λ_=>[(2,.q (B9 d)),(5,.q [AA b]),(6,.q [G7 b]),(7,.ptr q 0),(8,AA 0)]) (λ_=>K) (λ_ H=>m2=H) (λ_=>0) () rfl (by simp[look,Or]) AC ?_);rintro _ H rfl;refine AK ?_;simp[go_sem,G];exact⟨K,W3,AC⟩
    . obtain⟨P,hP0,hPl,hPs,hPe⟩:=Xx By.E (λr:By=>{ r with id:=EE b r.id }) d.V;obtain⟨CQ,hCQ⟩:∃CQ,CQ=B7 d d.W d.T0 (.sl r 0 3 (d.V.map By.h).length full) (Af d.S.C):=⟨_,rfl⟩
      rw[<-hCQ]at W;have W2:=W.perm (List.Perm.swap _ _ _);refine AP (Aq 0 (α:=Nat×Hp) (λs=>[(2,.q (B9 d)),(5,.q [AA b]),(6,.q [G7 b]),(7,.ptr q 0),(8,AA s.1)]) (λs=>s.2) (λs H=>H=m2/\s.1<=d.V.length/\IY n h [(r,.cells (P s.1++((d.V.drop s.1).map By.h).flatMap SV.cells)),(q,.cells CQ)] s.2 m2) (λs=>d.V.length-s.1) (0,hh) ⟨rfl,Nat.zero_le _,by dsimp only;rw[hP0,List.drop_zero,List.nil_append,<-hcs];exact W2⟩ ?_ AC ?_);simp[go_sem,look,Or];rintro⟨i,hh⟩ H ⟨rfl,hi,W⟩;dsimp only at hi W ⊢;by_cases D:i<d.V.length
      . have w1:=wS i mq;obtain⟨x,hx⟩:∃x,d.V[i]=x:=⟨_,rfl⟩
        have hxid:=HF.V x (hx▸qn D);have f:=hPl i hi;have hPi:=hPs i D;rw[hx]at hPi;obtain⟨S,hS⟩:∃S,S=((d.V.drop (i+1)).map By.h).flatMap SV.cells:=⟨_,rfl⟩
        have e1:P i++((d.V.drop i).map By.h).flatMap SV.cells=P i++(AA x.id::.str x.O::AA x.time::S):=by rw[qA D,hx,hS];rfl
        have e2:P (i+1)++S=P i++(AA (EE b x.id)::.str x.O::AA x.time::S):=by rw[hPi,qr];rfl
        rw[e1]at W;have hr:=W.at (p:=r) (qK ..);have u:=W.at (p:=q) (y:=.cells CQ) mr;rw[hCQ,B7]at u;have hrm:=W.ks r (by simp[AJ]);have hqm:=W.ks q (by simp[AJ]);have F:(i:Int)<d.V.length:=by omega
        refine Al 0 [(2,.q (B9 d)),(5,.q [AA b]),(6,.q [G7 b]),(7,.ptr q 0),(8,AA i)] hh H ?_ (λm4 hm4=>?_);simp[go_sem,Or,u,D];subst hm4;refine AV 0 (α:=Hp) (λ_=>[(2,.q (B9 d)),(5,.q [AA b]),(6,.q [G7 b]),(7,.ptr q 0),(8,AA i)]) (λhh=>hh) (λhh m4=>m4=H/\IY n h [(r,.cells (P (i+1)++S)),(q,.cells CQ)] hh H) (AP ?_) (λhh4 m4 hm4=>?_)
        . have W':=W.write (y':=.cells (P i++(AA (EE b x.id)::.str x.O::AA x.time::S))) g;rw[e2];refine AK ?_;simp[go_sem,u,hr,F,Am f,f]
          repeat first|refine aq ?_|refine nd mu ?_|refine sq ?_
          refine vy _ _ _ _ _ _ (eZ x.id b hxid hb) ?_;simp[go_sem,hr,F,Av f,An f,f,Or]
          repeat first|refine aq ?_|refine nd (by simp[CL,DU,DE,Aj,Region.binds]<;>omega) ?_|refine sq ?_
          exact⟨_,W',AC⟩
        refine AK ?_;obtain⟨rfl,W4⟩:=hm4;simp[go_sem,w1,Or,-Int.natCast_add];exact⟨i+1,by omega,hh4,⟨by omega,by rw[hS,List.map_drop]at W4;exact W4⟩,Or,AC⟩
      . have hie:i=d.V.length:=by omega
        subst hie;rw[vH,vN,List.flatMap_nil,qV,hPe]at W;have W2:=W.perm (List.Perm.swap _ _ _);refine IY.fz (ob:=[(r,_)]) (Z:=[]) (A:=[AH d.W,AO d.T0.Q,AA d.T0.I,AA d.T0.move,AX d.T0.Y,AN d.T0.Z]) (B:=[AT d.S.A,Bi d.S.L,Af d.S.C,CA d.S.vars]) (v:=.sl r 0 3 (d.V.map By.h).length full) (w:=BV R) (cs':=B7 d d.W d.T0 (BV R) (Af d.S.C)) W2 g (by rw[hCQ];rfl) rfl (λh2 hn=>⟨1,by rw[hR];exact N5 By.E mr (hn r (by simp[AJ])) (W.at (qK ..))⟩) (λK W3=>?_);have G:=W3.at (p:=q) (qK ..);rw[B7]at G;have hRl:R.length=d.V.length:=by rw[hR,qf]
        refine AK ?_;simp[go_sem,G,hRl];exact⟨K,W3,AC⟩
  clear W hL;obtain⟨rfl,W⟩:=hm3;refine DH 0 (α:=AS) (λ_=>[(2,.q (B9 d)),(5,.q [AA b]),(6,.q [G7 b]),(7,.ptr q 0)]) (λa=>a.hh) (λa m'=>H<=m'/\IY n h ((q,.cells (B7 d d.W d.T0 (BV R) a.v))::a.o) a.hh m'/\Ka 6 (d.S.C.map AR.h) a.v a.o) ?_ (λa m4 hm=>?_);have u:=W.at (p:=q) (qK ..);rw[B7]at u;rw[B9];simp[go_sem];refine BX (z:=6) rfl rfl mu ?_;cases hr:d.S.C with
  | nil=>
   simp[go_sem,apM,u,Or,B7];exact⟨⟨.y 6 [] true,[],_⟩,⟨W.write (y':=.cells (B7 d d.W d.T0 (BV R) (.y 6 [] true))) g,.inl ⟨rfl,⟨_,_,rfl⟩,rfl⟩⟩,AC⟩
  | cons a l=>
   have hap:Ak prog hh H .append [33,33] [.y 6 [] true,Af (a::l)]=_:=Gi (P:=prog) (h:=hh) (n:=H) (t:=33) (t2:=33) (el:=71) (z:=6) (es:=(a::l).map AR.h) (full:=false) ms ms ms mr ms ms ms mr (by rw[hr]at hcl;simp at hcl ⊢;omega);obtain⟨CR,hCR⟩:∃CR,CR=((a::l).map AR.h).flatMap SV.cells:=⟨_,rfl⟩
   rw[<-hCR]at hap;have hmq:H≠q:=by have:=W.ks q (by simp[AJ]);omega
   simp[go_sem,hap,u,Or,AD _ _ hmq.symm];exact⟨⟨.sl H 0 6 (l.length+1) false,[(H,.cells CR)],_⟩,⟨(W.push (y:=.cells CR) (IO H) g).write (y':=.cells (B7 d d.W d.T0 (BV R) (.sl H 0 6 (l.length+1) false))) g,.inr ⟨H,false,CR,[],by simp,rfl,hCR,rfl⟩⟩,AC⟩
  obtain⟨hmm2,W,hL⟩:=hm;rcases a with⟨v,o,hh⟩
  dsimp only at hmm2 W hL ⊢;obtain⟨M,hM⟩:∃M,M=d.S.C.map λc:AR=>{ c with id:=EE b c.id,parent:=EE b c.parent }:=⟨_,rfl⟩
  refine AV 0 (α:=Hp) (λ_=>[(2,.q (B9 d)),(5,.q [AA b]),(6,.q [G7 b]),(7,.ptr q 0)]) (λhh=>hh) (λhh U=>U=m4/\IY n h [(q,.cells (B7 d d.W d.T0 (BV R) (Af M)))] hh U) ?_ (λhh U hm5=>?_)
  . refine Al 0 [(2,.q (B9 d)),(5,.q [AA b]),(6,.q [G7 b]),(7,.ptr q 0),(9,AA 0)] hh m4 ?_ (λU hm5=>?_);simp[go_sem,Or];subst hm5;rcases hL with⟨h0,⟨z',full,rfl⟩,rfl⟩|⟨r,full,cs,sub,rfl,rfl,hcs,rfl⟩
    have h0':d.S.C=[]:=by simpa using h0
    have hR0:M=[]:=by rw[hM,h0'];rfl
    refine W.fz (ob:=[]) (Z:=[]) (A:=[AH d.W,AO d.T0.Q,AA d.T0.I,AA d.T0.move,AX d.T0.Y,AN d.T0.Z,BV R,AT d.S.A,Bi d.S.L]) (B:=[CA d.S.vars]) (v:=.y z' [] full) (w:=Af M) (cs':=B7 d d.W d.T0 (BV R) (Af M)) g rfl rfl (λh2 _=>⟨1,by rw[hR0];exact Fg mr⟩) (λK W3=>?_);have G:=W3.at (p:=q) (qK ..);rw[hR0,B7]at G;refine AP (Aq 0 (α:=Unit) (λ_=>[(2,.q (B9 d)),(5,.q [AA b]),(6,.q [G7 b]),(7,.ptr q 0),(9,AA 0)]) (λ_=>K) (λ_ U=>m4=U) (λ_=>0) () rfl (by simp[look,Or]) AC ?_);rintro _ U rfl;refine AK ?_;simp[go_sem,G];exact⟨K,W3,AC⟩
    . obtain⟨P,hP0,hPl,hPs,hPe⟩:=Xx AR.E (λc:AR=>{ c with id:=EE b c.id,parent:=EE b c.parent }) d.S.C;obtain⟨CQ,hCQ⟩:∃CQ,CQ=B7 d d.W d.T0 (BV R) (.sl r 0 6 (d.S.C.map AR.h).length full):=⟨_,rfl⟩
      rw[<-hCQ]at W;have W2:=W.perm (List.Perm.swap _ _ _);refine AP (Aq 0 (α:=Nat×Hp) (λs=>[(2,.q (B9 d)),(5,.q [AA b]),(6,.q [G7 b]),(7,.ptr q 0),(9,AA s.1)]) (λs=>s.2) (λs U=>U=m4/\s.1<=d.S.C.length/\IY n h [(r,.cells (P s.1++((d.S.C.drop s.1).map AR.h).flatMap SV.cells)),(q,.cells CQ)] s.2 m4) (λs=>d.S.C.length-s.1) (0,hh) ⟨rfl,Nat.zero_le _,by dsimp only;rw[hP0,List.drop_zero,List.nil_append,<-hcs];exact W2⟩ ?_ AC ?_);simp[go_sem,look,Or];rintro⟨i,hh⟩ U ⟨rfl,hi,W⟩;dsimp only at hi W ⊢;by_cases D:i<d.S.C.length
      . have w1:=wS i mq;obtain⟨x,hx⟩:∃x,d.S.C[i]=x:=⟨_,rfl⟩
        have hxid:=HF.coms x (hx▸qn D);have f:=hPl i hi;have hPi:=hPs i D;rw[hx]at hPi;obtain⟨S,hS⟩:∃S,S=((d.S.C.drop (i+1)).map AR.h).flatMap SV.cells:=⟨_,rfl⟩
        have e1:P i++((d.S.C.drop i).map AR.h).flatMap SV.cells=P i++(AA x.id::AA x.parent::.str x.O::AA x.time::.str x.J::.bool x.done::S):=by rw[qA D,hx,hS];rfl
        have e2:P (i+1)++S=P i++(AA (EE b x.id)::AA (EE b x.parent)::.str x.O::AA x.time::.str x.J::.bool x.done::S):=by rw[hPi,qr];rfl
        rw[e1]at W;have hr:=W.at (p:=r) (qK ..);have u:=W.at (p:=q) (y:=.cells CQ) mr;rw[hCQ,B7]at u;have hrm:=W.ks r (by simp[AJ]);have hqm:=W.ks q (by simp[AJ]);have F:(i:Int)<d.S.C.length:=by omega
        refine Al 0 [(2,.q (B9 d)),(5,.q [AA b]),(6,.q [G7 b]),(7,.ptr q 0),(9,AA i)] hh U ?_ (λm6 hm6=>?_);simp[go_sem,Or,u,D];subst hm6;refine AV 0 (α:=Hp) (λ_=>[(2,.q (B9 d)),(5,.q [AA b]),(6,.q [G7 b]),(7,.ptr q 0),(9,AA i)]) (λhh=>hh) (λhh m6=>m6=U/\IY n h [(r,.cells (P (i+1)++S)),(q,.cells CQ)] hh U) (AP ?_) (λhh4 m6 hm6=>?_)
        . have W':=W.write (y':=.cells (P i++(AA (EE b x.id)::AA (EE b x.parent)::.str x.O::AA x.time::.str x.J::.bool x.done::S))) g;rw[e2];refine Al 0 [(2,.q (B9 d)),(5,.q [AA b]),(6,.q [G7 b]),(7,.ptr q 0),(9,AA i),(10,.ptr r (i*6))] hh U ?_ (λm6 hm6=>?_);simp[go_sem,u,F,Or];subst hm6;have hs1:∀k,i*6+1+1<=i*6+(k+1+1+1+1+1+1):=λk=>by omega
          have hd2:∀A,List.drop (i*6+1+1) (P i++A)=List.drop 2 A:=λA=>Av f 2;refine AK ?_;simp[go_sem,hr,Am f,f]
          repeat first|refine aq ?_|refine nd mu ?_|refine sq ?_
          refine vy _ _ _ _ _ _ (eZ x.id b hxid.1 hb) ?_;simp[go_sem,hr,Av f,f,hs1]
          repeat first|refine aq ?_|refine nd mu ?_|refine sq ?_
          refine vy _ _ _ _ _ _ (eZ x.parent b hxid.2 hb) ?_;simp[go_sem,hr,Av f,Ax f,An f,f,Or,AE,Ad,hs1,hd2]
          repeat first|refine aq ?_|refine nd (by simp[CL,DU,DE,Aj,Region.binds]<;>omega) ?_|refine sq ?_
          exact⟨_,W',AC⟩
        refine AK ?_;obtain⟨rfl,W4⟩:=hm6;simp[go_sem,w1,Or,-Int.natCast_add];exact⟨i+1,by omega,hh4,⟨by omega,by rw[hS,List.map_drop]at W4;exact W4⟩,Or,AC⟩
      . have hie:i=d.S.C.length:=by omega
        subst hie;rw[vH,vN,List.flatMap_nil,qV,hPe]at W;have W2:=W.perm (List.Perm.swap _ _ _);refine IY.fz (ob:=[(r,_)]) (Z:=[]) (A:=[AH d.W,AO d.T0.Q,AA d.T0.I,AA d.T0.move,AX d.T0.Y,AN d.T0.Z,BV R,AT d.S.A,Bi d.S.L]) (B:=[CA d.S.vars]) (v:=.sl r 0 6 (d.S.C.map AR.h).length full) (w:=Af M) (cs':=B7 d d.W d.T0 (BV R) (Af M)) W2 g (by rw[hCQ];rfl) rfl (λh2 hn=>⟨1,by rw[hM];exact N5 AR.E mr (hn r (by simp[AJ])) (W.at (qK ..))⟩) (λK W3=>?_);have G:=W3.at (p:=q) (qK ..);rw[B7]at G;have hRl:M.length=d.S.C.length:=by rw[hM,qf]
        refine AK ?_;simp[go_sem,G,hRl];exact⟨K,W3,AC⟩
  clear W hL;obtain⟨rfl,W⟩:=hm5;refine Al 0 [(2,.q (B9 d)),(5,.q [AA b]),(6,.q [G7 b]),(7,.ptr q 0),(11,.fn (.func 29) [] [.q [G7 b]])] hh U ?_ (λm7 T=>?_);simp[go_sem,Or];subst T;obtain⟨hp0,T0,hwf⟩:=HF.wf;obtain⟨f1,hf1⟩:∃f1,f1=AB.gmL (PO b) (λ_ _ i=>EE b i) (λi=>i) d.W:=⟨_,rfl⟩
  have h31:=w31 b hb HF.okU hwf;have hk:=HF.okK;have hfl:=HF.W;rw[<-hf1]at h31 hk hfl;have h33:=w33 b hb N f1 hk;rw[hfl]at h33;refine Al 0 [(2,.q (B9 d)),(5,.q [AA b]),(6,.q [G7 b]),(7,.ptr q 0),(11,.fn (.func 29) [] [.q [G7 b]])] (h_ hh q (some (.cells (B7 d f1 d.T0 (BV R) (Af M))))) U ?_ (λm7 T=>?_);have u:=W.at (p:=q) (qK ..);rw[B7]at u;rw[B9];simp[go_sem];refine qY h31 ?_;simp[go_sem,u,B7,Or];subst T;have W1:=W.write (y':=.cells (B7 d f1 d.T0 (BV R) (Af M))) g;generalize h_ hh q (some (.cells (B7 d f1 d.T0 (BV R) (Af M))))=hh1 at W1 ⊢;refine Al 0 [(2,.q (B9 d)),(5,.q [AA b]),(6,.q [G7 b]),(7,.ptr q 0),(11,.fn (.func 29) [] [.q [G7 b]])] (h_ hh1 q (some (.cells (B7 d (KR b d).W d.T0 (BV R) (Af M))))) U ?_ (λm7 T=>?_);have u:=W1.at (p:=q) (qK ..);rw[B7]at u;simp[go_sem,u];refine qY h33 ?_;simp[go_sem,u,B7,Or];subst T;have W2:=W1.write (y':=.cells (B7 d (KR b d).W d.T0 (BV R) (Af M))) g;generalize h_ hh1 q (some (.cells (B7 d (KR b d).W d.T0 (BV R) (Af M))))=hh2 at W2 ⊢;obtain⟨X,hX⟩:∃X,X=KR b d:=⟨_,rfl⟩
  have hXf:B9 X=B7 d (KR b d).W (PO b d.T0) (BV R) (Af M):=by rw[hX,hR,hM];rfl
  have h26:=be X hB (by rw[hX];exact HF.size);have hp3:=HF.p3;have hp1:=HF.p1;have hp2:=HF.p2;rw[<-hX]at hp3;rw[Gq X,Gq zd]at hp3;rw[Gq d,Gq zd]at hp1;rw[Gq zd]at hp2;rw[Gq X]at h26;refine As 1 [(2,.q (B9 d)),(7,.q (B9 X))] h n ?_ (λm7 T=>?_);have u:=W2.at (p:=q) (qK ..);rw[B7]at u;rw[hXf];have h29:=w29 d.T0 HF.hend b hb;generalize PO b d.T0 = e9 at h29 ⊢;rw[AG.h,AG.h,AG.j,AG.j]at h29;rw[B9];simp[go_sem];refine qY h29 ?_;simp[go_sem,u,Or,B7];refine⟨W2.le,Ap (ho.none (W2.ks q (by simp[AJ])).1) (AE _ _ _),λj z e=>?_⟩;have:=g j z e;have:=W2.ks q (by simp[AJ]);rw[AD _ _ mq];exact W2.old j z e;refine AV 0 (α:=Unit) (λ_=>[(4,.bool true)]) (λ_=>h) (λ_ m=>n<=m) (CN iX rfl mu mu ?_) (λ_ m hm=>?_)
  . simp[go_sem,iX,B9];refine TC.use (by simpa[B9]using h26) ?_;rintro v ⟨e,rfl,he⟩;by_cases h0:e=0
    . subst h0;have hgx:=he.1 rfl;simp[go_sem]
      repeat' (with_reducible refine And.intro ?_ ?_)
      all_goals refine qY (by simpa[B9]using hp3 hgx) ?_
      all_goals simp[go_sem]
      all_goals refine qY (by simpa[B9]using hp1) ?_
      all_goals simp[go_sem]
      all_goals refine qY (by simpa[B9]using hp2) ?_
      all_goals simp[go_sem,Or,T]
    . simp[go_sem,h0,Or,T]
  refine AK ?_;simp[go_sem];exact Ar ho rfl rfl
theorem Qw{l:List AR}(h:JD l=0):∀c∈l,(1<=c.id/\c.id<=1073741824)/\0<=c.parent/\c.parent<=1073741824:=by
 unfold JD at h;rw[EL]at h;obtain⟨h1,h2⟩:=h;have hl:l.length<=1024:=by
  by_cases c:(1024:Int)<l.length;rw[my c]at h1;exact absurd h1 (by decide);omega
 rw[vF hl]at h2;have key:∀i (hi:i<l.length),(1<=l[i].id/\l[i].id<=1073741824)/\(l[i].parent=0\/l[i].parent∈(l.take i).map (·.id)):=λi hi=>by
  have h3:=GW h2 i hi;unfold Si at h3;rw[qk hi]at h3;dsimp only at h3;obtain⟨k1,k2⟩:=Nd h3;obtain⟨a1,a2,a3⟩:=Pt k1;rw[qk hi]at a1 a2;refine⟨⟨a1,a2⟩,?_⟩;by_cases p0:l[i].parent=0;exact .inl p0
  . right;split at k2;exact absurd k2 (by decide)
    next g=>
    rw[vI,vV,decide_eq_true_eq,Tz,JB]at g;obtain⟨j,hj,e⟩:=g.resolve_left p0;rw[qk hj]at e;exact qa.2 ⟨_,qn hj,of_decide_eq_true e⟩
 intro c hc;obtain⟨i,hi,rfl⟩:=vX hc;obtain⟨g1,g2⟩:=key i hi;refine⟨g1,?_⟩;rcases g2 with g2|g2;omega;obtain⟨x,hx,e⟩:=qa.1 g2;obtain⟨j,hj,rfl⟩:=vX (vA hx);have:=(key j hj).1;omega
theorem Lm{r:By}(h:Jm r=0):1<=r.id/\r.id<=1073741824:=by
 unfold Jm at h;split at h;cases h;omega
theorem SW{K:Ck}{hp:AG->Prop}{B:Nat}:∀{N:Nat} {pl:Cw} {l:List AB},lim hp B N l->gN K N pl l->∀a∈AB.anL l,1<=a.2
 | 0,_,_,h,_=>h.elim
 | N + 1, pl, l, hl, hg => by
  obtain⟨_,_,h3⟩:=Ca.1 hl;have key:∀x∈l,∀a∈x.an,1<=a.2:=λx hx a ha=>by
   obtain⟨a1,a2,a3,a4⟩:=h3 x hx;obtain⟨b1,b2,b3,b4,b5,b6,b7,b8⟩:=hg x hx;obtain⟨f1,f2,_⟩:=Km b1;rw[AB.an_eq]at ha;rcases qd.1 ha with g|g
   . split at g
     . next k=>
       rw[qw]at g;subst g;exact(b5 k).1
     cases g
   rcases qd.1 g with g|g;by_cases k:x.x=6;exact SW a2 (b7 k) a g;rw[f1 k,AB.anL]at g;cases g;rw[AL.anL_eq,qE]at g;obtain⟨r,hr,g⟩:=g;by_cases k:x.x=7;rw[AL.an_eq,AF.anL_eq,qE]at g;obtain⟨c,hc,g⟩:=g;rw[AF.an_eq]at g;exact SW ((a4 r hr).2.2 c hc).2 (((b8 k).2.2 r hr).2.2.2 c hc).2 a g;rw[f2 k]at hr;cases hr
  intro a ha;rw[AB.anL_eq,qE]at ha;obtain⟨x,hx,g⟩:=ha;exact key x hx a g
section
variable{N B:Nat}{d:AI}{n:Int}{m2:List Int}
theorem L8(C:GE N d)(F:ON m2 N d)(hr:d.V.length<=1000):PC 25 [d.h] (Jh N d).h/\∃m3,ON m3 N (Jh N d):=by
 obtain⟨T,hw⟩:=C.wf;have H:=C.two;obtain⟨f1,f2,f3⟩:=F.doc;obtain⟨G,f4⟩:=F.rn hw;obtain⟨c1,c2⟩:=NN H;have b:d.normal.renum.V.length<=1000:=qC (vC _ _) hr;have e:=G.can H.toHc b;obtain⟨g1,g2,g3⟩:=G.doc;obtain⟨m,n,o⟩:=e.doc;have p:lim AG.l 150000 N d.normal.renum.W:=G.lim.mono (λ_ g=>g.1) (IO _);have met:=Xh G H.toHc;obtain⟨an1,an2⟩:=ZT d.normal.renum;have heads:=G.heads;have clen:=G.clen;have a:=T5 H.toHc;obtain⟨T',c⟩:=H.wf;have k:(Qn d.normal.renum).l:=by
  obtain⟨s1,s2,s3,s4,q⟩:=g1;obtain⟨r,t2,t3,t4,t5,t⟩:=q;exact⟨s1,s2,s3,by show(FM _ 0).length<=_;rw[It];exact s4,⟨r,t2,by show(CF _ 0 _).1.length<=_;rw[Kh];exact t3,t4,t5,t⟩⟩
 refine⟨?_,_,by rw[c1];exact e⟩;refine w25 d f1 f2 f3 f4 (K:=150000) (N:=N) mq g1 p met k ?_ (by rw[a];exact m) (by rw[a];exact n) (by rw[a];exact o);have j:(IT (MS (FD (DS (HY N d.normal.renum))).2 (Dk d.normal.renum.V 0 [(0,0)])) N (Qn d.normal.renum) ((CF d.normal.renum.S.C 0 [(0,0)]).2,[])).2=(AB.anL d.normal.renum.W).foldl G4 ((CF d.normal.renum.S.C 0 [(0,0)]).2,[]):=by
  have f:=(T6 H.toHc).cm;have i:∀mv rv (E:AI) s,(IT (MS mv rv) N E s).2=(Aw (MS mv rv) N 0 E.W s).2:=λ_ _ _ _=>rfl;rw[i,show(Qn d.normal.renum).W=d.normal.renum.W from rfl,WU c _ _ _ _ (λg=>by have:=f.len;dsimp only at g this;rw[g]at this;simp at this)]
 rw[j];have S:=((T6 H.toHc).fold H.anch).bm.len;have:(List.foldl MK ([],Ee d.normal.renum) (AB.anL d.normal.renum.W)).1.length<=3150:=by
  have:H5 d.normal.renum=List.foldl MK ([],Ee d.normal.renum) (AB.anL d.normal.renum.W):=rfl;rw[<-this];omega
 omega
theorem Xw(e:lim AG.l B N d.W)(G:Cy N d):jg d:=by
 have ht:=JO G.ok;refine⟨λr hr=>?_,λc b=>?_,SW e G.W⟩;obtain⟨x,a,rfl⟩:=qa.1 hr;exact(Lm (ht.2.1 x a)).1;obtain⟨x,a,rfl⟩:=qa.1 b;exact(Qw (KX G.S) x a).1.1
theorem JW{h:AG}(d:h.l):(PO n h).l:=by
 obtain⟨a,b,c⟩:=d;exact⟨a,by show(h.Y.map _).length<=_;rw[qf];exact b,by show(h.Z.map _).length<=_;rw[qf];exact c⟩
theorem XR{h:AG}(g:Vy m2 h):Vy (m2.map (EE n)) (PO n h):=by
 obtain⟨a,⟨b1,d,f,i,j⟩⟩:=g;refine⟨JW a,⟨?_,by show(h.Y.map _).length<=_;rw[qf];exact d,λy b=>?_,by show(h.Z.map _).length<=_;rw[qf];exact i,λy b=>?_⟩⟩;rcases b1 with e|e;left;show EE n h.I=0;rw[e];rfl;exact .inr (qa.2 ⟨_,e,rfl⟩);obtain⟨z,c,rfl⟩:=qa.1 (show y∈h.Y.map _ from b);exact qa.2 ⟨_,f z c,rfl⟩;obtain⟨z,c,rfl⟩:=qa.1 (show y∈h.Z.map _ from b);exact qa.2 ⟨_,j z c,rfl⟩
theorem YW(a:d.S.l):(KR n d).S.l:=by
 obtain⟨s1,s2,s3,s4,b,c⟩:=a;exact⟨s1,s2,by show(d.S.C.map _).length<=_;rw[qf];exact s3,s4,b,c⟩
theorem ON.up(F:ON m2 N d):ON (m2.map (EE n)) N (KR n d):=by
 refine⟨LZ (λx h=>XR h) F.lim,XR F.T0,by rw[qf];exact F.mlen,?_,YW F.set,?_,?_⟩;show(d.V.map _).length<=_;rw[qf];exact F.rlen;show(d.S.C.map _).length<=_;rw[qf];exact F.clen;show(AB.hdL (AB.gmL _ _ _ _)).length<=_;rw[LU,qf];exact F.heads
theorem PE(hd:d.sizedT B N):(KR n d).sizedT B N:=by
 obtain⟨h1,h2,e,f,a⟩:=hd;refine⟨LZ (λx h=>JW h) h1,JW h2,by show(d.V.map _).length<=_;rw[qf];exact e,λr hr=>?_,?_⟩;obtain⟨x,b,rfl⟩:=qa.1 (show r∈d.V.map _ from hr);exact f x b;exact⟨YW a.1,a.tpl,λc g=>by
  obtain⟨x,b,rfl⟩:=qa.1 (show c∈d.S.C.map _ from g);exact a.com x b,a.var⟩
theorem XS(e:0<=n)(hd:d.sizedT B N)(C:GE N d)(F:ON m2 N d)(hr:d.V.length<=1000)(G:Cy N d)(a:Cy N (KR n d)):PC 25 [(KR n d).h] (Jh N d).h:=by
 have P:=Xw hd.W G;have b:=PE (n:=n) hd;have c:GE N (KR n d):=GE.good b.W a.W a.endH a.endI a.endM a.endD (JO a.ok) (T7 (KX a.S)).2;have:=(L8 c F.up (by show(d.V.map _).length<=_;rw[qf];exact hr)).1
 rwa [WV e C P]at this
theorem TL{g:AG->AG}{p:Int->Int->Int->Int}(e:B<=1048576):∀{N:Nat} {l:List AB},lim AG.l B N (AB.gmL g p (λi=>i) l)->okU N l->okK N (AB.gmL g p (λi=>i) l)
 | 0,_,h,_=>h.elim
 | N+1,l,hl,hu=>by
  obtain⟨_,_,n⟩:=Ca.1 hl;obtain⟨s1,s2⟩:=hl.l (λx h=>h) e;refine⟨s1,s2,λy k=>?_⟩;have d:=n y k;rw[wM,qa]at k;obtain⟨x,o,rfl⟩:=k;obtain⟨_,q,u3,s⟩:=hu.2 x o;rw[ws]at d ⊢;obtain⟨a1,a2,a3,a4⟩:=d;refine⟨TL e a2 q,by omega,λr hr=>?_⟩;have a:=a4 r hr;obtain⟨r0,j,rfl⟩:=qa.1 (show r∈x.R.map _ from hr);rw[wN]at a ⊢;refine⟨by have:=a.2.1;omega,λc m=>?_⟩;have b:=a.2.2 c m;obtain⟨c0,f,rfl⟩:=qa.1 (show c∈r0.cells.map _ from m);rw[wU]at b ⊢;obtain⟨⟨_,t⟩,v3⟩:=(s r0 j).2.2 c0 f;exact⟨t,TL e b.2 v3⟩
theorem VQ(b:B<=1048576)(hd:d.sizedT B N)(hb:0<=n/\n<=1000)(G:Cy N d)(k:LS N d.W)(ht:MM N d.W<=150):∃z,fU B N n d z:=by
 obtain⟨C,⟨m3,F⟩,hr⟩:=XF hd.W hd.T0 hd.S.1 G k ht;obtain⟨p1,m4,m⟩:=L8 C F hr;have a:=JO G.ok;have e:∀y∈(Kd d).m2,1<=y/\y<=1073741824:=λy l=>by
  obtain⟨r,hr,rfl⟩:=(Xg rfl).1 l;exact Lm (a.2.1 r hr)
 obtain⟨f,o⟩:=Nt e b n (PO n) (λi=>i+n) hd.W G.W λi hi=>⟨(G.ids.1 i hi).1,(G.ids.1 i hi).2.1⟩
 obtain⟨T,hw⟩:=C.wf;refine⟨Jh N d,⟨f,JI hd.T0 e G.endH,λr hr=>?_,λc j=>?_,⟨_,_,hw⟩,TL b (LZ (λx h=>JW h) hd.W) f,?_,PE hd,p1,Se m,λg=>XS hb.1 hd C F hr G g⟩⟩;have:=Lm (a.2.1 r hr);omega;have:=Qw (KX G.S) c j;omega;show AB.gmL _ _ _ (AB.gmL _ _ _ d.W)=AB.gmL (PO n) (SR n) (λi=>i+n) d.W;rw[Po];exact o
theorem g10(fE:GC 11 [] (.bool true))(a:B<=1048576)(hd:d.sizedT B N)(y:Int)(c:0<=y/\y<65536):GC 10 [d.h,.int .u16 y] (.bool true):=
 cq fE d a hd y c λ_ hb G b ht=>VQ a hd hb G b ht
end
end Go.Proofs.YthinbkgpjmjfeaaGreatDoor.Sh
namespace Go.Proofs.YthinbkgpjmjfeaaGreatDoor.redactIds
open Go.Proofs.Tryz
open Go.ChangeShapes Go.WideShapes Go.ChangeAt Go.RowKit
open Go.Proofs.YthinbkgpjmjfeaaGreatDoor.Sh
set_option maxRecDepth 10000
set_option maxHeartbeats 4000000
theorem own:ownKnob prog.godebug=none:=by kernel_rfl
theorem contract(H:Type)(enc:TypeId×Value->H)(W:World)(base:Nat)(args:Array Value)(y z:List (DataW H))(before:List MemPlace)
 (a:∀(j:Nat) t v,Tryz.f10.params[j]? = some t->args[j]? = some v->Value.okWide prog W .any base t v)
 (A:DataW.Whole enc prog Tryz.f10.params.toList Rows.redactIdsSpec.vars false W args.toList y z before) (hk:Rows.uptoSmall H (y++z)=true) (s:W.ShapedOpen prog):
 Calls prog 10 args W λe w=>∃v,e=.returned v/\Rows.redactIdsSpec.post enc prog Tryz.f10 false true false false W args v w:=by
 have r:=A;obtain⟨p,q,l,m,rfl,hfz,hnd⟩:=A;rw[Tryz.params10]at l a;obtain⟨v0,vs0,C,ds0,p0,q0,hargs,rfl,rfl,⟨n0,h0⟩,r0⟩:=trodAll_cons l;obtain⟨B,vs1,D,ds1,p1,q1,rfl,rfl,rfl,⟨n1,h1⟩,G⟩:=trodAll_cons r0;obtain⟨rfl,rfl,rfl⟩:=trodAll_nil G;obtain rfl:args = #[v0,B]:=by cases args;simp_all
 obtain⟨rfl,rfl⟩:=trodVars_none m;rw[qV]at hk;have hb:Rows.uptoBulkAll [C,D]<=1048576:=of_decide_eq_true hk;simp only[Rows.uptoBulkAll]at hb;obtain⟨d,a1,a2⟩:=(Va n0).arg Tryz.underlying38 (a 0 38 v0 rfl rfl) h0 (by unfold BB;dsimp only;omega);obtain⟨k,rfl,rfl,rfl,f⟩:=open_int Tryz.underlying65 (a 1 65 B rfl rfl) ⟨n1,h1⟩;have c:0<=k/\k<65536:=by
  simp only[Lit.wf,IntKind.min,IntKind.max,IntKind.signed,IntKind.bits,qg]at f;simp at f;omega
 have n:BB<=1048576:=by unfold BB;exact IO _
 have g:=Sh.g10 fE n a2 k c;have E:=(g EI (λ_ i=>i) (λ_=>none) 0).2 (az W) [v0,.int .u16 k] ⟨Tryz.sIdx.s1_3 W s,λh=>h⟩ (mU W) (λ_ _=>rfl) ⟨a1,by show V _ _ _;rw[V],trivial⟩;refine Calls.mono E ?_;rintro e w ⟨u,v',h',n',c',rfl,⟨rfl,_⟩,rfl,m,_,_,l⟩;have o:=l.ext;have F:u=.bool true:=by rw[V]at m;exact m
 subst F;refine⟨_,rfl,TO (x:=.lit (.bool true)) r rfl (by rw[Tryz.params10];exact of_decide_eq_true (by kernel_rfl)) o.os o.out (λb hb=>VI o hb) rfl (λ_ _ _=>trodAll_cons_mk (shut_bool Tryz.underlying4 _) trodAll_mk0) (ok_one (by kernel_rfl) rfl (okWide_bool_mk Tryz.underlying4 _))⟩
def zi:Value:=.int .i64 0
def zl:Value:=.slice none 0 0
def witD:Value:=.agg #[zl,zl,zi,zi,zl,zl,zl,zl,zl,zl,zl]
def wit:Array Value:=#[witD,.int .u16 0]
def li{H:Type}:DataW H:=.lit (.int .i64 0)
def litV:DataW Unit->Value
 | .lit (.int k n)=>.int k n
 | _=>.bool false
def aggV:DataW Unit->Array Value
 | .agg l=>(l.map litV).toArray
 | _=>#[]
noncomputable def laidWorld(os:Os):World:=
 let w0:=World.holding prog os ⟨#[],#[],[]⟩
 let put (h:Array Obj) (g:Nat) (cs:Array Value):Array Obj:=h.modify g fun
  | .cells _ t frozen=>.cells cs t frozen
  | o=>o
 { w0 with heap:=put (put (put w0.heap 1 (aggV Rows.laid_internal_strconv_uint64pow10)) 2 (aggV Rows.laid_math_bits_deBruijn32tab)) 3 (aggV Rows.laid_math_bits_deBruijn64tab) }
theorem laid_met(os:Os):laidMet prog Rows.redactIdsUptoRow.laid ((laidWorld os).forCall (λ_ _=>0) ⟨#[],wit,[]⟩).memory:=
 (LaidIn.of_run (l:=[("math/bits.deBruijn32tab",Rows.laid_math_bits_deBruijn32tab),("math/bits.deBruijn64tab",Rows.laid_math_bits_deBruijn64tab),("internal/strconv.uint64pow10",Rows.laid_internal_strconv_uint64pow10)]) [1,2,3] 8 (by kernel_rfl) (by kernel_rfl) (by kernel_rfl) (by kernel_rfl)).met
theorem witness_row(os:Os){H:Type}(enc:TypeId×Value->H):
 (Rows.OpenSpec.upto Rows.redactIdsSpec).preRow enc prog Tryz.f10 Rows.redactIdsUptoRow.domain false Rows.redactIdsUptoRow.laid ((laidWorld os).forCall (λ_ _=>0) ⟨#[],wit,[]⟩).memory wit:=by
 have hw:(DataW.whole enc prog ((laidWorld os).forCall (λ_ _=>0) ⟨#[],wit,[]⟩).memory Tryz.f10.params.toList (Rows.OpenSpec.upto Rows.redactIdsSpec).vars false wit.toList 12).map (λx=>(x.1,x.2.1)) =
  some ([.agg [.nil,.agg [.nil,.agg [li,li,.nil,.nil]],.nil,.agg [.nil,.nil,.nil,.nil]],.lit (.int .u16 0)],[]):=by kernel_rfl
 obtain⟨⟨x1,x2,x3⟩,b,a⟩:=qT.1 hw;simp only[Prod.mk.injEq]at a;obtain⟨rfl,rfl⟩:=a;exact OpenSpec.preRow_of_cond 12 b (by kernel_rfl) (λk hk=>by cases hk;kernel_rfl) (by kernel_rfl) (laid_met os)
set_option maxRecDepth 100000 in
theorem lifted(os:Os)(a:os.Started)(H:Type)(enc:TypeId×Value->H)(F:Stop.Interp):
 ReturnsInHanded {} Tryz.checked os 10 .any ((Rows.OpenSpec.upto Rows.redactIdsSpec).preRow enc prog Tryz.f10 Rows.redactIdsUptoRow.domain false Rows.redactIdsUptoRow.laid) (((Rows.OpenSpec.upto Rows.redactIdsSpec).at F).post enc prog Tryz.f10 false true false false):=by
 refine returnsInHanded_of_row (C:=Tryz.checked) (s:=Rows.OpenSpec.upto Rows.redactIdsSpec) own a (by kernel_rfl) func10
  (witness_row_atRef (enc:=enc) (C:=Tryz.checked) false (laidWorld os) wit rfl (by kernel_rfl) (by kernel_rfl) (by kernel_rfl) (witness_row os enc)) ?_
 intro W base args d e before b f _ hk _ _ c _;exact contract H enc W base args d e before b f (hk _ rfl) c
theorem named:Tryz.checked.prog.funcNamed Rows.redactIdsUptoRow.func=some 10:=by kernel_rfl
theorem inst:Tryz.f10.isInstance Tryz.checked.prog Rows.redactIdsUptoRow.origin Rows.redactIdsUptoRow.targs:=of_decide_eq_true (by kernel_rfl)
theorem wrap:Tryz.f10.isWrapper Tryz.checked.prog Rows.redactIdsUptoRow.wrapper Rows.redactIdsUptoRow.mainSum:=by unfold Func.isWrapper;first|(rw[if_pos (by decide +kernel)];kernel_rfl)|(rw[if_neg (by decide +kernel)];exact⟨rfl,rfl⟩)
theorem holds:Rows.RedactIdsUptoSaid:=
 OpenClaim.holds_of_cond 10 Tryz.f10 rfl rfl rfl rfl rfl rfl rfl ⟨rfl,rfl,rfl,rfl,rfl⟩ rfl rfl rfl rfl rfl named func10 facts inst wrap
  (λos a H enc _ F=>by rw[OpenClaim.pre_eq_preRow];exact lifted os a H enc F)
theorem looks:false=prog.looks []:=by kernel_rfl
theorem proved:Rows.RedactIdsUptoCardSaid:=
 Claim7.holds_tied_plain_at .later [] [.data,.data,.data] true (true,"ef56d7b56468dc3211ac09fe492ba78587841a53dc1d8aea719d901f9a3fe7d6") false
  holds (λ_ h=>by cases h) (by kernel_rfl) (λ_ h=>by cases h) redactIdsUpto_row_tie rfl ⟨rfl,rfl⟩ (by kernel_rfl) rfl
  (λf fn c a=>by
    obtain rfl:f=10:=Option.some.inj (named.symm.trans c) |>.symm;obtain rfl:fn=Tryz.f10:=(Option.some.inj (func10.symm.trans a)).symm;exact⟨looks,λj t ht=>by
     rw[Tryz.params10]at ht;have b:t=38\/t=65:=by
      rcases j with _|_|j;exact .inl (by simpa using ht.symm);exact .inr (by simpa using ht.symm);simp at ht
     rcases b with rfl|rfl;exact(show prog.wantsStandIn 38=false by kernel_rfl);exact(show prog.wantsStandIn 65=false by kernel_rfl)⟩)
  (by kernel_rfl)
#print axioms proved
end Go.Proofs.YthinbkgpjmjfeaaGreatDoor.redactIds
