/- A part of the proof (part 6 of 17). -/
import Derived.Test.YthinbkgpjmjfeaaGreatDoorN5
namespace Go.Proofs.YthinbkgpjmjfeaaGreatDoor.Sh
open Go.Proofs.Tryz
abbrev qM:=@SC.use
abbrev ul:=@AF.zj
abbrev wH:=@AB.zj
open Proofs
set_option maxRecDepth 10000
set_option maxHeartbeats 4000000
mutual
def AB.us:AB->List Int
 | .mk k _ _ _ h f r=>h.all++(if k=6 then AB.U f else if k=7 then AL.U r else[])
def AB.U:List AB->List Int
 | []=>[]
 | x::l=>x.us++AB.U l
def AL.us:AL->List Int
 | .mk h c=>h.all++AF.U c
def AL.U:List AL->List Int
 | []=>[]
 | x::l=>x.us++AL.U l
def AF.us:AF->List Int
 | .mk _ h f=>h.all++AB.U f
def AF.U:List AF->List Int
 | []=>[]
 | x::l=>x.us++AF.U l
end
theorem AB.zg:∀a b:List AB,AB.U (a++b)=AB.U a++AB.U b
 | [],b=>by simp[AB.U]
 | x::a,b=>by rw[qB,AB.U,AB.zg a b,AB.U,qr]
theorem AL.zg:∀a b:List AL,AL.U (a++b)=AL.U a++AL.U b
 | [],b=>by simp[AL.U]
 | x::a,b=>by rw[qB,AL.U,AL.zg a b,AL.U,qr]
theorem AF.zg:∀a b:List AF,AF.U (a++b)=AF.U a++AF.U b
 | [],b=>by simp[AF.U]
 | x::a,b=>by rw[qB,AF.U,AF.zg a b,AF.U,qr]
theorem aQ{H h':Hp}{n n' s:Nat}{y:A9}(c:Hw H n)(a:s<n)(b:BH n y=true)(hh:∀j z,h_ H s (some y) j=some z->h' j=some z):
 Ce n h' n' (.tup []) (λv h2 d=>v=.tup []/\h2=h_ H s (some y)/\d=n):=by
 refine .inr ⟨0,.tup [],_,Or,by simp[C_,c_],λo x e=>⟨hh o x e,?_⟩,rfl,rfl,rfl⟩;simp only[h_]at e;split at e;subst_vars;cases e;exact⟨a,b⟩;exact c o x e
theorem ID(n:Nat)(out:List Int):BH n (.map (FX out))=true:=by simp[BH,FX,C_]
theorem ky:∀(N:Nat)(l:List AB),SizeOf.sizeOf l<N->l.length<=1048576->AB.G l->∀(out:List Int)(H:Hp)(n p s:Nat),H p=some (.cells [.map s])->H s=some (.map (FX out))->
 BP prog 166 [AH l,.fn (.func 165) [] [.ptr p 0]] H n (λv h' n'=>v=.tup []/\h'=h_ H s (some (.map (FX (BG out (AB.U l)))))/\n'=n):=by
 intro N
 induction N with
 | zero=>intro l h;omega
 | succ N ih=>
 intro l hN hl hs out H n p s hp A;refine gq func166 rfl λo=>?_;have hpn:=(o p _ hp).1;have X:=(o s _ A).1;have f:p≠s:=by rintro rfl;rw[hp]at A;cases A
 simp[go_sem];refine BC 1 (α:=Nat) (λi=>[(1,.fn (.func 165) [] [.ptr p 0]),(10,AH l),(11,AA l.length),(12,AA i)]) (λi=>h_ H s (some (.map (FX (BG out (AB.U (l.take i)))))))
  (λi m=>i<=l.length/\n<=m) (λi=>l.length-i) 0 ?_ ?_ ?_ ?_
 exact⟨qj _,IO n⟩;simp[look];intro j y;simp only[h_,vk,AB.U,BG,List.foldl_nil];grind;rintro i m ⟨hi,g⟩;have d:p≠m:=by omega
 have a:s≠m:=by omega
 by_cases u:i<l.length;have w1:=wS i mq;obtain⟨x,Z⟩:∃x,l[i]=x:=⟨_,rfl⟩
 have C:x∈l:=by rw[<-Z];exact qn u
 have b:=wO hs x C;have hxp:=EQ b;have Y:AB.U (l.take (i+1))=AB.U (l.take i)++x.us:=by
  rw[qb u,Z,AB.zg];simp[AB.U]
 have L:BG out (AB.U (l.take (i+1)))=BG (BG out (AB.U (l.take i))) x.us:=by rw[Y,CP]
 generalize BG out (AB.U (l.take i))=o2 at L ⊢;simp[go_sem,u,Z,qy,AE];refine qM (by simpa[AG.h,AG.j]using Zl x.H hxp.1 o2 (p:=p) (s:=s) (by simp[h_,d,f,hp]) (by simp[h_,a])) ?_;rintro v h' n' ⟨rfl,rfl,rfl⟩;have k:x.us=x.H.all++(if x.x=6 then AB.U x.W else if x.x=7 then AL.U x.R else[]):=by cases x;rfl
 by_cases k6:x.x=6;have K:x.W.length<=1048576/\AB.G x.W:=by cases x;rw[AB.l]at b;exact⟨b.2.2.1,b.2.2.2.2.1⟩
 simp[go_sem,AE,AD,a.symm,k6];refine qM (ih x.W (by have:=VK C;omega) K.1 K.2 (BG o2 x.H.all) _ _ p s (by simp[h_,d,f,hp]) (by simp[h_])) ?_;rintro v h' n' ⟨rfl,rfl,rfl⟩;simp[go_sem,w1,-Int.natCast_add];refine⟨i+1,by omega,⟨by omega,by omega⟩,Or,?_⟩;rw[L,k,my k6,CP];intro j y;have:=o j y;simp only[h_];grind;by_cases k7:x.x=7;have hxr:x.R.length<=1048576/\AL.G x.R:=by cases x;rw[AB.l]at b;exact⟨b.2.2.2.1,b.2.2.2.2.2⟩
 rw[mw k6,my k7]at k;simp[go_sem,AE,AD,a.symm,k7];generalize M:BG o2 x.H.all=o3;refine BC 1 (α:=Nat) (λq=>[(1,.fn (.func 165) [] [.ptr p 0]),(10,AH l),(11,AA l.length),(12,AA i),(31,Au x.R),(32,AA x.R.length),(33,AA q)]) (λq=>h_ H s (some (.map (FX (BG o3 (AL.U (x.R.take q)))))))
  (λq m=>q<=x.R.length/\n<=m) (λq=>x.R.length-q) 0 ?_ ?_ ?_ ?_
 exact⟨qj _,by omega⟩;simp[look];intro j y;have:=o j y;simp only[h_,vk,AL.U,BG,List.foldl_nil];grind;clear d a g m;rintro q m ⟨hq,g⟩;have d:p≠m:=by omega
 have a:s≠m:=by omega
 by_cases z:q<x.R.length;have w2:=wS q mq;obtain⟨r,hr⟩:∃r,x.R[q]=r:=⟨_,rfl⟩
 have I:r∈x.R:=by rw[<-hr];exact qn z
 have J:=AL.zo hxr.2 r I;have T:AL.U (x.R.take (q+1))=AL.U (x.R.take q)++r.us:=by
  rw[qb z,hr,AL.zg];simp[AL.U]
 have hB:BG o3 (AL.U (x.R.take (q+1)))=BG (BG o3 (AL.U (x.R.take q))) r.us:=by rw[T,CP]
 have V:r.us=r.H.all++AF.U r.cells:=by cases r;rfl
 have F:r.H.l/\r.cells.length<=1048576/\AF.G r.cells:=by cases r;rw[AL.l]at J;exact J
 generalize BG o3 (AL.U (x.R.take q))=o4 at hB ⊢;simp[go_sem,z,hr,qR,AE];refine qM (by simpa[AG.h,AG.j]using Zl r.H F.1 o4 (p:=p) (s:=s) (by simp[h_,d,f,hp]) (by simp[h_,a])) ?_;rintro v h' n' ⟨rfl,rfl,rfl⟩;simp[go_sem,AE,AD,a.symm];generalize O:BG o4 r.H.all=o5;refine BC 1 (α:=Nat) (λw=>[(1,.fn (.func 165) [] [.ptr p 0]),(10,AH l),(11,AA l.length),(12,AA i),(31,Au x.R),(32,AA x.R.length),(33,AA q),(42,BS r.cells),(43,AA r.cells.length),(44,AA w)]) (λw=>h_ H s (some (.map (FX (BG o5 (AF.U (r.cells.take w)))))))
  (λw m=>w<=r.cells.length/\n<=m) (λw=>r.cells.length-w) 0 ?_ ?_ ?_ ?_
 exact⟨qj _,by omega⟩;simp[look];intro j y;have:=o j y;simp only[h_,vk,AF.U,BG,List.foldl_nil];grind;clear d a g m;rintro w m ⟨hw,g⟩;have d:p≠m:=by omega
 have a:s≠m:=by omega
 by_cases B:w<r.cells.length;have w3:=wS w mq;obtain⟨c,P⟩:∃c,r.cells[w]=c:=⟨_,rfl⟩
 have D:c∈r.cells:=by rw[<-P];exact qn B
 have E:=AF.zo F.2.2 c D;have Q:AF.U (r.cells.take (w+1))=AF.U (r.cells.take w)++c.us:=by
  rw[qb B,P,AF.zg];simp[AF.U]
 have hC:BG o5 (AF.U (r.cells.take (w+1)))=BG (BG o5 (AF.U (r.cells.take w))) c.us:=by rw[Q,CP]
 have S:c.us=c.H.all++AB.U c.W:=by cases c;rfl
 have t:c.H.l/\c.W.length<=1048576/\AB.G c.W:=by cases c;rw[AF.l]at E;exact E
 generalize BG o5 (AF.U (r.cells.take w))=o6 at hC ⊢;simp[go_sem,B,P,vD,AE];refine qM (by simpa[AG.h,AG.j]using Zl c.H t.1 o6 (p:=p) (s:=s) (by simp[h_,d,f,hp]) (by simp[h_,a])) ?_;rintro v h' n' ⟨rfl,rfl,rfl⟩;simp[go_sem,AE,AD,a.symm];refine qM (ih c.W (by have:=VC C I D;omega) t.2.1 t.2.2 (BG o6 c.H.all) _ _ p s (by simp[h_,d,f,hp]) (by simp[h_])) ?_;rintro v h' n' ⟨rfl,rfl,rfl⟩;simp[go_sem,w3,-Int.natCast_add];refine⟨w+1,by omega,⟨by omega,by omega⟩,Or,?_⟩;rw[hC,S,CP];intro j y;have:=o j y;simp only[h_];grind;have:w=r.cells.length:=by omega
 subst this;rw[qp];simp[go_sem,w2,-Int.natCast_add];refine⟨q+1,by omega,⟨by omega,by omega⟩,Or,?_⟩;rw[hB,V,CP,O];exact AC;have:q=x.R.length:=by omega
 subst this;rw[qp];simp[go_sem,w1,-Int.natCast_add];refine⟨i+1,by omega,⟨by omega,by omega⟩,Or,?_⟩;rw[L,k,CP,M];exact AC;simp[go_sem,AE,AD,a.symm,k6,k7,w1,-Int.natCast_add];refine⟨i+1,by omega,⟨by omega,by omega⟩,Or,?_⟩;rw[L,k,mw k6,mw k7,qV];intro j y;have:=o j y;simp only[h_];grind;have:i=l.length:=by omega
 subst this;rw[qp];simp[go_sem];exact aQ o X (ID _ _) λ_ _ e=>e
section
variable{P:Program}{E:BZ}{evs:Operand->SV}{o:Oper}{h:Hp}{n:Nat}{K:SV->Hp->Nat->Prop}
theorem Kk{α:Type}(f:α->Nat):∀(L:List α),(L.map f).Nodup->∀(i:Nat)(hi:i<L.length),L.filter (λx=>f x !=f L[i])=L.eraseIdx i
 | a :: L, hn, 0, hi => by
  rw[qi,qU]at hn;rw[List.filter_cons];simp only[List.getElem_cons_zero,bne_self_eq_false,qt,if_false,List.eraseIdx_cons_zero];exact vP.2 λx c=>by
   simp only[bne_iff_ne,ne_eq];intro e;exact hn.1 (e▸qa.2 ⟨x,c,rfl⟩)
 | a :: L, hn, i + 1, hi => by
  rw[qi,qU]at hn;rw[List.filter_cons];simp only[List.getElem_cons_succ,List.eraseIdx_cons_succ];have b:(f a !=f (L[i]'(by simpa using hi)))=true:=by
   simp only[bne_iff_ne,ne_eq];intro e;exact hn.1 (e▸qa.2 ⟨_,qn _,rfl⟩)
  rw[my b,Kk f L hn.2 i (by simpa using hi)]
theorem Ls{t:TypeId}{x:Operand}{m:Nat}{es:List (SV×SV)}(v:o.op=.range t x)(ht:(I6 P t).isSome=true)(D:evs x=.map m)(hm:h m=some (.map es))
 (hk:K (.ptr n 0) (h_ (h_ h m none) n (some (.iter es none))) (n+1)):FV E P evs o h n K:=by
 refine⟨by rw[v];simp,λc ev _ _ R F hv=>?_⟩;have k:=hv x;rw[D,V]at k;obtain⟨bm,hρ,r⟩:=k;obtain⟨b',d,a,g1,q,g3,A⟩:=R.obj _ _ hm;rw[hρ]at g1;cases g1;obtain⟨⟨kt,e⟩,ht⟩:=vW.1 ht;have C:=Ea ht;have s:(getObj bm).run P c.w=.ok (.map d a) c.w:=by simp[getObj,Sem.run,q]
 have i:(execOp ev o).run P c.w=.ok (.value (.pointer (some ⟨c.w.heap.size,0,none⟩))) (c.w.alloc (.mapIter (some bm) a #[] a)):=by
  simp[execOp,v,Instr.range,AM C,r,s]
 have y:=R.kill m hm;have f:(c.kill m).ρ n=none:=F n (IO _);have l:=c.kill_ext m;have u:bm<c.w.heap.size:=(qh.1 q).1;have p:=(c.kill m).zf n (.mapIter (some bm) a #[] a) f;have z:=y.alloc f (x:=.iter es none) (b:=.mapIter (some bm) a #[] a) ⟨c.w.heap.size,bm,d,a,#[],by simp[Cx.alloc,Cx.kill],by simp[Cx.alloc,Cx.kill,Bu],
  by simp[Cx.alloc,Cx.kill,Bu,vQ,wF u,q],by
   simp only[Cx.alloc,Cx.kill];rintro(h1|h1);exact h1.2 0 hρ;omega,A,by
   have:(d.toList.filter λe=>!(#[]:Array Nat).contains e.born)=d.toList:=vP.2 λ_ _=>by simp
   rw[this];exact uk (λ_ _ g=>⟨wK (l.trans p) g.1,wK (l.trans p) g.2⟩) g3,by simp⟩
 refine⟨_,.ptr n 0,_,n+1,(c.kill m).alloc n (.mapIter (some bm) a #[] a),by rw[i];rfl,?_,z,λj B=>?_,⟨l.trans p,vZ n,λj B=>?_⟩,hk⟩;rw[V];exact⟨c.w.heap.size,0,by simp[Cx.alloc,Cx.kill],rfl⟩;simp only[Cx.alloc,Cx.kill];rw[mw mq];exact F j mq;simp only[Cx.alloc,Cx.kill];rw[mw mq]
theorem Lq{x:Operand}{q:Nat}{left:List (SV×SV)}{p:SV×SV}(u:o.op=.entry x)(B:evs x=.ptr q 0)(A:h q=some (.iter left (some p)))
 (hk:K (.tup [p.1,p.2]) h n):FV E P evs o h n K:=by
 refine⟨by rw[u];simp,λc ev _ _ R F hv=>?_⟩;have i:=hv x;rw[B,V]at i;obtain⟨b,st,hρ,m⟩:=i;obtain⟨b',bm,f,d,j,g1,v,g3,g4,z,g6,g7⟩:=R.obj _ _ A;rw[hρ]at g1;cases g1;obtain⟨e,C,D,G,H⟩:=g7 p rfl;have s:(getObj b).run P c.w=.ok (.mapIter (some bm) d j d) c.w:=by simp[getObj,Sem.run,v]
 have r:(getObj bm).run P c.w=.ok (.map f d) c.w:=by simp[getObj,Sem.run,g3]
 have g:f.find? (λy=>y.born==e.born)=some e:=by
  rw[<-Array.find?_toList];have:∀l:List MapEntry,(l.map (·.born)).Nodup->e∈l->l.find? (λy=>y.born==e.born)=some e:=by
   intro l
   induction l with
   | nil=>intro _ h;cases h
   | cons a l ih=>
    intro t k;rw[qi,qU]at t;rw[List.find?_cons];rcases qe.1 k with rfl|k;simp;have:(a.born==e.born)=false:=by
     simp only[beq_eq_false_iff_ne,ne_eq];intro h2;exact t.1 (h2▸qa.2 ⟨e,k,rfl⟩)
    rw[this];exact ih t.2 k
  exact this _ z.2 C
 refine⟨.tuple #[e.key,e.val],.tup [p.1,p.2],h,n,c,?_,by simp only[V,VL];exact⟨_,rfl,_,_,rfl,G,_,_,rfl,H,rfl⟩,R,F,wE n c,hk⟩;simp[execOp,u,Instr.entry,m,s,D,r,g]
theorem LB{x:Operand}{q:Nat}{left:List (SV×SV)}{last:Option (SV×SV)}(ho:o.op=.next x false)(hx:evs x=.ptr q 0)(hq:h q=some (.iter left last))
 (hk:∀(i:Nat)(hi:i<left.length),K (.tup [.bool true,left[i].1,left[i].2]) (h_ h q (some (.iter (left.eraseIdx i) (some left[i])))) n) (h0:left=[]->K (.tup [.bool false]) h n):FV E P evs o h n K:=by
 refine⟨by rw[ho];simp,λc ev _ _ R F hv=>?_⟩;have hvx:=hv x;rw[hx,V]at hvx;obtain⟨b,st,hρ,hev⟩:=hvx;obtain⟨b',bm,ents,clock,seen,g1,g2,g3,g4,g5,g6,g7⟩:=R.obj _ _ hq;rw[hρ]at g1;cases g1;have hgo:(getObj b).run P c.w=.ok (.mapIter (some bm) clock seen clock) c.w:=by simp[getObj,Sem.run,g2]
 have hgm:(getObj bm).run P c.w=.ok (.map ents clock) c.w:=by simp[getObj,Sem.run,g3]
 have hgone:(!seen.isEmpty && !ents.isEmpty&&ents.all λy=>decide (y.born ≥ clock))=false:=by
  cases he:ents.isEmpty with
  | true=>simp
  | false =>
   have hne:0<ents.size:=by rcases Nat.eq_zero_or_pos ents.size with h|h;simp[Array.isEmpty,h]at he;exact h
   have:(ents.all λy=>decide (y.born ≥ clock))=false:=by
    rw[Array.all_eq_false];refine⟨0,hne,?_⟩;have:=g5.1 ents[0] mr;simp;exact this
   simp[this]
 generalize hL:ents.filter (λy=>!seen.contains y.born)=L;have hLl:L.toList=ents.toList.filter λe=>!seen.contains e.born:=by rw[<-hL];simp
 have BA:L.filter (λy=>decide (y.born<clock))=L:=by
  apply wG;rw[Array.toList_filter];exact vP.2 λy hy=>by
   rw[hLl]at hy;simpa using g5.1 y (qW.1 hy).1
 have hnew:L.filter (λy=>decide (y.born ≥ clock)) = #[]:=by
  apply wG;rw[Array.toList_filter];exact List.filter_eq_nil_iff.2 λy hy=>by
   rw[hLl]at hy;simpa using g5.1 y (qW.1 hy).1
 rw[<-hLl]at g6;have hlen:left.length=L.size:=by have:=g6.length;simpa using this
 by_cases hz:L.size=0
 . have hl0:left=[]:=List.eq_nil_of_length_eq_zero mq;have hL0:L = #[]:=Array.eq_empty_of_size_eq_zero hz;refine⟨.tuple #[.bool false],.tup [.bool false],h,n,c,?_,by simp[V,VL],R,F,wE n c,h0 hl0⟩;subst hL0;simp only[execOp,ho,Instr.next,hev,wz,Sem.run_bind,Sem.run_pure,hgo,Result.andThen_ok,hgm,hgone,qt,if_false,hL,BA,hnew];simp[Question.forced]
 . have hch:∃i w1,(choose (.mapNext L.size)).run P c.w=.ok i w1/\i<L.size/\(w1=c.w\/w1=c.w.drew):=by
    rw[run_choose_drew];by_cases hf:(Question.mapNext L.size).forced=true;rw[my hf];exact⟨0,_,rfl,by omega,.inl rfl⟩;rw[mw hf];exact⟨_,_,rfl,Nat.mod_lt _ mq,.inr rfl⟩
   obtain⟨i,w1,hch,hi,hw1⟩:=hch;obtain⟨c1,hc1,X1,R1,F1,hρ1⟩:∃c1:Cx,c1.w=w1/\DV c c1/\CB h c1/\Fr n c1/\c1.ρ=c.ρ:=by
    rcases hw1 with rfl|rfl;exact⟨c,rfl,wT c,R,F,rfl⟩;exact⟨c.drew,rfl,c.zc,R.drew,λj hj=>F j hj,rfl⟩
   subst hc1;have hh1:c1.w.heap=c.w.heap:=by rcases hw1 with e|e<;>rw[e]<;>rfl
   have hil:i<left.length:=by omega
   obtain⟨e,he,hr1,hr2⟩:=g6.get (i:=i) (a:=left[i]) (by simp[hil]);have heL:L[i]? = some e:=by simpa using he
   have hemem:e∈ents.toList:=by
    have:=vJ he;rw[hLl]at this;exact(qW.1 this).1
   have hisE:L.isEmpty=false:=by cases hb:L.isEmpty with|false=>rfl|true=>(simp at hb;subst hb;simp at hz)
   have hblt:b<c.w.heap.size:=(qh.1 g2).1;have hset':∀ob:Obj,(setObj b ob).run P c1.w=.ok () { c1.w with heap:=c1.w.heap.setIfInBounds b ob }:=λob=>by simp[setObj,Sem.run,hh1,g2]
   have hrun:(execOp ev o).run P c.w=.ok (.value (.tuple #[.bool true,e.key,e.val])) { c1.w with heap:=c1.w.heap.setIfInBounds b (.mapIter (some bm) clock (seen.push e.born) clock) }:=by
    have hcand:((if L.isEmpty then #[none]else #[])++(L ++ #[]).map some:Array (Option MapEntry))=L.map some:=by simp[hisE]
    simp only[execOp,ho,Instr.next,hev,wz,Sem.run_bind,Sem.run_pure,hgo,Result.andThen_ok,hgm,hgone,qt,if_false,hL,BA,hnew,hcand,Array.size_map,hch];simp[heL,hset']
   have hbm:bm≠b:=by rintro rfl;rw[g2]at g3;cases g3
   obtain⟨R2,X2⟩:=R1.write (w':={ c1.w with heap:=c1.w.heap.setIfInBounds b (.mapIter (some bm) clock (seen.push e.born) clock) }) (y:=.iter (left.eraseIdx i) (some left[i])) hq (by rw[hρ1];exact hρ) mr
    (λb' hb'=>by simp[vM (Ne.symm hb')]) (by simp[rm,hh1,g2]) rfl rfl (λX=>by
      have XX:=X1.trans X;refine⟨b,bm,ents,clock,seen.push e.born,by show c1.ρ q=_;rw[hρ1];exact hρ,by simp[hh1,hblt],?_,?_,g5,?_,?_⟩;show(c1.w.heap.setIfInBounds b _)[bm]? = _;rw[vM hbm.symm,hh1];exact g3;exact λhb=>(XX.keep bm (qh.1 g3).1 g4).1 hb;have hnd:(L.toList.map (·.born)).Nodup:=by rw[hLl];exact g5.2.sublist (List.filter_sublist.map _)
      have hee:L.toList[i]'(by simpa using hi)=e:=by
       have:=(qv.1 he).2;exact this
      have h1:=Kk (λx:MapEntry=>x.born) L.toList hnd i (by simpa using hi);rw[hee]at h1;have h2:(ents.toList.filter λx=>!(seen.push e.born).contains x.born)=L.toList.filter λx=>x.born !=e.born:=by
       rw[hLl,List.filter_filter];congr 1;funext x;by_cases hx:x.born=e.born<;>simp[hx]
      rw[h2,h1];exact uk (λ_ _ g=>⟨wK XX g.1,wK XX g.2⟩) (AU.eraseIdx i g6);intro p hp;cases hp;exact⟨e,hemem,by simp,wK XX hr1,wK XX hr2⟩)
   exact⟨_,.tup [.bool true,left[i].1,left[i].2],_,n,_,hrun,by
    have XX:=X1.trans X2;simp only[V,VL];exact⟨_,rfl,_,_,rfl,rfl,_,_,rfl,wK XX hr1,_,_,rfl,wK XX hr2,rfl⟩,R2,λj hj=>F1 j hj,⟨X1.trans X2,IO _,λj _=>by show c1.ρ j=_;rw[hρ1]⟩,hk i hil⟩
end
structure YK(E:BZ)(l:Nat)(ks0:List Int)(J:List Int->(Nat->Prop)->Hp->Nat->Prop):Prop where
 step:∀ks x D h m,(∃rest,(ks++[x]++rest).Perm ks0)->J ks D h m->Fb E prog l [AA x] h m (Tt (J (ks++[x])) (λ_ _ _=>False) D h m)
 keep:∀ks D h m h' m',J ks D h m->m<=m'->(∀o,D o->h' o=h o)->J ks D h' m'
 lt:∀ks D h m,J ks D h m->∀o,D o->o<m
theorem FJ{α β:Type}(f:α->β):∀(l:List α)(i:Nat),(l.eraseIdx i).map f=(l.map f).eraseIdx i
 | [],_=>by simp
 | a::l,0=>by simp
 | a::l,i+1=>by simp[FJ f l i]
theorem Iw{α:Type}:∀(l:List α)(i:Nat)(hi:i<l.length),(l[i]::l.eraseIdx i).Perm l
 | a::l,0,_=>by simp
 | a::l,i+1,hi=>by
  have b:=Iw l i (by simpa using hi);simp only[List.getElem_cons_succ,List.eraseIdx_cons_succ];exact(List.Perm.swap _ _ _).trans (b.cons a)
theorem Nu{ks b a:List Int}(h:(ks++b).Perm a){i:Nat}(hi:i<b.length):(ks++[b[i]]++b.eraseIdx i).Perm a:=by
 refine List.Perm.trans ?_ h;rw[qr];refine List.Perm.append_left ks ?_;exact Iw b i hi
section
variable{E:BZ}{yl:Nat}{J:List Int->(Nat->Prop)->Hp->Nat->Prop}
theorem kG{d:List Int}(Y:YK E yl d J)(es:List (SV×SV))(hk:es.map (·.1)=d.map AA){H:Hp}{n q s:Nat}{D:Nat->Prop}(I:H q=some (.cells [.map s]))(K:H s=some (.map es))(y:¬D s)(F:J [] D H n):
 Ab E prog 216 [.fn (.yield yl) [] [],.ptr q 0] H n (λ_ h' m'=>∃ks D',ks.Perm d/\n<=m'/\(∀o,D' o->D o\/(n<=o/\o<m'))/\(∀o,¬D o->o<n->o≠s->h' o=H o)/\J ks D' h' m'):=by
 refine gq func216 rfl λG=>?_;have hqn:=(G q _ I).1;have hsn:=(G s _ K).1;have k:=Y.lt _ _ _ _ F;simp[go_sem,I];refine Ls (m:=s) (es:=es) rfl ms ms K ?_;simp[go_sem];refine BC 1 (α:=(List Int×List Int)×(List (SV×SV)×Option (SV×SV))×(Nat->Prop)×Hp) (λa=>[(0,.fn (.yield yl) [] []),(5,.ptr n 0)]) (λa=>a.2.2.2)
  (λa m=>n<m/\a.2.2.2 n=some (.iter a.2.1.1 a.2.1.2)/\a.2.1.1.map (·.1)=a.1.2.map AA/\(a.1.1++a.1.2).Perm d/\J a.1.1 a.2.2.1 a.2.2.2 m/\(∀o,a.2.2.1 o->D o\/(n<o/\o<m))/\(∀o,¬D o->o<n->o≠s->a.2.2.2 o=H o)) (λa=>a.1.2.length)
  (([],d),(es,none),D,h_ (h_ H s none) n (some (.iter es none))) ?_ ?_ AC ?_
 refine⟨vh n,AE _ _ _,hk,List.Perm.refl _,Y.keep _ _ _ _ _ _ F (vZ n) λo g=>?_,λo g=>.inl g,λo g1 C g3=>?_⟩;have:=k o g;show h_ (h_ H s none) n _ o=H o;rw[AD _ _ mq,AD _ _ (by rintro rfl;exact y g)];show h_ (h_ H s none) n _ o=H o;rw[AD _ _ mq,AD _ _ g3];simp[look];rintro⟨⟨ks,j⟩,⟨left,last⟩,w,h2⟩ m ⟨B,fF,f,b,h,c,BA⟩;dsimp only at fF f b h c BA ⊢;have u:¬w n:=λg=>by rcases c n g with g|g;have:=k n g;omega;omega
 have A:left.length=j.length:=by have:=congrArg List.length f;simpa using this
 simp[go_sem];refine LB (q:=n) (left:=left) (last:=last) rfl ms fF (λi hi=>?_) λh0=>?_;have e:i<j.length:=by omega
 have N:left[i].1=AA j[i]:=by
  have:=congrArg (λl=>l[i]?) f;simpa[hi,e]using this
 simp[go_sem];refine Lq (q:=n) (left:=left.eraseIdx i) (p:=left[i]) rfl ms (AE _ _ _) ?_;simp[go_sem,N];refine Fb.mono (Y.step ks j[i] w _ _ ⟨_,Nu b e⟩ (Y.keep _ _ _ _ _ _ h (IO m) λo g=>AD _ _ (by rintro rfl;exact u g))) ?_;rintro v M m3 ⟨hm3,L,x,r,⟨rfl,z⟩|⟨_,z⟩⟩;simp[go_sem];refine⟨ks++[j[i]],j.eraseIdx i,by rw[List.length_eraseIdx];simp[e];omega,left.eraseIdx i,some left[i],L,M,⟨by omega,?_,?_,?_,z,λo g=>?_,λo g1 C g3=>?_⟩,AC⟩;rw[r n u B];exact AE _ _ _;rw[FJ,FJ,f];exact Nu b e;rcases x o g with g|g;rcases c o g with g|g;exact .inl g;exact .inr mq;exact .inr mq;have:¬w o:=λg=>by rcases c o g with g|g;exact g1 g;omega
 rw[r o this mq,AD _ _ mq];exact BA o g1 C g3;exact z.elim;have t:j=[]:=List.eq_nil_of_length_eq_zero (by rw[<-A,h0];rfl);subst t;simp[go_sem];refine .inl ⟨ks,by simpa using b,by omega,w,λo g=>?_,BA,h⟩;rcases c o g with g|g;exact .inl g;exact .inr mq
end
theorem lC(es:List (SV×SV))(b:List Int)(hk:es.map (·.1)=b.map AA)(hlen:b.length<=1048576){H:Hp}{n q s:Nat}(w:H q=some (.cells [.map s]))(p:H s=some (.map es)):
 BP prog 256 [.y 0 [] true,.fn (.func 216) [] [.ptr q 0]] H n (λv h' n'=>∃ks:List Int,ks.Perm b/\M1 1 (ks.map AA) (h_ H s none) n v h' n'):=by
 refine goM func256 rfl mu mu ms λu B=>?_;have hqn:=(u q _ w).1;have hsn:=(u s _ p).1;have hqs:q≠s:=by rintro rfl;rw[w]at p;cases p
 simp[go_sem];refine HX rfl rfl rfl λE1 l R E=>?_;let J:List Int->(Nat->Prop)->Hp->Nat->Prop:=λks D hh m=>∃o:Option Nat,D=(λj=>j=n\/j=n+1\/o=some j)/\n+1<m/\hh n=some (.cells [AZ 1 o (ks.map AA)])/\hh (n+1)=some (.loop (R .ready none))/\CD (n+2) m 1 o (ks.map AA)/\∀j,o=some j->hh j=some (.cells (ks.map AA));have Y:YK E1 l b J:=by
  refine⟨?_,?_,?_⟩
  . rintro ks x D hh m ⟨rest,hp⟩ ⟨o,t,r,g1,a,g3,f⟩;have hkl:ks.length+1<=1048576:=by have:=hp.length_eq;simp at this;omega
    refine E _ _ _ _ a rfl (Lk ?_);have z:n≠m:=by omega
    have e2:n+1≠m:=by omega
    have A:n≠m+1:=by omega
    have i:∀j,o=some j->n+2<=j/\j<m:=λj e=>g3.lt j e;simp[go_sem,IW,AD,g1,a];rw[ZX (x:=x) g3 mq (by simp[h_]) (by
     intro j e;have:=i j e;have:=f j e;simp only[h_];grind)]
    have done:∀(d:Hp)(o2:Nat),o2=m+1->(∀j,¬(j=n\/j=n+1\/o=some j)->j<m->d j=hh j)->d n=some (.cells [.sl o2 0 1 (ks.length+1) false])->d o2=some (.cells (ks.map AA++[AA x]))->d (n+1)=some (.loop (R .busy none))->
     ∀sa,Li (n+1) R (Tt (J (ks++[x])) (λ_ _ _=>False) D hh m) .normal sa d (m+1+1):=by
     rintro d o2 rfl G I K L sa;subst t;refine⟨L,by omega,λj=>j=n\/j=n+1\/some (m+1)=some j,λj g=>?_,λj g1 a=>?_,.inl ⟨rfl,some (m+1),rfl,by omega,?_,AE _ _ _,?_,λj e=>?_⟩⟩;rcases g with g|g|g;exact .inl (.inl g);exact .inl (.inr (.inl g));cases g;exact .inr mq;rw[AD _ _ (λe=>g1 (.inr (.inl e)))];exact G j g1 a;rw[AD _ _ mq,I];simp[AZ];rw[qc];exact g3.push rfl rfl mq mq;cases e;rw[AD _ _ mq,K,qc];rfl
    cases o with
    | none=>
     simp[go_sem,AD,g1,z,A,AZ];refine done _ _ rfl (λj h1 h2=>?_) ?_ ?_ ?_ _;simp only[h_];grind;simp only[h_];grind;simp only[h_];grind;simp only[h_];grind
    | some j=>
     have hj:=i j rfl;have C:n≠j:=by omega
     simp[go_sem,AD,g1,z,C,A,AZ];refine done _ _ rfl (λj h1 h2=>?_) ?_ ?_ ?_ _;simp only[h_];grind;simp only[h_];grind;simp only[h_];grind;simp only[h_];grind
  rintro ks D hh m h' m' ⟨o,rfl,r,g1,a,g3,f⟩ hm k;exact⟨o,rfl,by omega,by rw[k _ (.inl rfl)];exact g1,by rw[k _ (.inr (.inl rfl))];exact a,g3.mono hm,λj e=>by rw[k _ (.inr (.inr e))];exact f j e⟩;rintro ks D hh m ⟨o,rfl,r,g1,a,g3,f⟩ j (rfl|rfl|e);omega;omega;exact(g3.lt j e).2
 refine ww (kG Y es hk (D:=λj=>j=n\/j=n+1) (s:=s) ?_ ?_ ?_ ?_) ?_;simp[h_];rw[mw mq,mw mq];exact w;simp[h_];rw[mw mq,mw mq];exact p;omega;exact⟨none,by simp,by omega,by simp[h_,AZ],by simp[h_],wQ _ _ _,by simp⟩;rintro _ h' m' ⟨ks,D',c,hm,k,BA,o,rfl,r,g1,a,g3,f⟩;refine⟨_,_,a,by simp,?_⟩;simp[go_sem,AD,g1];refine .inl ⟨ks,c,by omega,λj y e=>?_,?_⟩;have h:j≠s:=by rintro rfl;simp[h_]at e
 rw[AD _ _ h]at e;have:=(u j y e).1;rw[AD _ _ mq,BA j mq mq h,AD _ _ mq,AD _ _ mq,e];cases o with
 | none=>
  have F:=g3.none rfl;exact .inl ⟨F,0,true,rfl⟩
 | some j=>
  have:=g3.lt j rfl;exact .inr ⟨j,false,by omega,by omega,by simp[AZ],by rw[AD _ _ mq,Hh];exact f j rfl⟩
theorem k9(es:List (SV×SV))(a:List Int)(hk:es.map (·.1)=a.map AA)(b:a.length<=1048576){H:Hp}{n q s:Nat}(d:H q=some (.cells [.map s]))(e:H s=some (.map es)):
 BP prog 214 [.fn (.func 216) [] [.ptr q 0]] H n (λv h' n'=>∃ks:List Int,ks.Perm a/\M1 1 (ks.map AA) (h_ H s none) n v h' n'):=by
 refine gq func214 rfl λho=>?_;simp[go_sem];refine qM (lC es a hk b d e) ?_;rintro v h' n' ⟨ks,hp,c⟩;simp[go_sem];exact .inl ⟨ks,hp,c⟩
theorem N7{a b:List Int}(h:a.Perm b):E8 a=E8 b:=by
 have tr:∀x y z:Int,decide (x<=y)=true->decide (y<=z)=true->decide (x<=z)=true:=λx y z h1 h2=>by simp only[decide_eq_true_eq]at *;exact Int.le_trans h1 h2
 have to:∀x y:Int,(decide (x<=y)||decide (y<=x))=true:=λx y=>by simp only[vV,decide_eq_true_eq];exact Int.le_total x y
 refine List.Perm.eq_of_pairwise (le:=λx y=>decide (x<=y)=true) (λx y _ _ h1 h2=>?_) (wv tr to a) (wv tr to b) (((List.mergeSort_perm a _).trans h).trans (List.mergeSort_perm b _).symm);simp only[decide_eq_true_eq]at h1 h2;exact Int.le_antisymm h1 h2
theorem kz(es:List (SV×SV))(a:List Int)(hk:es.map (·.1)=a.map AA)(c:a.length<=1048576){H:Hp}{n q s:Nat}(m:H q=some (.cells [.map s]))(k:H s=some (.map es)):
 BP prog 167 [.fn (.func 216) [] [.ptr q 0]] H n (M1 1 ((E8 a).map AA) (h_ H s none) n):=by
 refine gq func167 rfl λi=>?_;simp[go_sem];refine qM (k9 es a hk c m k) ?_;rintro v h' n' ⟨ks,hp,b,BA,hv⟩;have hkl:=hp.length_eq;rcases hv with⟨h,l,full,rfl⟩|⟨o,full,h1,h2,rfl,g⟩
 simp[go_sem];refine(fm l full).use ?_;simp[go_sem];simp only[List.map_eq_nil_iff]at h;subst h;have:a=[]:=by simpa using hp.symm
 subst this;exact .inl ⟨b,BA,.inl ⟨by simp[E8],l,full,rfl⟩⟩;simp[go_sem];rw[Hh]at g;refine qM (lA ks mq g) ?_;rintro v h4 n4 ⟨rfl,rfl,rfl⟩;simp[go_sem];have hos:o≠s:=by have:=(i s _ k).1;omega
 refine .inl ⟨b,λj y e=>?_,.inr ⟨o,full,h1,h2,?_,?_⟩⟩;have d:j≠s:=by rintro rfl;simp[h_]at e
 have f:=e;rw[AD _ _ d]at f;have:=(i j y f).1;rw[AD _ _ mq];exact BA j y e;have:(E8 a).length=ks.length:=by rw[<-N7 hp];exact wm _
 simp[this];rw[AE,N7 hp,Hh]
theorem gD{H:Hp}{n s:Nat}:BP prog 168 [.map s] H n (λv h' n'=>v=.fn (.func 216) [] [.ptr n 0]/\h'=h_ H n (some (.cells [.map s]))/\n'=n+1):=by
 refine gq func168 rfl λho=>?_;simp[go_sem];exact .inl ⟨rfl,rfl,rfl⟩
def Et(d:AI):List Int:=E8 ((BG [] (AB.U d.W++d.T0.all)).filter λx=>decide (x≠0))
theorem XW:∀{l:List Int} (x:Int),l.Nodup->∀(_i j:Nat),l[j]? = some x->(FX l).eraseIdx j=FX (l.filter λy=>decide (y≠x))
 | [],x,_,i,j,h=>by simp at h
 | a :: l, x, hn, i, 0, h => by
  rw[qU]at hn;simp only[we,qm]at h;subst h;have:(a::l).filter (λy=>decide (y≠a))=l:=by
   rw[List.filter_cons];simp only[ne_eq,not_true,decide_false,qt,if_false];exact vP.2 λy e=>by simp only[decide_eq_true_eq];rintro rfl;exact hn.1 e
  rw[this];simp[FX]
 | a::l,x,hn,i,j+1,h=>by
  rw[qU]at hn;have c:l[j]? = some x:=by simpa using h
  have b:a≠x:=by rintro rfl;exact hn.1 (vJ c)
  have d:=XW x hn.2 i j c;rw[List.filter_cons];simp only[ne_eq,b,not_false_eq_true,decide_true,if_true];simp only[FX,qi,List.eraseIdx_cons_succ]at d ⊢;rw[d]
theorem XY{l:List Int}{x:Int}(h:x∉l):(l.filter λy=>decide (y≠x))=l:=vP.2 λy a=>by simp only[decide_eq_true_eq];rintro rfl;exact h a
theorem c74(d:AI)(t:d.W.length<=1048576)(u:AB.G d.W)(q:d.T0.l)(w:(BG [] (AB.U d.W++d.T0.all)).length<=1048576):PC 103 [d.h] (.y 1 ((Et d).map AA) false):=by
 intro h n;refine gq func103 rfl λg=>?_;have e1:n+1+1≠n:=by omega
 have e2:n+1≠n:=by omega
 have e3:n+1+1≠n+1:=by omega
 simp[go_sem,AI.h,AG.j,AQ.j,AE,AD,qq];refine qM (ky (SizeOf.sizeOf d.W+1) d.W (vh _) t u [] _ _ (n+2) (n+1) (by simp[h_]) (by simp[h_,FX])) ?_;rintro v h' n' ⟨rfl,rfl,rfl⟩;simp[go_sem,AE,AD];refine qM (by simpa[AG.h,AG.j]using Zl d.T0 q (BG [] (AB.U d.W)) (p:=n+2) (s:=n+1) (by simp[h_]) (by simp[h_])) ?_;rintro v h' n' ⟨rfl,rfl,rfl⟩;rw[<-CP];have c:=Jy (AB.U d.W++d.T0.all) [] List.nodup_nil;have i:Et d=E8 ((BG [] (AB.U d.W++d.T0.all)).filter λx=>decide (x≠0)):=rfl;generalize BG [] (AB.U d.W++d.T0.all)=out at c w i ⊢;have fin:∀(b:Hp),b (n+2)=some (.cells [.map (n+1)])->b (n+1)=some (.map (FX (out.filter λx=>decide (x≠0))))->(∀j,j<n->b j=h j)->(∀K:SV->Hp->Nat->Prop,(∀v h' n',Ce n h' n' v (Is (.y 1 ((Et d).map AA) false) h n)->K v h' n')->
  Ab (BZ.plain.call false 0) prog 167 [.fn (.func 216) [] [.ptr (n+3) 0]] (h_ b (n+3) (some (.cells [.map (n+1)]))) (n+4) K):=λb a1 a2 a3 K m=>by
  have f:(out.filter λx=>decide (x≠0)).length<=1048576:=by have:=vC (λx=>decide (x≠0)) out;omega
  refine qM (kz (FX (out.filter λx=>decide (x≠0))) (out.filter λx=>decide (x≠0)) (by simp[FX]) f (s:=n+1) (by simp[h_]) (by rw[AD _ _ (show n+1≠n+3 by omega)];exact a2)) ?_;rintro v h' n' ⟨hle,BA,hv⟩;rw[<-i]at hv;have hh:∀j y,h j=some y->h' j=some y:=λj y e=>by
   have:=(g j y e).1;refine BA j y ?_;rw[AD _ _ mq,AD _ _ mq,a3 j this,e]
  refine m _ _ _ ?_;rcases hv with⟨h1,z',full,rfl⟩|⟨o,full,h1,h2,rfl,k⟩
  rw[h1];exact P8 g hh mr rfl;exact dZ c9 (full:=full) g hh (show n<=o by omega) mr k
 by_cases hm:(0:Int)∈out;obtain⟨j,h1,h2⟩:=D4 0 hm;rw[qZ]at h1;have a:=XW 0 c 0 j h2;simp[go_sem,AE,AD,h1,BQ];refine qM gD ?_;rintro v h' n' ⟨rfl,rfl,rfl⟩;simp[go_sem];refine fin _ ?_ ?_ ?_ _ ?_;simp[h_];rw[<-a];simp[h_];intro j r;simp only[h_];grind;intro v h' n' hr;simp[go_sem];exact hr;have h1:=Ek 0 hm;have a:=XY hm;simp[go_sem,AE,AD,h1,BQ];refine qM gD ?_;rintro v h' n' ⟨rfl,rfl,rfl⟩;simp[go_sem];refine fin _ ?_ ?_ ?_ _ ?_;simp[h_];rw[a];simp[h_];intro j r;simp only[h_];grind;intro v h' n' hr;simp[go_sem];exact hr
def Id(z:Nat)(es:List SV)(v:SV)(o:Option Nat)(n m:Nat):Prop:=
 (o=none/\es=[]/\∃z' f,v=.y z' [] f)\/∃j f,o=some j/\n<=j/\j<m/\v=.sl j 0 z es.length f
def Ev(es:List SV)(o:Option Nat)(h:Hp):Hp:=match o with|none=>h|some j=>h_ h j (some (.cells (es.flatMap SV.cells)))
theorem Id.st{z:Nat}{es:List SV}{v:SV}{o:Option Nat}{n m:Nat}(H:Id z es v o n m):v.B=true/\v.cells=[v]:=by
 rcases H with⟨_,_,z',f,rfl⟩|⟨j,f,_,_,_,rfl⟩<;>exact⟨rfl,rfl⟩
theorem M1.own{z:Nat}{es:List SV}{h h':Hp}{n n':Nat}{v:SV}(H:M1 z es h n v h' n'):∃o,Id z es v o n n'/\(∀j y,h j=some y->h' j=some y)/\∀j,o=some j->h' j=some (.cells (es.flatMap SV.cells)):=by
 obtain⟨h1,h2,⟨rfl,d,f,rfl⟩|⟨o,f,a,b,rfl,c⟩⟩:=H;exact⟨none,.inl ⟨rfl,rfl,d,f,rfl⟩,h2,by simp⟩;exact⟨some o,.inr ⟨o,f,rfl,a,b,rfl⟩,h2,by rintro j e;cases e;exact c⟩
theorem Id.mono{z:Nat}{es:List SV}{v:SV}{o:Option Nat}{n n' m m':Nat}(H:Id z es v o n m)(hn:n'<=n)(hm:m<=m'):Id z es v o n' m':=by
 rcases H with⟨h1,h2,c,f,a⟩|⟨j,f,h1,h2,a,b⟩
 exact .inl ⟨h1,h2,c,f,a⟩;exact .inr ⟨j,f,h1,by omega,by omega,b⟩
theorem Id.lt{z:Nat}{es:List SV}{v:SV}{o:Option Nat}{n m:Nat}(H:Id z es v o n m):∀j,o=some j->n<=j/\j<m:=by
 rcases H with⟨rfl,_⟩|⟨j,f,rfl,h2,a,_⟩
 simp;rintro i e;cases e;exact⟨h2,a⟩
theorem Md{z k i:Nat}{es:List SV}{e c:SV}(b:∀e∈es,e.B=true/\e.cells.length=z)(h:es[i]? = some e)(hk:e.cells[k]? = some c):
 i*z+k+1<=(es.flatMap SV.cells).length/\((es.flatMap SV.cells).drop (i*z+k)).take 1=[c]:=by
 obtain⟨g1,d⟩:=Nf b h;have he:=(b e (vJ h)).2;have a:=(qv.1 hk).1;refine⟨by omega,?_⟩;have h1:(((es.flatMap SV.cells).drop (i*z)).take z).drop k=e.cells.drop k:=by rw[d]
 rw[List.drop_take,List.drop_drop]at h1;have h2:(((es.flatMap SV.cells).drop (i*z+k)).take (z-k)).take 1=(e.cells.drop k).take 1:=by rw[h1]
 rw[List.take_take,vF mq]at h2;rw[h2,qA a];simp only[List.take_succ_cons,vk];rw[(qv.1 hk).2]
theorem HT{a:List SV}{off:Nat}{c:SV}(h1:off+1<=a.length)(h2:(a.drop off).take 1=[c]):a.take off++c::a.drop (off+1)=a:=by
 have:a.drop off=c::a.drop (off+1):=by
  rw[qA mq]at h2 ⊢;simp only[List.take_succ_cons,vk,List.cons.injEq,and_true]at h2;rw[h2]
 rw[<-this,vY]
def jV:Tr:=.pure 0<|.pure 1<|.pure 3<|.pure 4<|.pure 6<|.pure 7<|.pure 9<|.pure 10 <|
 .two 2 13
  (.two 5 13 (.two 8 13 (.two 11 13 (.two 12 13 (.one 13 (.one 14 .nil)) (.one 12 (.one 14 .nil))) (.one 11 (.one 12 (.one 14 .nil)))) (.one 8 (.one 11 (.one 12 (.one 14 .nil))))) (.one 5 (.one 8 (.one 11 (.one 12 (.one 14 .nil))))))
  (.one 2 (.one 5 (.one 8 (.one 11 (.one 12 (.one 14 .nil))))))
theorem fg(s:AQ)(h1:s.A.length<=1048576)(h2:s.L.length<=1048576)(h3:s.C.length<=1048576)(h4:s.vars.length<=1048576)(h5:∀x∈s.A,x.Q.length<=1048576)(h6:∀x∈s.L,x.levels.length<=1048576):
 PC 172 [s.h] s.h:=by
 intro h n;refine FF func172 rfl λI=>?_;refine Bc 2 [(1,.q s.j),(2,.ptr (n+1) 0)] (h_ h (n+1) (some (.cells [.y 0 [] true,.y 0 [] true,.y 0 [] true,.y 0 [] true]))) (λm=>m=n+2) ?_ (λm hm=>?_);simp[go_sem,AQ.h,qq,Or];refine⟨Ap (by rw[AD _ _ mq];exact I.none (IO n)) (by simp[h_]),λj y=>?_⟩;have:=I j y;simp only[h_];grind;subst hm;refine AV 1 (α:=SV×Option Nat×SV×Option Nat×Nat) (λa=>[(2,.ptr (n+1) 0),(3,.ptr a.2.2.2.2 0)])
  (λa=>h_ (Ev (s.A.map Ao.h) a.2.1 (Ev (s.L.map FT.h) a.2.2.2.1 (h_ h (n+1) (some (.cells [.y 0 [] true,.y 0 [] true,.y 0 [] true,.y 0 [] true]))))) a.2.2.2.2 (some (.cells [a.1,a.2.2.1,Af s.C,CA s.vars])))
  (λa m=>Id 6 (s.A.map Ao.h) a.1 a.2.1 (n+2) m/\Id 2 (s.L.map FT.h) a.2.2.1 a.2.2.2.1 (n+2) m/\n+2<=a.2.2.2.2/\a.2.2.2.2<m/\a.2.1≠some a.2.2.2.2/\a.2.2.2.1≠some a.2.2.2.2/\(∀j,a.2.1=some j->a.2.2.2.1≠some j)) (CN jV rfl mu mu ?_) ?_
 . simp[go_sem,jV,AQ.j]
   iterate 14 (all_goals (try first
    | (refine LC.use (gw _ h1) ?_;intro O H1 m1 W1;have lt1:=W1.1;obtain⟨o1,a1,b1,c1⟩:=W1.own;obtain⟨s1,D⟩:=a1.st;simp only[SV.B,SV.cells]at s1 D;simp[go_sem])
    | (refine LC.use (gx _ h2) ?_;intro P H2 m2 W2;have jS:=W2.1;obtain⟨o2,a2,R,c2⟩:=W2.own;obtain⟨s2,t2⟩:=a2.st;simp only[SV.B,SV.cells]at s2 t2;simp[go_sem])
    | (refine(kH _ h3).use ?_;simp[go_sem])
    | (refine(fo _ h4).use ?_;simp[go_sem,s1,D,s2,t2])
    | refine⟨?_,?_⟩))
   all_goals
    have M:=a1.lt;have N:=a2.lt;have ZZ:A9:=.cells [.y 0 [] true,.y 0 [] true,.y 0 [] true,.y 0 [] true]
    first
     | (have hq:=R (n+2) _ (b1 (n+2) _ (AE _ _ _));simp[go_sem,hq])
     | (have hq:=R m1 _ (AE _ _ _);simp[go_sem,hq])
     | simp[go_sem,AE]
    refine⟨O,o1,P,o2,_,⟨a1.mono mq mq,a2.mono mq mq,?_,?_,λe=>?_,λe=>?_,λj e S=>?_⟩,Or,λj y=>?_⟩;omega;omega;have:=M _ e;omega;have:=N _ e;omega;have:=M _ e;have:=N _ S;omega;intro hy;have q1:=b1 j y;have q2:=R j y;have q3:=c1 j;have q4:=c2 j;have r1:=M j;have r2:=N j;have q5:=R j (.cells ((s.A.map Ao.h).flatMap SV.cells));have q6:=I j y;clear b1 R c1 c2 M N W1 W2 a1 a2;simp only[h_]at *;cases o1<;>cases o2<;>simp only[Ev,h_]at hy<;>grind
 rintro⟨O,o1,P,o2,q⟩ m ⟨a1,a2,hq1,hq2,X,Y,u⟩;dsimp only at a1 a2 hq1 hq2 X Y u ⊢;have M:=a1.lt;have N:=a2.lt;obtain⟨s1,D⟩:=a1.st;obtain⟨s2,t2⟩:=a2.st;simp only[SV.B,SV.cells]at s1 D s2 t2;generalize U:Ev (s.A.map Ao.h) o1 (Ev (s.L.map FT.h) o2 (h_ h (n+1) (some (.cells [.y 0 [] true,.y 0 [] true,.y 0 [] true,.y 0 [] true]))))=B;have B1:∀j,o1=some j->B j=some (.cells ((s.A.map Ao.h).flatMap SV.cells)):=λj e=>by subst e;rw[<-U];simp[Ev,h_]
 have B2:∀j,o2=some j->B j=some (.cells ((s.L.map FT.h).flatMap SV.cells)):=λj e=>by
  subst e;rw[<-U];cases o1 with
  | none=>simp[Ev,h_]
  | some i=>have:=u i rfl;simp only[Ev,h_];grind
 have B3:B (n+1)=some (.cells [.y 0 [] true,.y 0 [] true,.y 0 [] true,.y 0 [] true]):=by
  rw[<-U];cases o1<;>cases o2<;>simp only[Ev,h_]<;>grind
 have B4:∀j y,h j=some y->B j=some y:=λj y e=>by
  have:=I j y e;rw[<-U];cases o1<;>cases o2<;>simp only[Ev,h_]<;>grind
 have Z:∀j,o1=some j->j≠q:=λj e S=>X (by rw[e,S]);have w:∀j,o2=some j->j≠q:=λj e S=>Y (by rw[e,S]);clear U;refine LL 1 [(2,.ptr (n+1) 0),(3,.ptr q 0)] (h_ B q (some (.cells [O,P,Af s.C,CA s.vars]))) m (AK ?_) (λm' d=>?_)
 . rcases a1 with⟨_,he,z',f,rfl⟩|⟨j,f,rfl,V,W,rfl⟩
   simp[go_sem,AE];refine BC 1 (α:=Unit) (λ_=>[(2,.ptr (n+1) 0),(3,.ptr q 0),(21,AA 0),(22,AA 0)]) (λ_=>h_ B q (some (.cells [.y z' [] f,P,Af s.C,CA s.vars]))) (λ_ m'=>m<=m') (λ_=>0) () (IO _) (by simp[look]) AC ?_;intro _ m' d;simp[go_sem];exact d
   . have b:=Z j rfl;have G:=B1 j rfl;simp[go_sem,AE];refine BC 1 (α:=Nat) (λi=>[(2,.ptr (n+1) 0),(3,.ptr q 0),(21,AA s.A.length),(22,AA i)]) (λ_=>h_ B q (some (.cells [.sl j 0 6 s.A.length f,P,Af s.C,CA s.vars]))) (λi m'=>i<=s.A.length/\m<=m') (λi=>s.A.length-i) 0 ?_ ?_ ?_ ?_;exact⟨qj _,IO _⟩;simp[look];simp;rintro i m' ⟨hi,d⟩;by_cases l:i<s.A.length
     . have w1:=wS i mq;obtain⟨x,hx⟩:∃x,s.A[i]=x:=⟨_,rfl⟩
       have J:(s.A.map Ao.h)[i]? = some x.h:=by simp[l,hx]
       obtain⟨g1,t⟩:=Md (Ao.E.size s.A) J (k:=5) (c:=AO x.Q) rfl;have g3:=HT g1 t;have K:=h5 x (by rw[<-hx];exact qn l);have p:j<m':=by omega
       have r:q<m':=by omega
       have g:=G;generalize(s.A.map Ao.h).flatMap SV.cells=F at g g1 t g3;simp[go_sem,AE,AD,b,g,l,g1,t,p,r]
       repeat first|refine nd (by simp[CL,DU,DE,Aj,Region.binds]<;>omega) ?_|refine sq ?_|refine aq ?_
       refine vy _ _ _ _ _ _ (Ze x.Q K) ?_;simp[go_sem,AD,b,g,l,g1,g3,p,w1,-Int.natCast_add]
       repeat first|refine nd (by simp[CL,DU,DE,Aj,Region.binds,b]<;>omega) ?_|refine sq ?_|refine aq ?_
       refine⟨i+1,by omega,⟨by omega,d⟩,Or,λo y=>?_⟩;simp only[h_];grind
     have:i=s.A.length:=by omega
     subst this;simp[go_sem];exact d
 refine LL 1 [(2,.ptr (n+1) 0),(3,.ptr q 0)] (h_ B q (some (.cells [O,P,Af s.C,CA s.vars]))) m (AK ?_) (λm2 hm2=>?_)
 . rcases a2 with⟨_,he,z',f,rfl⟩|⟨j,f,rfl,V,W,rfl⟩
   simp[go_sem,AE];refine BC 1 (α:=Unit) (λ_=>[(2,.ptr (n+1) 0),(3,.ptr q 0),(40,AA 0),(41,AA 0)]) (λ_=>h_ B q (some (.cells [O,.y z' [] f,Af s.C,CA s.vars]))) (λ_ m'=>m<=m') (λ_=>0) () d (by simp[look]) AC ?_;intro _ m' d;simp[go_sem];exact d
   . have b:=w j rfl;have G:=B2 j rfl;simp[go_sem,AE];refine BC 1 (α:=Nat) (λi=>[(2,.ptr (n+1) 0),(3,.ptr q 0),(40,AA s.L.length),(41,AA i)]) (λ_=>h_ B q (some (.cells [O,.sl j 0 2 s.L.length f,Af s.C,CA s.vars]))) (λi m'=>i<=s.L.length/\m<=m') (λi=>s.L.length-i) 0 ?_ ?_ ?_ ?_;exact⟨qj _,d⟩;simp[look];simp;rintro i m' ⟨hi,d⟩;by_cases l:i<s.L.length
     . have w1:=wS i mq;obtain⟨x,hx⟩:∃x,s.L[i]=x:=⟨_,rfl⟩
       have J:(s.L.map FT.h)[i]? = some x.h:=by simp[l,hx]
       obtain⟨g1,t⟩:=Md (FT.E.size s.L) J (k:=1) (c:=DP x.levels) rfl;have g3:=HT g1 t;have K:=h6 x (by rw[<-hx];exact qn l);have p:j<m':=by omega
       have r:q<m':=by omega
       have g:=G;generalize(s.L.map FT.h).flatMap SV.cells=F at g g1 t g3;simp[go_sem,AE,AD,b,g,l,g1,t,p,r]
       repeat first|refine nd (by simp[CL,DU,DE,Aj,Region.binds]<;>omega) ?_|refine sq ?_|refine aq ?_
       refine vy _ _ _ _ _ _ (fp x.levels K) ?_;simp[go_sem,AD,b,g,l,g1,g3,p,w1,-Int.natCast_add]
       repeat first|refine nd (by simp[CL,DU,DE,Aj,Region.binds,b]<;>omega) ?_|refine sq ?_|refine aq ?_
       refine⟨i+1,by omega,⟨by omega,d⟩,Or,λo y=>?_⟩;simp only[h_];grind
     have:i=s.L.length:=by omega
     subst this;simp[go_sem];exact d
 have enq:n+1≠q:=by omega
 have T:∀(z:Nat)(es:List SV)(v:SV)(o:Option Nat)(H:Hp),(∀e∈es,e.B=true/\e.cells.length=z)->Id z es v o (n+2) m->(∀j,o=some j->H j=some (.cells (es.flatMap SV.cells)))->Fz H h 1 v (.y z es false):=λz es v o H hsz ha hH=>by
  rcases ha with⟨_,he,z',f,rfl⟩|⟨j,f,rfl,V,W,rfl⟩
  rw[he];exact Fg mr;exact E7 (I.none mq) mr (hH j rfl) hsz
 refine AK ?_;simp[go_sem,AE,AD,enq,B3];refine IS (v:=s.h) 2 I (λj y e=>?_) (.inr ⟨T _ _ _ _ _ (Ao.E.size _) a1 λj e=>?_,T _ _ _ _ _ (FT.E.size _) a2 λj e=>?_,Or,Or,trivial⟩) ?_;have:=I j y e;have:=B4 j y e;simp only[h_];grind;have:=M j e;have:=B1 j e;have:=Z j e;simp only[h_];grind;have:=N j e;have:=B2 j e;have:=w j e;simp only[h_];grind;simp[AQ.h,AQ.j,C_,c_,Ao.E.c_,FT.E.c_,AR.E.c_,Ge.E.c_]
structure AQ.l(s:AQ):Prop where
 A:s.A.length<=1048576
 L:s.L.length<=1048576
 C:s.C.length<=1048576
 vars:s.vars.length<=1048576
 Q:∀x∈s.A,x.Q.length<=1048576
 levels:∀x∈s.L,x.levels.length<=1048576
structure AI.l(d:AI):Prop where
 len:d.W.length<=1048576
 W:AB.G d.W
 T0 : d.T0.l
 V:d.V.length<=1048576
 set:d.S.l
theorem c79(d:AI)(hd:d.l):PC 108 [d.h] d.h:=by
 intro h n;refine gq func108 rfl λb=>?_;have a:=hd.set;simp[go_sem,AI.h,AG.j,AQ.j,AE,AD,qq]
 repeat first|refine nd (by simp[CL,DU,DE,Aj,Region.binds]<;>omega) ?_|refine sq ?_|refine aq ?_
 refine vy _ _ _ _ _ _ (jp d.W hd.len hd.W) ?_;simp[go_sem,AE,AD]
 repeat first|refine nd (by simp[CL,DU,DE,Aj,Region.binds]<;>omega) ?_|refine sq ?_|refine aq ?_
 refine vy _ _ _ _ _ _ (by simpa[AG.h,AG.j]using NL d.T0 hd.T0) ?_;simp[go_sem,AE,AD]
 repeat first|refine nd (by simp[CL,DU,DE,Aj,Region.binds]<;>omega) ?_|refine sq ?_|refine aq ?_
 refine vy _ _ _ _ _ _ (c76 d.V hd.V) ?_;simp[go_sem,AE,AD]
 repeat first|refine nd (by simp[CL,DU,DE,Aj,Region.binds]<;>omega) ?_|refine sq ?_|refine aq ?_
 refine vy _ _ _ _ _ _ (by simpa[AQ.h,AQ.j]using fg d.S a.A a.L a.C a.vars a.Q a.levels) ?_;simp[go_sem,AE]
 repeat first|refine nd (by simp[CL,DU,DE,Aj,Region.binds]<;>omega) ?_|refine sq ?_|refine aq ?_
 exact Bt b (λj y=>by have:=b j y;simp only[h_];grind) rfl (by simp[C_,c_,AB.E.c_,Fp.E.c_,Di.E.c_,A3.E.c_,By.E.c_,Ao.E.c_,FT.E.c_,AR.E.c_,Ge.E.c_])
theorem jw(a b:Int):PC 170 [AA a,AA b] (.bool (decide (a<b))):=by
 intro h n;refine gq func170 rfl λc=>?_;simp[go_sem];refine(cU _).use ?_;simp[go_sem];exact Ar c rfl rfl
theorem jx(a:Int):PC 171 [AA a] (.bool false):=by
 intro h n;refine gq func171 rfl λb=>?_;simp[go_sem];exact Ar b rfl rfl
def IE(l:List Int)(x:Int)(i:Nat):Int:=match l[i]? with|some a=>if a<x then -1 else if a=x then 0 else 1|none=>0
theorem c78(l:List Int)(x:Int)(hl:l.length<=1048576):PC 107 [.y 1 (l.map AA) false,AA x] (.tup [AA (BY (IE l x) l.length).1,.bool (BY (IE l x) l.length).2]):=by
 intro h n;refine gq func107 rfl λr=>?_;simp[go_sem];generalize s:IE l x=c;refine BC 1 (α:=Nat×Nat) (λq=>[(0,.y 1 (l.map AA) false),(1,AA x),(6,AA l.length),(7,AA q.1),(8,AA q.2)]) (λ_=>h) (λq m=>q.1<=q.2/\q.2<=l.length/\n<=m/\H6 c 0 l.length=H6 c q.1 q.2) (λq=>q.2-q.1) (0,l.length) ?_ ?_ AC ?_;simp;simp[look];rintro⟨i,j⟩ m ⟨o,t,k,d⟩;dsimp only at o t d;by_cases a:i<j;have hm:(i+j) / 2<l.length:=by omega
 have u:IntKind.i64.wrap ((i:Int)+j)=((i+j:Nat):Int):=by rw[EU]<;>omega
 have v:IntKind.u64.wrap ((i+j:Nat):Int)=((i+j:Nat):Int):=by rw[bt]<;>omega
 have w:(((i+j:Nat):Int)).fdiv 2=(((i+j) / 2:Nat):Int):=by rw[Int.fdiv_eq_ediv_of_nonneg _ mq];omega
 have z:IntKind.i64.wrap (((i+j) / 2:Nat):Int)=(((i+j) / 2:Nat):Int):=by rw[EU]<;>omega
 have A:IntKind.i64.wrap ((((i+j) / 2:Nat):Int)+1)=(((i+j) / 2+1:Nat):Int):=by rw[EU]<;>omega
 rw[H6.eq_def c i j]at d;have b:c ((i+j) / 2)=if l[(i+j) / 2]<x then -1 else if l[(i+j) / 2]=x then 0 else 1:=by rw[<-s];simp[IE,hm]
 simp[go_sem,a,u,v,w,z,hm,-Int.natCast_add,-Int.natCast_ediv];refine qY (jw _ _) ?_;by_cases hb:l[(i+j) / 2]<x;have IZ:c ((i+j) / 2)<0:=by rw[b,my hb];omega
 simp[a,IZ]at d;simp[go_sem,hb,A,-Int.natCast_add,-Int.natCast_ediv];exact⟨(i+j) / 2+1,j,by omega,⟨by omega,t,k,d⟩,Or,Or⟩;have IZ:¬c ((i+j) / 2)<0:=by rw[b,mw hb];split<;>omega
 simp[a,IZ]at d;simp[go_sem,hb,-Int.natCast_add,-Int.natCast_ediv];exact⟨i,(i+j) / 2,by omega,⟨by omega,by omega,k,d⟩,Or,Or⟩;have e:H6 c 0 l.length=i:=by rw[d,H6.eq_def];simp[a]
 by_cases hi:i<l.length;have b:c i=if l[i]<x then -1 else if l[i]=x then 0 else 1:=by rw[<-s];simp[IE,hi]
 by_cases f:l[i]=x;simp[go_sem,a,hi,f];exact Ar r rfl (by simp[BY,e,hi,b,f]);have g:(l[i]==x)=false:=by simpa using f
 simp[go_sem,a,hi,g];refine(jx _).use ?_;simp[go_sem];have p:¬c i=0:=by rw[b,mw f];split<;>omega
 exact Ar r rfl (by simp[BY,e,hi,p]);simp[go_sem,a,hi];exact Ar r rfl (by simp[BY,e,hi])
theorem c77(l:List Int)(b:l.length<=1048576)(r:By):PC 106 [r.h,.q [.y 1 (l.map AA) false]] (.bool (!(BY (IE l r.id) l.length).2)):=by
 intro h n;refine gq func106 rfl λa=>?_;simp[go_sem,By.h,AE];refine(c78 l r.id b).use ?_;simp[go_sem];exact Bt a (Aa a (IO _) AC) rfl rfl
theorem fx(z:Nat)(full:Bool)(g:FuncId)(a b:List SV):PC 104 [.y z [] full,.fn (.func g) a b] (.y 3 [] false):=by
 intro h n;refine gq func104 rfl λc=>?_;simp[go_sem];have hI:=(ff [] mr g a b (λ_=>false) mr).wk (us:=[.y z [] full,.fn (.func g) a b]) 1 ⟨Fg mr,Or,trivial⟩;refine qY hI ?_;have e:BM (λ_=>false) 0 0 = -1:=by rw[BM];simp
 simp[go_sem,e];exact P8 c AC mr rfl
def AI.norm1(d:AI):AI:=⟨AY d.W,d.T0,d.V,d.S⟩
def AI.normal(d:AI):AI:=⟨AY d.W,d.T0,d.V.filter λr=>(BY (IE (Et d.norm1) r.id) (Et d.norm1).length).2,d.S⟩
theorem c21(d:AI)(hd:d.l)(z:d.normal.l)(F:(BG [] (AB.U (AY d.W)++d.T0.all)).length<=1048576):PC 43 [d.h] d.normal.h:=by
 intro h n;refine gq func43 rfl λB=>?_;have hs:=hd.set;simp[go_sem,AI.h,AG.j,AQ.j,AE,AD,qq];refine(c73 d.W hd.len hd.W).use ?_;simp[go_sem,AE,AD];refine qY (by simpa[AI.h,AI.norm1,AG.j,AQ.j]using c74 d.norm1 z.len z.W hd.T0 F) ?_;simp[go_sem,AE,AD,Ad];have k:(Et d.norm1).length<=1048576:=by
  have h1:(Et d.norm1).length=((BG [] (AB.U d.norm1.W++d.norm1.T0.all)).filter λx=>decide (x≠0)).length:=wm _;have h2:=vC (λx=>decide (x≠0)) (BG [] (AB.U d.norm1.W++d.norm1.T0.all));have h4:(BG [] (AB.U d.norm1.W++d.norm1.T0.all)).length<=1048576:=F;omega
 generalize C:Et d.norm1=us at k;refine LC.use (jQ _ hd.V) ?_;rintro M f m1 ⟨hle,BA,hv⟩;have G:=BA n (.cells ([AH (AY d.W)]++d.T0.j++[BV d.V]++d.S.j)) (by simp[AE,AD,AG.j,AQ.j]);obtain⟨p,u,I⟩:∃p:List SV,p.length=11/\f (n+1)=some (.cells p):=⟨_,rfl,BA (n+1) (.cells _) (by simp[AE,AD];rfl)⟩
 have H:=BA (n+2) (.cells [.y 1 (us.map AA) false]) (by simp[AE,<-C,AI.norm1]);have J:∀j y,h j=some y->f j=some y:=λj y e=>BA j y (by have:=B j y e;simp only[h_];grind);clear BA;have i:∀(b:Hp),(∀j,j=n\/j=n+1\/j<n->b j=f j)->Ce n (h_ (h_ b n (some (.cells d.normal.h.cells))) (n+1) (some (.cells d.normal.h.cells))) m1 d.normal.h (Is d.normal.h h n):=λb a=>by
  refine Bt B (λj y e=>?_) rfl ?_;have h1:=(B j y e).1;have h2:=J j y e;rw[AD _ _ mq,AD _ _ mq,a j mq,h2];simp[AI.h,AG.j,AQ.j,C_,c_,AB.E.c_,Fp.E.c_,Di.E.c_,A3.E.c_,By.E.c_,Ao.E.c_,FT.E.c_,AR.E.c_,Ge.E.c_]
 have c:d.normal.V=d.V.filter λr=>!(!(BY (IE us r.id) us.length).2):=by simp[AI.normal,C]
 have m:∀(K:SV->Hp->Nat->Prop),(∀b:Hp,(∀j,j=n\/j=n+1\/j<n->b j=f j)->K (.y 3 (d.normal.V.map By.h) false) b m1)->Ab (BZ.plain.call false 0) prog 104 [M,.fn (.func 106) [] [.ptr (n+2) 0]] f m1 K:=λK s=>by
  rcases hv with⟨D,N,full,rfl⟩|⟨o,full,h1,h2,rfl,L⟩
  have hr:d.normal.V=[]:=by rw[c];simp only[List.map_eq_nil_iff]at D;rw[D];rfl
  rw[hr]at s;exact(fx N full 106 [] [.ptr (n+2) 0]).use (s f λ_ _=>rfl);rw[c]at s;simp only[qf];refine wW (bs:=[.sl o 0 3 d.V.length full,.fn (.func 106) [] [.q [.y 1 (us.map AA) false]]]) (h2:=h_ f (n+2) none) 2 (λj y e=>?_) ⟨Or,.inr ⟨rfl,trivial,Ap (AE _ _ _) H,trivial⟩,trivial⟩ ?_;simp only[h_]at e;split at e;cases e;exact e;refine qM (d75 d.V hd.V 106 [] [.q [.y 1 (us.map AA) false]] (λr=>!(BY (IE us r.id) us.length).2) (λx _=>c77 us k x) (by rw[AD _ _ mq];exact L)) ?_;rintro v h' n' ⟨rfl,rfl,rfl⟩;refine s _ λj hj=>?_;rw[AD _ _ mq,AD _ _ mq]
 simp[go_sem];refine m _ λb a=>?_;have g:b n=_:=(a n (.inl rfl)).trans G;have t:b (n+1)=_:=(a (n+1) (.inr (.inl rfl))).trans I;have A:n+1≠n:=by omega
 simp only[AG.j,AQ.j]at g;simp[go_sem,g,AE];refine qY (by simpa[AI.h,AI.normal,AG.j,AQ.j]using c79 d.normal z) ?_;have w:p.drop 11=[]:=List.drop_of_length_le mq;simp[go_sem,AD,t,u,AE,w];have:=i b a;simpa[AI.h,AI.normal,AG.j,AQ.j,SV.cells]using this
def Bv(l:List AB):Nat:=(l.map λx=>x.J.size).sum
def lim(hp:AG->Prop)(K:Nat):Nat->List AB->Prop
 | 0,_=>False
 | N+1,l=>l.length<=K/\Bv l<=K/\∀x∈l,hp x.H/\lim hp K N x.W/\x.R.length<=K/\∀r∈x.R,hp r.H/\r.cells.length<=K/\∀c∈r.cells,hp c.H/\lim hp K N c.W
theorem lim.mono{hp f:AG->Prop}(hh:∀x,hp x->f x){K g:Nat}(h:K<=g):∀{N:Nat} {l:List AB},lim hp K N l->lim f g N l
 | N+1,l,H=>⟨by have:=H.1;omega,by have:=H.2.1;omega,λx j=>by
  obtain⟨a,b,c,d⟩:=H.2.2 x j;exact⟨hh _ a,b.mono hh h,by omega,λr hr=>⟨hh _ (d r hr).1,by have:=(d r hr).2.1;omega,λe i=>⟨hh _ ((d r hr).2.2 e i).1,((d r hr).2.2 e i).2.mono hh h⟩⟩⟩⟩
theorem Ti{l:List AB}{x:AB}(h:x∈l):x.J.size<=Bv l:=by
 induction l with
 | nil=>cases h
 | cons a l ih=>
  have e:Bv (a::l)=a.J.size+Bv l:=by simp[Bv]
  rcases qe.1 h with rfl|h;omega;have:=ih h;omega
theorem lim.l{hp:AG->Prop}(hh:∀x,hp x->x.l){K:Nat}(h:K<=1048576):∀{N:Nat} {l:List AB},lim hp K N l->l.length<=1048576/\AB.G l
 | N + 1, l, H => ⟨by have := H.1; omega, AB.sizedL_of fun x hx => by
  obtain⟨a,b,c,d⟩:=H.2.2 x hx;have ht:=Ti hx;have ht2:=H.2.1;have i:=lim.l hh h b;have hr:AL.G x.R:=AL.sizedL_of λr hr=>by
   obtain⟨e,f,g⟩:=d r hr;have j:AF.G r.cells:=AF.sizedL_of λq k=>by
    obtain⟨u,v⟩:=g q k;have hv:=lim.l hh h v;cases q;rw[AF.l];exact⟨hh _ u,hv.1,hv.2⟩
   cases r;rw[AL.l];exact⟨hh _ e,by simp only[AL.cells]at f;omega,j⟩
  cases x;rw[AB.l];exact⟨by simp only[AB.J]at ht;omega,hh _ a,i.1,by simp only[AB.R]at c;omega,i.2,hr⟩⟩
def RJ(hp:AG->Prop)(K N:Nat)(x:AB):Prop:=hp x.H/\lim hp K N x.W/\x.R.length<=K/\∀r∈x.R,hp r.H/\r.cells.length<=K/\∀c∈r.cells,hp c.H/\lim hp K N c.W
theorem Ca{hp:AG->Prop}{K N:Nat}{l:List AB}:lim hp K (N+1) l↔l.length<=K/\Bv l<=K/\∀x∈l,RJ hp K N x:=Iff.rfl
theorem VS{hp:AG->Prop}{K N:Nat}{x:AB}(H:RJ hp K N x)(t:ByteArray):RJ hp K N (.mk x.x x.code x.id t x.H x.W x.R):=by cases x;exact H
theorem OS(out:List AB)(x:AB):Bv (Ah out x)<=Bv out+x.J.size:=by
 unfold Ah;split;omega;split;rename_i y a;obtain⟨b,rfl⟩:∃b,out=b++[y]:=by
  rcases List.eq_nil_or_concat out with rfl|⟨b,z,rfl⟩
  simp at a;simp only[List.concat_eq_append]at a ⊢;rw[wt]at a;cases a;exact⟨b,rfl⟩
 split;simp[Bv,AB.zb,AB.J];omega;simp[Bv];omega;simp[Bv]
theorem Ky{p:AB->Prop}(hp:∀x t,p x->p (.mk x.x x.code x.id t x.H x.W x.R)){out:List AB}{x:AB}(h1:∀y∈out,p y)(h2:p x):∀y∈Ah out x,p y:=λy a=>by
 rcases K3 a with h|h|⟨z,b,h⟩
 exact h1 y h;rw[h];exact h2;rw[h];exact hp z _ (h1 z b)
theorem Sr(l:List AB)(out:List AB):Bv (l.foldl Ah out)<=Bv out+Bv l:=by
 induction l generalizing out with
 | nil=>simp[Bv]
 | cons a l ih=>
  have h1:=ih (Ah out a);have h2:=OS out a;have e:Bv (a::l)=a.J.size+Bv l:=by simp[Bv]
  simp only[qL];omega
theorem Sq(l:List AB)(out:List AB):(l.foldl Ah out).length<=out.length+l.length:=by
 induction l generalizing out with
 | nil=>simp
 | cons a l ih=>
  have h1:=ih (Ah out a);have h2:=Kz out a;simp only[qL,qo];omega
theorem JG{p:AB->Prop}(hp:∀x t,p x->p (.mk x.x x.code x.id t x.H x.W x.R))(l:List AB)(out:List AB)(h1:∀y∈out,p y)(h2:∀y∈l,p y):∀y∈l.foldl Ah out,p y:=by
 induction l generalizing out with
 | nil=>exact h1
 | cons a l ih=>exact ih (Ah out a) (Ky hp h1 (h2 a mr)) λy hy=>h2 y (by simp[hy])
theorem Gv{hp:AG->Prop}{K:Nat}:∀{N:Nat} {l:List AB},lim hp K N l->lim hp K N (AY l)
 | N+1,l,H=>by
  rw[Ca]at H ⊢;unfold AY EM;rw[wH];refine⟨?_,?_,?_⟩;have:=Sq (l.map AB.N) [];simp at this;omega;have:=Sr (l.map AB.N) [];have e:Bv (l.map AB.N)=Bv l:=by simp only[Bv,vO];congr 1;exact qF λx _=>by simp only[Function.comp_apply,(AB.nrm_fields x).2.2.2.1]
  have k:Bv []=0:=rfl;rw[e,k]at this;omega;refine JG (p:=RJ hp K N) (λx t h=>VS h t) _ _ (λy g=>by cases g) λy g=>?_;obtain⟨x,q,rfl⟩:=qa.1 g;obtain⟨a,b,c,d⟩:=H.2.2 x q;obtain⟨_,_,_,_,m,n,i⟩:=AB.nrm_fields x;refine⟨by rw[m];exact a,by rw[n];exact Gv b,?_,?_⟩;rw[i];have:=vC (λr=>!decide (r.cells.length=0)) (x.R.map AL.N);simp only[qf]at this;omega;rw[i];intro r hr;obtain⟨r0,h0,rfl⟩:=qa.1 (qW.1 hr).1;obtain⟨u,v,w⟩:=d r0 h0;have f:(AL.N r0).H=r0.H/\(AL.N r0).cells=r0.cells.map AF.N:=by cases r0;rw[AL.N,ul];exact⟨rfl,rfl⟩
  refine⟨by rw[f.1];exact u,by rw[f.2,qf];exact v,?_⟩;rw[f.2];intro c o;obtain⟨c0,h1,rfl⟩:=qa.1 o;obtain⟨s,z⟩:=w c0 h1;have j:(AF.N c0).H=c0.H/\(AF.N c0).W=AY c0.W:=by cases c0;rw[AF.N];exact⟨rfl,rfl⟩
  exact⟨by rw[j.1];exact s,by rw[j.2];exact Gv z⟩
structure Ed where
 H:AG
 mid:Bool
 units:Int
def Ed.h(p:Ed):SV:=.agg (p.H.j++[.bool p.mid,AA p.units])
structure DC where
 id:Int
 a:Int
 b:Int
def DC.h(s:DC):SV:=.agg [AA s.id,AA s.a,AA s.b]
def AB.put(x:AB)(h:AG)(f:List AB)(r:List AL):AB:=.mk x.x x.code x.id x.J h f r
section
variable{σ:Type}(f:σ->Ed->AG×Bool×σ)(it:Int->List AB->Bool->σ->List AB×σ)(mid:Bool)
end
section
variable{σ:Type}(f:σ->Ed->AG×Bool×σ)(sc:DC)
end
theorem Ff{α β:Type}(g:β->α->β)(b:β)(l:List α)(i:Nat)(x:α)(h:i<l.length)(a:l[i]=x):(l.take (i+1)).foldl g b=g ((l.take i).foldl g b) x:=by
 rw[qb h,vp,a];rfl
section
variable{σ:Type}{f:σ->Ed->AG×Bool×σ}{it:Int->List AB->Bool->σ->List AB×σ}{mid:Bool}
end
section
variable{hp:AG->Prop}{σ:Type}{f:σ->Ed->AG×Bool×σ}{it:Int->List AB->Bool->σ->List AB×σ}{mid:Bool}{K N:Nat}
theorem ND{α:Type}{p:α->Prop}{l:List α}{x:α}(h:∀y∈l,p y)(b:p x):∀y∈l++[x],p y:=λy a=>by
 rcases qd.1 a with a|a;exact h y a;rw[qw.1 a];exact b
end
theorem S9{hp:AG->Prop}{L:List Int}(hh:∀h,hp h->∀u∈h.all,u∈L){K:Nat}:∀{N:Nat} {l:List AB},lim hp K N l->∀u∈AB.U l,u∈L
 | N + 1, l, H => by
  obtain⟨g1,m,b⟩:=Ca.1 H;clear H g1 m
  induction l with
  | nil=>simp[AB.U]
  | cons x l ih=>
   intro u a;rw[AB.U,qd]at a;rcases a with a|a;obtain⟨a1,a2,a3,a4⟩:=b x mr;cases x with
   | mk k c i t h f r=>
    simp only[AB.us,qd,AB.H,AB.W,AB.R]at *;rcases a with a|a;exact hh h a1 u a;split at a;exact S9 hh a2 u a;split at a;clear a3 b
    induction r with
    | nil=>simp[AL.U]at a
    | cons r rs ihr=>
     rw[AL.U,qd]at a;rcases a with a|a;obtain⟨b1,e,d⟩:=a4 r mr;cases r with
     | mk h2 cs=>
      simp only[AL.us,qd,AL.H,AL.cells]at *;rcases a with a|a;exact hh h2 b1 u a;clear a4 ihr e
      induction cs with
      | nil=>simp[AF.U]at a
      | cons q cs ihc=>
       rw[AF.U,qd]at a;rcases a with a|a;obtain⟨g,j⟩:=d q mr;cases q with
       | mk i3 b f3=>
        simp only[AF.us,qd,AF.H,AF.W]at *;rcases a with a|a;exact hh b g u a;exact S9 hh j u a
       exact ihc (λc n=>d c (by simp[n])) a
     exact ihr (λr hr=>a4 r (by simp[hr])) a
    cases a
   exact ih (λx o=>b x (by simp[o])) u a
theorem RR:∀{l L:List Int},l.Nodup->(∀u∈l,u∈L)->l.length<=L.length
 | [],_,_,_=>by simp
 | a::l,L,h,H=>by
  rw[qU]at h;have b:=H a mr;have:=RR (l:=l) (L:=L.erase a) h.2 λu c=>(List.mem_erase_of_ne (by rintro rfl;exact h.1 c)).2 (H u (by simp[c]));rw[List.length_erase_of_mem b]at this;have hp:0<L.length:=List.length_pos_of_mem b;simp only[qo];omega
theorem ZS{X L:List Int}(h:∀u∈X,u∈L):(BG [] X).length<=L.length:=
 RR (Jy X [] List.nodup_nil) λu a=>h u (by simpa using(Du u X []).1 a)
mutual
theorem EK{n m:Nat}(h:n<=m):∀v:SV,C_ n v=true->C_ m v=true
 | .agg cs,e=>by rw[C_]at *;exact C4 h cs e
 | .tup cs,e=>by rw[C_]at *;exact C4 h cs e
 | .fn _ a b,e=>by rw[C_,qg]at *;exact⟨C4 h a e.1,C4 h b e.2⟩
 | .ptr o _,e=>by simp only[C_,decide_eq_true_eq]at *;omega
 | .q cs,e=>by rw[C_]at *;exact C4 h cs e
 | .sl o _ _ _ _,e=>by simp only[C_,decide_eq_true_eq]at *;omega
 | .slc o _ _ _ _,e=>by simp only[C_,decide_eq_true_eq]at *;omega
 | .y _ es _,e=>by rw[C_]at *;exact C4 h es e
 | .map o,e=>by simp only[C_,decide_eq_true_eq]at *;omega
 | .yl o,e=>by simp only[C_,decide_eq_true_eq]at *;omega
 | .int _ _,_|.bool _,_|.str _,_|.junk,_|.nilp,_|.nilf,_|.nilm,_|.nils,_=>by simp[C_]
theorem C4{n m:Nat}(h:n<=m):∀l:List SV,c_ n l=true->c_ m l=true
 | [],_=>by rw[c_]
 | s::l,e=>by rw[c_,qg]at *;exact⟨EK h s e.1,C4 h l e.2⟩
end
theorem Kf{n m:Nat}(h:n<=m){y:A9}(a:BH n y=true):BH m y=true:=by
 cases y with
 | cells cs ty=>exact C4 h _ a
 | map es=>
  simp only[BH,qG,qg]at a ⊢;exact λp hp=>⟨EK h _ (a p hp).1,EK h _ (a p hp).2⟩
 | loop l=>rfl
 | sit s pos=>rfl
 | list z es=>exact C4 h _ a
 | iter l r=>
  simp only[BH,qG,qg,Option.all_eq_true]at a ⊢;exact⟨λp hp=>⟨EK h _ (a.1 p hp).1,EK h _ (a.1 p hp).2⟩,λp hp=>⟨EK h _ (a.2 p hp).1,EK h _ (a.2 p hp).2⟩⟩
section
variable{σ:Type}
def Az(st:σ->Nat->Option A9)(s:σ)(H:Hp):Hp:=λo=>match st s o with|some y=>some y|none=>H o
structure Tm(st:σ->Nat->Option A9)(n0:Nat)(g:FuncId)(a b:List SV)(f:σ->Ed->AG×Bool×σ)(ok:AG->Prop)(rk:σ->Nat:=λ_=>0)(top:Nat:=0):Prop where
 up:∀s p,rk s<=rk (f s p).2.2:=by exact λ_ _=>IO _
 lt:∀s o,n0<=o->st s o=none
 dom:∀s s' o,st s o=none->st s' o=none
 cl:∀s o y,st s o=some y->BH n0 y=true
 call:∀s p H n,ok p.H->rk (f s p).2.2<=top->n0<=n->(∀o y,st s o=some y->H o=some y)->BP prog g (a++[p.h]++b) H n (λv h' n'=>v=.tup [(f s p).1.h,.bool (f s p).2.1]/\h'=Az st (f s p).2.2 H/\n'=n)
variable{st:σ->Nat->Option A9}{n0:Nat}{g:FuncId}{a b:List SV}{f:σ->Ed->AG×Bool×σ}{ok:AG->Prop}{rk:σ->Nat}{top:Nat}
theorem Tm.up2(C:Tm st n0 g a b f ok rk top)(s c:σ)(H:Hp):Az st c (Az st s H)=Az st c H:=by
 funext o;simp only[Az];cases h:st c o with
 | some y=>rfl
 | none=>simp[C.dom c s o h]
theorem Tm.h_(C:Tm st n0 g a b f ok rk top)(s:σ)(H:Hp){o:Nat}(h:n0<=o)(y:Option A9):h_ (Az st s H) o y=Az st s (h_ H o y):=by
 funext j;simp only[Az,Sh.h_];split;subst_vars;rw[C.lt s _ h];rfl
theorem DF(s:σ)(H:Hp)(h:∀o y,st s o=some y->H o=some y):Az st s H=H:=by
 funext o;simp only[Az];cases e:st s o with
 | some y=>rw[h o y e]
 | none=>rfl
theorem Tm.old(C:Tm st n0 g a b f ok rk top)(s:σ){H:Hp}{n:Nat}(d:n0<=n)(i:Hw H n):Hw (Az st s H) n:=λo y e=>by
 simp only[Az]at e;cases c:st s o with
 | some z=>
  rw[c]at e;cases e;refine⟨?_,Kf d (C.cl s o y c)⟩;by_cases h:n0<=o;rw[C.lt s o h]at c;cases c;omega
 | none=>rw[c]at e;exact i o y e
theorem Tm.acc(C:Tm st n0 g a b f ok rk top){n m z:Nat}{o:Option Nat}{es:List SV}(hn:n0<=n)(d:CD n m z o es)(c:σ)(H:Hp):Az st c (Ae o es H)=Ae o es (Az st c H):=by
 cases o with
 | none=>rfl
 | some j=>have:=(d.lt j rfl).1;simp only[Ae];rw[C.h_ c H mq]
theorem Tm.has(C:Tm st n0 g a b f ok rk top){n m z:Nat}{o:Option Nat}{es:List SV}(hn:n0<=n)(c:CD n m z o es){s:σ}{H:Hp}(h:∀k y,st s k=some y->H k=some y):∀k y,st s k=some y->Ae o es H k=some y:=λk y e=>by
 cases o with
 | none=>exact h k y e
 | some j=>
  have:=(c.lt j rfl).1;simp only[Ae];rw[AD _ _ ?_];exact h k y e;rintro rfl;rw[C.lt s k mq]at e;cases e
theorem CV{s:σ}{H:Hp}:∀k y,st s k=some y->Az st s H k=some y:=λk y e=>by simp[Az,e]
theorem Gf{n m z:Nat}{o:Option Nat}{es:List SV}{h:Hp}(hb:∀j y,h j=some y->j<n)(hnm:n<=m)(a:CD n m z o es):∀j y,Ae o es h j=some y->j<m:=λj y e=>by
 cases o with
 | none=>have:=hb j y e;omega
 | some k=>
  have:=(a.lt k rfl).2;simp only[Ae,h_]at e;split at e;omega;have:=hb j y e;omega
theorem Ai{h:Hp}{m:Nat}(hb:∀j y,h j=some y->j<m){k:Nat}(hk:m<=k):h k=none:=by
 cases e:h k with
 | none=>rfl
 | some y=>have:=hb k y e;omega
theorem AZ.fz'{h:Hp}{n m z k:Nat}{o:Option Nat}{es:List SV}(c:∀j,n<=j->h j=none)(H:CD n m z o es){h':Hp}(hh:∀j y,Ae o es h j=some y->h' j=some y):Fz h' h (k+1) (AZ z o es) (.y z es false):=by
 cases o with
 | none=>rw[H.none rfl];exact .inr ⟨by simp,.inl rfl,trivial,by simp⟩
 | some j =>
  have b:=hh j (.cells (es.flatMap SV.cells)) (by simp[Ae,h_]);refine .inr ⟨c j (H.lt j rfl).1,by simp,rfl,rfl,_,_,b,by simp[Cb,Bq H.size];rfl,H.size,?_⟩;have:∀l:List SV,AU (Fz h' h k) l l:=by
   intro l;induction l with
   | nil=>trivial
   | cons a l ih=>exact⟨Or,ih⟩
  simp only[<-Bq H.size,qp];exact this _
theorem GL{h:Hp}{n m z:Nat}{o:Option Nat}{es:List SV}(hb:∀j y,h j=some y->j<n)(H:CD n m z o es):∀j x,h j=some x->Ae o es h j=some x:=λj x e=>by
 cases o with
 | none=>exact e
 | some k=>
  have h1:=(H.lt k rfl).1;have h2:=hb j x e;simp only[Ae];rw[AD _ _ mq];exact e
theorem Hd{h H:Hp}{n m p z:Nat}{es:List SV}{e:SV}{o:Option Nat}{v:SV}(hb:∀j y,h j=some y->j<n)(hn:n<=p)(c:CD n m z o es)(d:∀j y,h j=some y->H j=some y):
 ∀j y,Ae (some p) (es++[e]) h j=some y->(Cg.app H p { val:=v,upd:=o.map λj=>(j,none),new:=some (.cells (es.flatMap SV.cells++e.cells)) }) j=some y:=by
 intro j y a;simp only[Ae]at a;by_cases b:j=p;subst b;rw[AE]at a;simp only[Cg.app,AE];rw[<-a];simp;rw[AD _ _ b]at a;have hlt:=hb j y a;have:=d j y a;cases o with
 | none=>simp[Cg.app,AD _ _ b,this]
 | some k=>
  have hk:j≠k:=by have:=(c.lt k rfl).1;omega
  simp[Cg.app,AD _ _ b,AD _ _ hk,this]
theorem Re{h:Hp}{n n' m z:Nat}{o:Option Nat}{es:List SV}(a:Hw h n)(H:CD n m z o es)(b:∀e∈es,C_ n e=true):Ce n (Ae o es h) n' (AZ z o es) (λv h' n'=>v=.y z es false/\h'=h/\n'=n):=
 .inr ⟨1,.y z es false,h,AZ.fz a H AC,by rw[C_];exact EJ.2 b,λj x e=>⟨Ae.old a H j x e,a j x e⟩,rfl,rfl,rfl⟩
theorem AW{h h':Hp}{m:Nat}{y:Option A9}(hb:∀j z,h j=some z->j<m)(hh:∀j z,h j=some z->h' j=some z):∀j z,h j=some z->h_ h' m y j=some z:=λj z e=>by
 rw[AD _ _ (by have:=hb j z e;omega)];exact hh j z e
variable{it:Int->List AB->Bool->σ->List AB×σ}{mid:Bool}{P:List AB->Prop}{sc:DC}
theorem JQ{α β:Type}{G:β×σ->α->β×σ}(h:∀q x,rk q.2<=rk (G q x).2):∀(l:List α)(q:β×σ),rk q.2<=rk (l.foldl G q).2
 | [],_=>IO _
 | x::l,q=>qC (h q x) (JQ h l _)
theorem JR{α β:Type}{G:β×σ->α->β×σ}(h:∀q x,rk q.2<=rk (G q x).2)(l:List α)(q:β×σ)(i:Nat):rk ((l.take i).foldl G q).2<=rk (l.foldl G q).2:=by
 conv=>rhs;rw[<-vY i l]
 rw[vp];exact JQ h _ _
end
section
variable{σ:Type}{st:σ->Nat->Option A9}{n0:Nat}{g:FuncId}{a b:List SV}{f:σ->Ed->AG×Bool×σ}{ok:AG->Prop}{rk:σ->Nat}{top:Nat}{it:Int->List AB->Bool->σ->List AB×σ}{mid:Bool}{P:List AB->Prop}{sc:DC}
end
section
variable{σ:Type}{st:σ->Nat->Option A9}{n0:Nat}{g:FuncId}{a b:List SV}{f:σ->Ed->AG×Bool×σ}{ok:AG->Prop}{rk:σ->Nat}{top:Nat}{sc:DC}
end
section
variable{σ:Type}{st:σ->Nat->Option A9}{n0:Nat}{g:FuncId}{a b:List SV}{f:σ->Ed->AG×Bool×σ}{ok:AG->Prop}{rk:σ->Nat}{top:Nat}{sc:DC}
theorem UI{n:Nat}(a:∀s o,n<=o->st s o=none){s:σ}{H:Hp}{p:Nat}(hp:n<=p)(y:Option A9)(h:∀k z,st s k=some z->H k=some z):∀k z,st s k=some z->h_ H p y k=some z:=λk z e=>by
 rw[AD _ _ (by rintro rfl;rw[a s k hp]at e;cases e)];exact h k z e
end
section
variable{σ:Type}{st:σ->Nat->Option A9}{n0:Nat}{g:FuncId}{a b:List SV}{u:σ->Ed->σ}{ok:AG->Prop}{rk:σ->Nat}{top:Nat}{sc:DC}
end
def RZ(sc:DC)(l:List AB):Prop:=sc.a<0\/sc.b<sc.a\/(eC l).1<sc.b
instance(sc:DC)(l:List AB):Decidable (RZ sc l):=by unfold RZ;infer_instance
section
variable{σ:Type}(f:σ->Ed->AG×Bool×σ)(fl:Int->List AB->DC->Bool->σ->List AB×σ)(sc:DC)(mid:Bool)
end
section
variable{σ:Type}{f:σ->Ed->AG×Bool×σ}{fl:Int->List AB->DC->Bool->σ->List AB×σ}{sc:DC}{mid:Bool}
end
section
variable{α σ:Type}{rk:σ->Nat}
variable{f:σ->Ed->AG×Bool×σ}{fl:Int->List AB->DC->Bool->σ->List AB×σ}
end
section
variable{σ:Type}
variable{st:σ->Nat->Option A9}{n0:Nat}{g:FuncId}{a b:List SV}{f:σ->Ed->AG×Bool×σ}{ok:AG->Prop}{rk:σ->Nat}{top:Nat}
variable{fl:Int->List AB->DC->Bool->σ->List AB×σ}{mid:Bool}{P:List AB->Prop}{sc:DC}
end
section
variable{σ:Type}{st:σ->Nat->Option A9}{n0:Nat}{g:FuncId}{a b:List SV}{f:σ->Ed->AG×Bool×σ}{ok:AG->Prop}{rk:σ->Nat}{top:Nat}{fl:Int->List AB->DC->Bool->σ->List AB×σ}{mid:Bool}{P:List AB->Prop}{sc:DC}
end
section
variable{σ:Type}{st:σ->Nat->Option A9}{n0:Nat}{g:FuncId}{a b:List SV}{f:σ->Ed->AG×Bool×σ}{ok:AG->Prop}{rk:σ->Nat}{top:Nat}{fl:Int->List AB->DC->Bool->σ->List AB×σ}{P:List AB->Prop}
end
section
variable{σ:Type}{st:σ->Nat->Option A9}{n0:Nat}{g:FuncId}{a b:List SV}{f:σ->Ed->AG×Bool×σ}{ok:AG->Prop}{rk:σ->Nat}{top:Nat}{sc:DC}
end
def TC(f:FuncId)(args:List SV)(T:SV->Prop):Prop:=∀h n,BP prog f args h n (λv h' n'=>T v/\h'=h/\n'=n)
theorem TC.use{E:BZ}{f:FuncId}{args:List SV}{T:SV->Prop}(H:TC f args T){h:Hp}{n:Nat}{K:SV->Hp->Nat->Prop}(hk:∀v,T v->K v h n):Ab E prog f args h n K:=
 Ab.lift<|(H h n).mono λv _ _ ⟨a,b,c⟩=>by subst b;subst c;exact hk v a
theorem TC.mono{f:FuncId}{args:List SV}{T a:SV->Prop}(H:TC f args T)(ht:∀v,T v->a v):TC f args a:=λh n=>(H h n).mono λv _ _ ⟨b,c⟩=>⟨ht v b,c⟩
theorem Rb{h h':Hp}{n n':Nat}{v:SV}{T:SV->Prop}(c:Hw h n)(hh:∀o x,h o=some x->h' o=some x)(b:C_ n v=true)(a:T v):Ce n h' n' v (λe h2 d=>T e/\h2=h/\d=n):=
 Ce.plain b c hh ⟨a,rfl,rfl⟩
theorem ba{h h':Hp}{n n':Nat}{a v:SV}{T:SV->Prop}(k:Nat)(d:Hw h n)(hh:∀o x,h o=some x->h' o=some x)(e:Fz h' h k a v)(c:C_ n v=true)(b:T v):Ce n h' n' a (λg h2 f=>T g/\h2=h/\f=n):=
 .inr ⟨k,v,h,e,c,λo x e=>⟨hh o x e,d o x e⟩,b,rfl,rfl⟩
def Err(T:Prop)(v:SV):Prop:=∃e:Int,v=AA e/\(e=0->T)
def W8(x:AB):Prop:=(x.x≠6->x.W=[])/\(x.x≠7->x.R=[])/\Ci x.J=true
structure Bx where
 b:Bool
def Hx(l:List (Int×Int)):List (SV×SV):=l.map λx=>(AA x.1,AA x.2)
structure Ck where
 p:Nat
 s0:Nat
 s1:Nat
 s2:Nat
 s3:Nat
 s4:Nat
 m0:List (Int×Int)
 m1:List Int
 m2:List Int
structure Ck.ok(K:Ck)(n0:Nat):Prop where
 nd:[K.p,K.s0,K.s1,K.s2,K.s3,K.s4].Nodup
 lt:∀o∈[K.p,K.s0,K.s1,K.s2,K.s3,K.s4],o<n0
abbrev GK:=List Int×Int
def Ck.cells(K:Ck)(c:Int):List SV:=[.map K.s0,.map K.s1,.map K.s2,.map K.s3,.map K.s4,AA c]
def Ck.st(K:Ck)(s:GK)(o:Nat):Option A9:=
 if o=K.p then some (.cells (K.cells s.2))else if o=K.s3 then some (.map (FX s.1))else if o=K.s0 then some (.map (Hx K.m0))else if o=K.s1 then some (.map (FX K.m1))else if o=K.s2 then some (.map (FX K.m2))else if o=K.s4 then some (.map [])else none
section
variable{K:Ck}{n0:Nat}
theorem Ck.ok.clo(h:K.ok n0):Tm K.st n0 0 [] [] (λs p=>(p.H,true,s)) (λ_=>False) where
 lt s o ho:=by
  have h1:=h.lt;simp only[qe,vG,or_false,forall_eq_or_imp,forall_eq]at h1;unfold Ck.st;rw[mw mq,mw mq,mw mq,mw mq,mw mq,mw mq]
 dom s s' o ho:=by
  unfold Ck.st at ho ⊢
  repeat' split at ho
  all_goals first|cases ho|skip
  simp only[*,if_false]
 cl s o y ho:=by
  have h1:=h.lt;simp only[qe,vG,or_false,forall_eq_or_imp,forall_eq]at h1;unfold Ck.st at ho
  repeat' split at ho
  all_goals first|cases ho|skip
  . simp[BH,Ck.cells,C_,c_];omega
  exact ID _ _;simp[BH,Hx,C_];exact ID _ _;exact ID _ _;simp[BH]
 call:=λ_ _ _ _ h=>h.elim
structure Ck.has(K:Ck)(s:GK)(H:Hp):Prop where
 p:H K.p=some (.cells (K.cells s.2))
 s0:H K.s0=some (.map (Hx K.m0))
 s1:H K.s1=some (.map (FX K.m1))
 s2:H K.s2=some (.map (FX K.m2))
 s3:H K.s3=some (.map (FX s.1))
 s4:H K.s4=some (.map [])
theorem Ck.ok.has(h:K.ok n0){s:GK}{H:Hp}(a:∀o y,K.st s o=some y->H o=some y):K.has s H:=by
 have h1:=h.nd;simp only[qU,qe,vG,or_false,not_or]at h1;obtain⟨⟨a1,a2,a3,a4,a5⟩,⟨b2,b3,b4,b5⟩,⟨c3,c4,c5⟩,⟨d4,d5⟩,e5,_⟩:=h1;constructor<;>refine a _ _ ?_<;>unfold Ck.st<;>simp[*,Ne.symm,eq_comm]
def CQ(K:Ck)(T:Int->GK->Prop)(H:Hp)(n:Nat):SV->Hp->Nat->Prop:=λv h' n'=>∃e s',v=AA e/\T e s'/\h'=Az K.st s' H/\n'=n
theorem Ck.ok.ret(b:K.ok n0){T:Int->GK->Prop}{H h2:Hp}{n m:Nat}(d:n0<=n)(f:Hw H n)(e:Int)(a:GK)(c:T e a)(hh:∀j y,Az K.st a H j=some y->h2 j=some y):Ce n h2 m (AA e) (CQ K T H n):=
 .inr ⟨0,AA e,Az K.st a H,Or,by simp[C_],λj x g=>⟨hh j x g,b.clo.old a d f j x g⟩,e,a,rfl,c,rfl,rfl⟩
theorem Ck.ok.no(a:K.ok n0){T:Int->GK->Prop}{H h2:Hp}{n m:Nat}(c:n0<=n)(d:Hw H n)(s:GK)(f:∀o y,K.st s o=some y->H o=some y)(e:Int)(b:T e s)(hh:∀j y,H j=some y->h2 j=some y):Ce n h2 m (AA e) (CQ K T H n):=
 a.ret c d e s b (by rw[DF s H f];exact hh)
theorem Np(l:List Int)(x:Int):FX l++[(AA x,.bool true)]=FX (l++[x]):=by simp[FX]
theorem Ck.ok.up_ids(d:K.ok n0)(s:GK)(l:List Int){H:Hp}(e:∀o y,K.st s o=some y->H o=some y):Az K.st (l,s.2) H=h_ H K.s3 (some (.map (FX l))):=by
 have h1:=d.nd;simp only[qU,qe,vG,or_false,not_or]at h1;obtain⟨⟨a1,a2,a3,a4,a5⟩,⟨b2,b3,b4,b5⟩,⟨c3,c4,c5⟩,⟨d4,d5⟩,e5,_⟩:=h1;funext o;have g:=e o;simp only[Az,Ck.st,h_]at g ⊢;by_cases b:o=K.p;subst b;simp only[if_true]at g ⊢;rw[mw a4];exact(g _ rfl).symm;by_cases c:o=K.s3;have a:¬K.s3=K.p:=λh=>a4 h.symm;simp[c,a];simp only[b,c,if_false]at g ⊢;split;rename_i y f;exact(g y f).symm;rfl
end
def trL:Tr:=.pure 0<|.pure 1<|.pure 2<|.pure 3<|.pure 5<|.pure 6<|.pure 7<|.pure 8<|.pure 9<|.one 4<|.one 10<|.one 11<|.one 12<|.one 13 .nil
section
variable{K:Ck}{n0:Nat}
end
section
variable{K:Ck}{n0:Nat}
end
structure UM(m2:List Int)(h:AG):Prop where
 I:h.I=0\/h.I∈m2
 dlen:h.Y.length<=16
 Y:∀x∈h.Y,x.rev∈m2
 llen:h.Z.length<=64
 Z:∀x∈h.Z,x.rev∈m2
structure Nh(m2:List Int)(h:AG):Prop extends UM m2 h where
 inc:∀i (hi:i<h.Y.length),0<i->h.Y[i-1].rev<h.Y[i].rev
 mv:0<=h.move
 dmv:∀x∈h.Y,0<=x.move
section
variable{K:Ck}{n0:Nat}
end
def Jb:Nat->List AB->List Int
 | 0,_=>[]
 | N+1,l=>l.flatMap λx=>if x.x=6 then x.id::Jb N x.W else if x.x=7 then x.id::x.R.flatMap λr=>r.cells.flatMap λc=>c.id::Jb N c.W else[]
def Ks(N:Nat)(r:AL):List Int:=r.cells.flatMap λc=>c.id::Jb N c.W
def HD(N:Nat)(x:AB):List Int:=if x.x=6 then x.id::Jb N x.W else if x.x=7 then x.id::x.R.flatMap (Ks N)else[]
theorem Ot(N:Nat)(l:List AB):Jb (N+1) l=l.flatMap (HD N):=rfl
def dM(m2:List Int):Nat->List AB->Prop
 | 0,_=>True
 | N+1,l=>∀x∈l,W8 x/\Nh m2 x.H/\dM m2 N x.W/\(x.x=7->x.R≠[])/\∀r∈x.R,(Nh m2 r.H/\r.cells≠[])/\∀c∈r.cells,Nh m2 c.H/\dM m2 N c.W
theorem aK(m2:List Int)(N:Nat):dM m2 N []:=by cases N<;>simp[dM]
def trP:Tr:=.pure 0<|.pure 1<|.pure 2<|.pure 3<|.pure 4<|.pure 5<|.one 6<|.one 7 .nil
section
variable{K:Ck}{n0:Nat}
theorem EZ{α β:Type}(f:α->List β)(l:List α)(i:Nat)(h:i<l.length):(l.take (i+1)).flatMap f=(l.take i).flatMap f++f l[i]:=by
 rw[qb h,qH];simp
end
section
variable{K:Ck}{n0:Nat}
theorem Ck.ok.up_cnt(_hK:K.ok n0)(s:GK)(c:Int){H:Hp}(b:∀o y,K.st s o=some y->H o=some y):Az K.st (s.1,c) H=h_ H K.p (some (.cells (K.cells c))):=by
 funext o;have g:=b o;simp only[Az,Ck.st,h_]at g ⊢;by_cases a:o=K.p;simp[a];simp only[a,if_false]at g ⊢;split;rename_i y d;exact(g y d).symm;rfl
def D8(x:AB):List Int:=if x.x=6\/x.x=7 then[x.id]else[]
end
def io:Tr:=.pure 0<|.pure 1<|.pure 2<|.pure 4<|.pure 5<|.pure 6<|.pure 7<|.pure 9<|.pure 10<|.pure 11<|.pure 12<|.one 3<|.one 8<|.one 13<|.one 14<|.one 15<|.one 16 .nil
section
variable{K:Ck}{n0:Nat}
def Sz(N:Nat)(c:AF):List Int:=c.id::Jb N c.W
theorem Zw(N:Nat)(r:AL):Ks N r=r.cells.flatMap (Sz N):=rfl
theorem Fx{a:Int}{l:List Int}(h:BL (a::l)=0):a=0:=by
 rw[BL]at h;by_cases g:a=0;exact g;rw[mw g]at h;exact h
theorem Nd{a b:Int}{l:List Int}(h:BL (a::b::l)=0):a=0/\b=0:=by
 have h1:=Fx h;rw[BL,my h1]at h;exact⟨h1,Fx h⟩
end
def hb(h:Hp)(n:Nat)(a0:List (Int×Int))(a1 a2:List Int):Hp:=
 h_ (h_ (h_ (h_ (h_ (h_ h (n+1) (some (.map (Hx a0)))) (n+2) (some (.map (FX a1)))) (n+3) (some (.map (FX a2)))) (n+4) (some (.map []))) (n+5) (some (.map []))) (n+6) (some (.cells [.map (n+1),.map (n+2),.map (n+3),.map (n+4),.map (n+5),AA 0]))
section
variable{h:Hp}{n:Nat}{a0:List (Int×Int)}{a1 a2:List Int}
theorem QZ:hb h n a0 a1 a2 (n+6)=some (.cells [.map (n+1),.map (n+2),.map (n+3),.map (n+4),.map (n+5),AA 0]):=by simp[hb,h_]
theorem Sx:hb h n a0 a1 a2 (n+1)=some (.map (Hx a0)):=by simp[hb,h_]
theorem IZ:hb h n a0 a1 a2 (n+2)=some (.map (FX a1)):=by simp[hb,h_]
theorem Mi:hb h n a0 a1 a2 (n+3)=some (.map (FX a2)):=by simp[hb,h_]
theorem Vx:hb h n a0 a1 a2 (n+4)=some (.map []):=by simp[hb,h_]
theorem ZD:hb h n a0 a1 a2 (n+5)=some (.map []):=by simp[hb,h_]
theorem lX(b:List (Int×Int)):h_ (hb h n a0 a1 a2) (n+1) (some (.map (Hx b)))=hb h n b a1 a2:=by funext j;simp only[hb,h_];grind
theorem lY(b:List Int):h_ (hb h n a0 a1 a2) (n+2) (some (.map (FX b)))=hb h n a0 b a2:=by funext j;simp only[hb,h_];grind
theorem lZ(b:List Int):h_ (hb h n a0 a1 a2) (n+3) (some (.map (FX b)))=hb h n a0 a1 b:=by funext j;simp only[hb,h_];grind
theorem XK(a:∀j y,h j=some y->j<n):∀j y,hb h n a0 a1 a2 j=some y->j<n+7:=λj y e=>by
 have:=a j y;simp only[hb,h_]at e;grind
theorem cv(a:∀j y,h j=some y->j<n):∀j y,h j=some y->hb h n a0 a1 a2 j=some y:=λj y e=>by
 have:=a j y;simp only[hb,h_];grind
end
def iY:Tr:=.pure 0<|.pure 1<|.pure 3<|.pure 4<|.one 2<|.one 5<|.one 6<|.one 7<|.one 8 .nil
def ac:Tr:=.pure 0<|.pure 1<|.pure 2<|.pure 4<|.pure 5<|.pure 6<|.one 3<|.one 7<|.one 8<|.one 9<|.one 10<|.one 11<|.one 12<|.one 13<|.one 14<|.one 15<|.one 16<|.one 17<|.one 18<|.one 19<|.one 20<|.one 21 .nil
structure bW(N:Nat)(d:AI):Prop where
 W:dM (BG [] (d.V.map (·.id))) N d.W
 ids:∀i∈Jb N d.W,1<=i/\i<=1073741824
 nodup:(Jb N d.W).Nodup
 V:FO d.V=0
 T0 : Nh (BG [] (d.V.map (·.id))) d.T0
 endI:d.T0.I=0
def MM:Nat->List AB->Nat
 | 0,_=>0
 | N+1,l=>(l.map λx=>1+MM N x.W+(x.R.map λr=>(r.cells.map λc=>1+MM N c.W).sum).sum).sum
def Tj(N:Nat)(l:List AF):Nat:=(l.map λc=>1+MM N c.W).sum
def QP(N:Nat)(l:List AL):Nat:=(l.map λr=>Tj N r.cells).sum
def OG(N:Nat)(l:List AB):Nat:=(l.map λx=>1+MM N x.W+QP N x.R).sum
theorem Yg(N:Nat)(l:List AB):MM (N+1) l=OG N l:=rfl
theorem OF{α:Type}{f:α->Nat}{l:List α}{i:Nat}(hi:i<l.length){x:α}(a:l[i]=x):((l.take (i+1)).map f).sum=((l.take i).map f).sum+f x:=by
 rw[qb hi,a];simp
theorem US(N:Nat):∀l:List AB,l.length<=OG N l
 | []=>IO _
 | x::l=>by
  have:=US N l;simp only[OG,qi,List.sum_cons,qo]at this ⊢;omega
def LS:Nat->List AB->Prop
 | 0,_=>False
 | N+1,l=>l.length<=150/\∀x∈l,(x.J.size<=1000/\x.R.length<=20)/\LS N x.W/\∀r∈x.R,r.cells.length<=20/\∀c∈r.cells,LS N c.W
def Zq(N:Nat)(x:AB):Prop:=(x.J.size<=1000/\x.R.length<=20)/\LS N x.W/\∀r∈x.R,r.cells.length<=20/\∀c∈r.cells,LS N c.W
def ce(N:Nat)(l:List AB)(c0:Int)(p:Nat)(H:Hp)(n:Nat):SV->Hp->Nat->Prop:=λv h' n'=>∃b c,v=.bool b/\h'=h_ H p (some (.cells [AA c]))/\n'=n/\(b=true->0<=c0/\c0<=150->0<=c/\c+MM N l<=c0/\LS N l)
def ZI(N:Nat)(l:List AB):Prop:=∀(dp:Int)(p:Nat)(c0:Int)(H:Hp)(n:Nat),H p=some (.cells [AA c0])->BP prog 97 [AH l,AA dp,.ptr p 0] H n (ce N l c0 p H n)
theorem OE{α:Type}{p:α->Prop}{l:List α}{i:Nat}(hi:i<l.length){x:α}(b:l[i]=x)(h:∀y∈l.take i,p y)(h2:p x):∀y∈l.take (i+1),p y:=λy a=>by
 rw[qb hi,b]at a;rcases qd.1 a with a|a;exact h y a;rw[qw.1 a];exact h2
theorem d33(N:Nat)(l:List AB)(hl:l.length<=1048576)(hr:∀x∈l,x.H.Q.length<=1048576/\ZI N x.W/\x.R.length<=1048576/\∀r∈x.R,r.cells.length<=1048576/\∀c∈r.cells,ZI N c.W):ZI (N+1) l:=λdp p c0 H n hp=>by
 refine FF func97 rfl λho=>?_;have hpn:p<n:=(ho p _ hp).1;obtain⟨B,hB⟩:∃B:Int->Hp,∀c,B c=h_ H p (some (.cells [AA c])):=⟨_,λ_=>rfl⟩
 have hBp:∀c,B c p=some (.cells [AA c]):=λc=>by rw[hB,AE]
 have hBs:∀c c',h_ (B c) p (some (.cells [AA c']))=B c':=λc c'=>by rw[hB,hB,Ad]
 have hB0 : B c0 = H := by rw [hB]; funext j; simp only [h_]; split; · subst_vars; exact hp.symm
                           rfl
 have Ar:∀(b:Bool)(c:Int)(m:Nat),(b=true->0<=c0/\c0<=150->0<=c/\c+MM (N+1) l<=c0/\LS (N+1) l)->Ce n (B c) m (.bool b) (ce (N+1) l c0 p H n):=λb c m hb=>
  .inr ⟨0,.bool b,B c,Or,by simp[C_],λj y e=>⟨e,by
   rw[hB]at e;by_cases h:j=p;subst h;rw[AE]at e;cases e;exact⟨hpn,by simp[BH,C_,c_]⟩;rw[AD _ _ h]at e;exact ho j y e⟩,b,c,rfl,hB c,rfl,hb⟩
 have ret:∀(c:Int)(m:Nat),Ce n (B c) m (.bool false) (ce (N+1) l c0 p H n):=λc m=>Ar false c m mr;refine As 0 [(0,AH l),(1,AA dp),(2,.ptr p 0)] (B c0) n ?_ (λm hm=>?_);rw[hB0];simp[go_sem,Or];refine AV 0 (α:=Int) (λ_=>[]) (λc=>B c) (λc m=>n<=m/\(0<=c0/\c0<=150->0<=c/\c+OG N l<=c0/\∀x∈l,Zq N x)) ?_ (λc m hm=>?_);refine As 0 [(0,AH l),(1,AA dp),(2,.ptr p 0),(7,AA 0)] (B c0) n ?_ (λm hm=>?_);simp[go_sem,Or,hm];refine AP (Aq 0 (α:=Nat×Int) (λq=>[(0,AH l),(1,AA dp),(2,.ptr p 0),(7,AA q.1)]) (λq=>B q.2) (λq m=>q.1<=l.length/\n<=m/\(0<=c0/\c0<=150->0<=q.2/\q.2+OG N (l.take q.1)<=c0/\∀x∈l.take q.1,Zq N x)) (λq=>l.length-q.1) (0,c0) ⟨qj _,hm,λg=>⟨g.1,by simp[OG],by simp⟩⟩ ?_ AC ?_);simp[go_sem,look,Or];rintro⟨i,c⟩ m ⟨hi,hm,hG⟩;dsimp only at hi hG ⊢;by_cases hlt:i<l.length;obtain⟨x,hx⟩:∃x,l[i]=x:=⟨_,rfl⟩
 have hxm:x∈l:=by rw[<-hx];exact qn hlt
 obtain⟨x1,x2,x3,x4⟩:=hr x hxm;have w1:=wS i mq;refine As 0 [(0,AH l),(1,AA dp),(2,.ptr p 0),(7,AA i)] (B c) n ?_ (λm hm=>?_);simp[go_sem,Or,hm,hlt];refine AV 0 (α:=Int) (λ_=>[(0,AH l),(1,AA dp),(2,.ptr p 0),(7,AA i)]) (λc=>B c) (λc m=>n<=m/\(0<=c0/\c0<=150->0<=c/\c+OG N (l.take (i+1))<=c0/\Zq N x)) ?_ (λc m hm=>?_);refine AP ?_;refine DH 0 (α:=Int) (λ_=>[(0,AH l),(1,AA dp),(2,.ptr p 0),(7,AA i)]) (λc=>B c) (λc' m=>n<=m/\(0<=c0/\c0<=150->c'=c-1)) ?_ (λc' m hm=>?_);simp[go_sem,Or,hm,hBp,hBs];exact⟨_,λg1 g2=>by obtain⟨q1,q2,_⟩:=hG ⟨g1,g2⟩;rw[EU]<;>omega,AC⟩;obtain⟨hm,hc'⟩:=hm;refine AV 0 (α:=Int) (λ_=>[(0,AH l),(1,AA dp),(2,.ptr p 0),(7,AA i)]) (λc=>B c) (λc2 m=>n<=m/\(0<=c0/\c0<=150->0<=c2/\c2+MM N x.W<=c'/\(x.J.size<=1000/\x.R.length<=20)/\LS N x.W)) ?_ (λc m hm=>?_);refine DH 0 (α:=Bx×Int) (λq=>[(0,AH l),(1,AA dp),(2,.ptr p 0),(7,AA i),(68,.bool q.1.b)]) (λq=>B q.2) (λq m=>n<=m/\(q.1.b=false->0<=c0/\c0<=150->0<=q.2/\q.2+MM N x.W<=c'/\(x.J.size<=1000/\x.R.length<=20)/\LS N x.W)) ?_ (λq m hm=>?_);generalize c'=c at hc' ⊢;by_cases a1:c<0;simp[go_sem,Or,hm,hBp,a1];exact⟨⟨true⟩,c,by simp,rfl,AC⟩;by_cases a2:dp=0;simp[go_sem,Or,hm,hBp,a1,a2];exact⟨⟨true⟩,c,by simp,rfl,AC⟩;by_cases a3:(1000:Int)<x.J.size;simp[go_sem,Or,hm,hBp,a1,a2,hlt,hx,qy,a3];exact⟨⟨true⟩,c,by simp,rfl,AC⟩;by_cases a4:(60:Int)<x.H.Q.length;simp[go_sem,Or,hm,hBp,a1,a2,hlt,hx,qy,a3,a4];exact⟨⟨true⟩,c,by simp,rfl,AC⟩;by_cases a5:(20:Int)<x.R.length;simp[go_sem,Or,hm,hBp,a1,a2,hlt,hx,qy,a3,a4,a5];exact⟨⟨true⟩,c,by simp,rfl,AC⟩;simp[go_sem,hBp,a1,a2,hlt,hx,qy,a3,a4,a5];refine qM (x2 _ p c (B c) m (hBp c)) ?_;rintro v H' n' ⟨b,c2,rfl,rfl,rfl,hb⟩;rw[hBs];simp[go_sem,Or,hm];exact⟨⟨!b⟩,c2,λg ga gb=>by
  have g1:0<=c0/\c0<=150:=⟨ga,gb⟩
  obtain⟨q1,q2,q3⟩:=hG g1;have e1:=hc' g1;obtain⟨r1,r2,r3⟩:=hb (by simpa using g) ⟨by omega,by omega⟩;exact⟨r1,r2,⟨by omega,by omega⟩,r3⟩,rfl,AC⟩
 obtain⟨⟨b⟩,c2⟩:=q;obtain⟨hm,hb⟩:=hm;dsimp only at hb ⊢;cases b with
 | true=>exact AK (by simp[go_sem];exact ret c2 _)
 | false=>exact AK (by simp[go_sem,Or,hm];exact⟨_,λg1 g2=>hb rfl ⟨g1,g2⟩,AC⟩)
 obtain⟨hm,hx2⟩:=hm;have hts:=OF (f:=λx=>1+MM N x.W+QP N x.R) hlt hx;change OG N _=OG N _+_ at hts;obtain⟨S,hS⟩:∃S:Nat,S=OG N (l.take i)+1+MM N x.W:=⟨_,rfl⟩
 have hSt:OG N (l.take (i+1))=S+QP N x.R:=by omega
 rw[hSt];clear hts;have hG2:0<=c0/\c0<=150->0<=c/\c+S<=c0/\(x.J.size<=1000/\x.R.length<=20)/\LS N x.W:=λg=>by
  obtain⟨q1,q2,_⟩:=hG g;obtain⟨r1,r2,r3,r4⟩:=hx2 g;have:=hc' g;exact⟨r1,by omega,r3,r4⟩
 clear hG hx2 hc';refine As 0 [(0,AH l),(1,AA dp),(2,.ptr p 0),(7,AA i),(8,AA 0)] (B c) n ?_ (λm hm=>?_);simp[go_sem,Or,hm];refine AP (Aq 0 (α:=Nat×Int) (λq=>[(0,AH l),(1,AA dp),(2,.ptr p 0),(7,AA i),(8,AA q.1)]) (λq=>B q.2) (λq m=>q.1<=x.R.length/\n<=m/\(0<=c0/\c0<=150->0<=q.2/\q.2+(S+QP N (x.R.take q.1):Nat)<=c0/\∀r∈x.R.take q.1,r.cells.length<=20/\∀z∈r.cells,LS N z.W)) (λq=>x.R.length-q.1) (0,c) ⟨qj _,hm,λg=>⟨(hG2 g).1,(hG2 g).2.1,by simp⟩⟩ ?_ AC ?_);simp[go_sem,look,Or];have hx3:0<=c0/\c0<=150->(x.J.size<=1000/\x.R.length<=20)/\LS N x.W:=λg=>(hG2 g).2.2;clear hG2;rintro⟨j,c⟩ m ⟨hj,hm,hG⟩;dsimp only at hj hG ⊢;by_cases hjt:j<x.R.length;obtain⟨y,hy⟩:∃y,x.R[j]=y:=⟨_,rfl⟩
 have hym:y∈x.R:=by rw[<-hy];exact qn hjt
 obtain⟨y1,y2⟩:=x4 y hym;have w2:=wS j mq;have hts:=OF (f:=λr:AL=>Tj N r.cells) hjt hy;change QP N _=QP N _+_ at hts;obtain⟨U,hU⟩:∃U:Nat,U=S+QP N (x.R.take j):=⟨_,rfl⟩
 have hUt:S+QP N (x.R.take (j+1))=U+Tj N y.cells:=by omega
 rw[<-hU]at hG;clear hts;refine As 0 [(0,AH l),(1,AA dp),(2,.ptr p 0),(7,AA i),(8,AA j)] (B c) n ?_ (λm hm=>?_);simp[go_sem,Or,hm,hlt,hx,qy,hjt];refine AV 0 (α:=Int) (λ_=>[(0,AH l),(1,AA dp),(2,.ptr p 0),(7,AA i),(8,AA j)]) (λc=>B c) (λc m=>n<=m/\(0<=c0/\c0<=150->0<=c/\c+(S+QP N (x.R.take (j+1)):Nat)<=c0/\y.cells.length<=20/\∀z∈y.cells,LS N z.W)) ?_ (λc m hm=>?_);refine AP ?_;refine CH 0 [(0,AH l),(1,AA dp),(2,.ptr p 0),(7,AA i),(8,AA j)] (B c) (λm=>n<=m/\y.cells.length<=20) (AK ?_) (λm hm=>?_);by_cases a:(20:Int)<y.cells.length;simp[go_sem,hlt,hx,qy,hjt,hy,qR,a];exact ret c _;simp[go_sem,hlt,hx,qy,hjt,hy,qR,a,Or,hm];omega;obtain⟨hm,hyc⟩:=hm;refine As 0 [(0,AH l),(1,AA dp),(2,.ptr p 0),(7,AA i),(8,AA j),(9,AA 0)] (B c) n ?_ (λm hm=>?_);simp[go_sem,Or,hm];refine AP (Aq 0 (α:=Nat×Int) (λq=>[(0,AH l),(1,AA dp),(2,.ptr p 0),(7,AA i),(8,AA j),(9,AA q.1)]) (λq=>B q.2) (λq m=>q.1<=y.cells.length/\n<=m/\(0<=c0/\c0<=150->0<=q.2/\q.2+(U+Tj N (y.cells.take q.1):Nat)<=c0/\∀z∈y.cells.take q.1,LS N z.W)) (λq=>y.cells.length-q.1) (0,c) ⟨qj _,hm,λg=>⟨(hG g).1,(hG g).2.1,by simp⟩⟩ ?_ AC ?_);simp[go_sem,look,Or];clear hG;rintro⟨k,c⟩ m ⟨hk,hm,hG⟩;dsimp only at hk hG ⊢;by_cases hkt:k<y.cells.length;obtain⟨z,hz⟩:∃z,y.cells[k]=z:=⟨_,rfl⟩
 have hzm:z∈y.cells:=by rw[<-hz];exact qn hkt
 have z1:=y2 z hzm;have w3:=wS k mq;have hts:=OF (f:=λc:AF=>1+MM N c.W) hkt hz;change Tj N _=Tj N _+_ at hts;refine As 0 [(0,AH l),(1,AA dp),(2,.ptr p 0),(7,AA i),(8,AA j),(9,AA k)] (B c) n ?_ (λm hm=>?_);simp[go_sem,Or,hm,hlt,hx,qy,hjt,hy,qR,hkt];refine AV 0 (α:=Int) (λ_=>[(0,AH l),(1,AA dp),(2,.ptr p 0),(7,AA i),(8,AA j),(9,AA k)]) (λc=>B c) (λc m=>n<=m/\(0<=c0/\c0<=150->0<=c/\c+(U+Tj N (y.cells.take (k+1)):Nat)<=c0/\LS N z.W)) ?_ (λc m hm=>?_);refine AP ?_;refine DH 0 (α:=Int) (λ_=>[(0,AH l),(1,AA dp),(2,.ptr p 0),(7,AA i),(8,AA j),(9,AA k)]) (λc=>B c) (λc' m=>n<=m/\(0<=c0/\c0<=150->c'=c-1)) ?_ (λc' m hm=>?_);simp[go_sem,Or,hm,hBp,hBs];exact⟨_,λg1 g2=>by obtain⟨q1,q2,_⟩:=hG ⟨g1,g2⟩;rw[EU]<;>omega,AC⟩;obtain⟨hm,hc'⟩:=hm;refine DH 0 (α:=Bx×Int) (λq=>[(0,AH l),(1,AA dp),(2,.ptr p 0),(7,AA i),(8,AA j),(9,AA k),(132,.bool q.1.b)]) (λq=>B q.2) (λq m=>n<=m/\(q.1.b=false->0<=c0/\c0<=150->0<=q.2/\q.2+MM N z.W<=c'/\LS N z.W)) ?_ (λq m hm=>?_);generalize c'=c at hc' ⊢;by_cases a1:c<0;simp[go_sem,Or,hm,hBp,a1];exact⟨⟨true⟩,c,by simp,rfl,AC⟩;simp[go_sem,hBp,a1,hlt,hx,qy,hjt,hy,qR,hkt,hz,vD];refine qM (z1 _ p c (B c) m (hBp c)) ?_;rintro v H' n' ⟨b,c2,rfl,rfl,rfl,hb⟩;rw[hBs];simp[go_sem,Or,hm];exact⟨⟨!b⟩,c2,λg ga gb=>by
  have g1:0<=c0/\c0<=150:=⟨ga,gb⟩
  obtain⟨q1,q2,q3⟩:=hG g1;have e1:=hc' g1;exact hb (by simpa using g) ⟨by omega,by omega⟩,rfl,AC⟩
 obtain⟨⟨b⟩,c2⟩:=q;obtain⟨hm,hb⟩:=hm;dsimp only at hb ⊢;cases b with
 | true=>exact AK (by simp[go_sem];exact ret c2 _)
 | false=>exact AK (by simp[go_sem,Or,hm];exact⟨_,λg1 g2=>by
  obtain⟨q1,q2,_⟩:=hG ⟨g1,g2⟩;obtain⟨r1,r2,r3⟩:=hb rfl ⟨g1,g2⟩;have:=hc' ⟨g1,g2⟩;exact⟨r1,by omega,r3⟩,AC⟩)
 obtain⟨hm,hz2⟩:=hm;refine AK ?_;simp[go_sem,w3,Or,-Int.natCast_add];exact⟨k+1,by omega,c,⟨by omega,hm,λga gb=>⟨(hz2 ⟨ga,gb⟩).1,(hz2 ⟨ga,gb⟩).2.1,OE hkt hz (hG ⟨ga,gb⟩).2.2 (hz2 ⟨ga,gb⟩).2.2⟩⟩,rfl,AC⟩;refine AK ?_;have hkk:k=y.cells.length:=by omega
 rw[hkk,qp]at hG;simp[go_sem,hlt,hx,qy,hjt,hy,qR,hkt,Or,hm];exact⟨c,λg1 g2=>⟨(hG ⟨g1,g2⟩).1,by have:=(hG ⟨g1,g2⟩).2.1;omega,hyc,(hG ⟨g1,g2⟩).2.2⟩,AC⟩;obtain⟨hm,hy2⟩:=hm;refine AK ?_;simp[go_sem,w2,Or,-Int.natCast_add];exact⟨j+1,by omega,c,⟨by omega,hm,λga gb=>⟨(hy2 ⟨ga,gb⟩).1,(hy2 ⟨ga,gb⟩).2.1,OE hjt hy (hG ⟨ga,gb⟩).2.2 (hy2 ⟨ga,gb⟩).2.2⟩⟩,rfl,AC⟩;refine AK ?_;have hjj:j=x.R.length:=by omega
 rw[hjj,qp]at hG;simp[go_sem,hlt,hx,qy,hjt,Or,hm];exact⟨c,λg1 g2=>⟨(hG ⟨g1,g2⟩).1,(hG ⟨g1,g2⟩).2.1,(hx3 ⟨g1,g2⟩).1,(hx3 ⟨g1,g2⟩).2,(hG ⟨g1,g2⟩).2.2⟩,AC⟩;obtain⟨hm,hx2⟩:=hm;refine AK ?_;simp[go_sem,w1,Or,-Int.natCast_add];exact⟨i+1,by omega,c,⟨by omega,hm,λga gb=>⟨(hx2 ⟨ga,gb⟩).1,by have:=(hx2 ⟨ga,gb⟩).2.1;omega,OE hlt hx (hG ⟨ga,gb⟩).2.2 (hx2 ⟨ga,gb⟩).2.2⟩⟩,rfl,AC⟩;refine AK ?_;have hii:i=l.length:=by omega
 rw[hii,qp]at hG;simp[go_sem,hlt,hm];exact⟨c,λg1 g2=>hG ⟨g1,g2⟩,AC⟩;obtain⟨hm,hl2⟩:=hm;refine AK ?_;simp[go_sem];refine Ar true c _ λ_ g=>?_;obtain⟨q1,q2,q3⟩:=hl2 g;have:=US N l;exact⟨q1,by rw[Yg];exact q2,by omega,q3⟩
theorem cY{B:Nat}(a:B<=1048576):∀(N:Nat)(l:List AB),lim AG.l B N l->ZI N l
 | 0,_,h=>h.elim
 | N+1,l,h=>by
  obtain⟨h1,_,b⟩:=Ca.1 h;refine d33 N l mq λx e=>?_;obtain⟨a1,a2,a3,a4⟩:=b x e;exact⟨a1.Q,cY a N x.W a2,by omega,λr hr=>⟨by have:=(a4 r hr).2.1;omega,λc d=>cY a N c.W ((a4 r hr).2.2 c d).2⟩⟩
def anyE(v:SV):Prop:=∃e:Int,v=AA e
def trS:Tr:=.pure 0<|.pure 1<|.pure 3<|.pure 4<|.pure 6<|.pure 7<|.pure 9<|.pure 10<|.one 2<|.one 5<|.one 8<|.one 11<|.one 12<|.one 13<|.one 14 .nil
def fL:Tr:=.pure 0<|.pure 1<|.pure 2<|.pure 4<|.pure 5<|.pure 6<|.pure 7<|.one 3<|.one 8<|.one 9<|.one 10<|.one 11 .nil
theorem kJ(l:List FT)(i:Nat)(hi:i<l.length):PC 190 [AA i,.q [Bi l]] (AA (l[i]).id):=by
 intro h n;refine gq func190 rfl λa=>?_;simp[go_sem,hi,FT.h];exact Ar a rfl rfl
def trO:Tr:=.pure 0<|.pure 1<|.pure 3<|.pure 4<|.pure 5<|.pure 6<|.pure 7<|.one 2<|.one 8<|.one 9<|.one 10<|.one 11 .nil
theorem kN(l:List AR)(i:Nat)(hi:i<l.length):PC 195 [AA i,.q [Af l]] (AA (l[i]).id):=by
 intro h n;refine gq func195 rfl λa=>?_;simp[go_sem,hi,AR.h];exact Ar a rfl rfl
theorem kM(x y:AR):PC 194 [y.h,.q [AA x.id,AA x.parent,.str x.O,AA x.time,.str x.J,.bool x.done]] (.bool (decide (y.id=x.parent))):=by
 intro h n;refine gq func194 rfl λa=>?_;simp[go_sem,AR.h,AE];exact Bt a (Aa a (IO _) AC) (by by_cases h:y.id=x.parent<;>simp[h]) rfl
def trT:Tr:=.pure 0<|.pure 1<|.pure 3<|.pure 4<|.pure 6<|.pure 7<|.pure 11<|.pure 12<|.pure 16<|.pure 17<|.one 2<|.one 5<|.one 8<|.one 9<|.one 10<|.one 13<|.one 14<|.one 15<|.one 18<|.one 19<|.one 20<|.one 21 .nil
end Go.Proofs.YthinbkgpjmjfeaaGreatDoor.Sh
