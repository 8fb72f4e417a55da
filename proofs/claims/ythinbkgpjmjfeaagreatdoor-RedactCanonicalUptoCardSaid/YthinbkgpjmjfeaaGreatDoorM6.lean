/- A part of the proof (part 6 of 18). -/
import Derived.Test.YthinbkgpjmjfeaaGreatDoorM5
namespace Go.Proofs.YthinbkgpjmjfeaaGreatDoor.Sh
open Go.Proofs.Tryz
abbrev qI:=@SC.use
abbrev uf:=@AG.zh
abbrev wL:=@AD.zh
open Proofs
set_option maxRecDepth 10000
set_option maxHeartbeats 4000000
mutual
def AD.us:AD->List Int
 | .mk k _ _ _ h f r=>h.all++(if k=6 then AD.U f else if k=7 then AM.U r else[])
def AD.U:List AD->List Int
 | []=>[]
 | x::l=>x.us++AD.U l
def AM.us:AM->List Int
 | .mk h c=>h.all++AG.U c
def AM.U:List AM->List Int
 | []=>[]
 | x::l=>x.us++AM.U l
def AG.us:AG->List Int
 | .mk _ h f=>h.all++AD.U f
def AG.U:List AG->List Int
 | []=>[]
 | x::l=>x.us++AG.U l
end
theorem AD.zf:∀a b:List AD,AD.U (a++b)=AD.U a++AD.U b
 | [],b=>by simp[AD.U]
 | x::a,b=>by rw[qB,AD.U,AD.zf a b,AD.U,qv]
theorem AM.zf:∀a b:List AM,AM.U (a++b)=AM.U a++AM.U b
 | [],b=>by simp[AM.U]
 | x::a,b=>by rw[qB,AM.U,AM.zf a b,AM.U,qv]
theorem AG.zf:∀a b:List AG,AG.U (a++b)=AG.U a++AG.U b
 | [],b=>by simp[AG.U]
 | x::a,b=>by rw[qB,AG.U,AG.zf a b,AG.U,qv]
theorem ai{H h':Hp}{n n' s:Nat}{y:A7}(c:HQ H n)(a:s<n)(b:Ay n y=true)(hh:∀j z,h_ H s (some y) j=some z->h' j=some z):
 Cb n h' n' (.tup []) (λv h2 d=>v=.tup []/\h2=h_ H s (some y)/\d=n):=by
 refine .inr ⟨0,.tup [],_,Or,by simp[C_,c_],λo x e=>⟨hh o x e,?_⟩,rfl,rfl,rfl⟩;simp only[h_]at e;split at e;subst_vars;cases e;exact⟨a,b⟩;exact c o x e
theorem IP(n:Nat)(out:List Int):Ay n (.map (Fh out))=true:=by simp[Ay,Fh,C_]
theorem lQ:∀(N:Nat)(l:List AD),SizeOf.sizeOf l<N->l.length<=1048576->AD.G l->∀(out:List Int)(H:Hp)(n p s:Nat),H p=some (.cells [.map s])->H s=some (.map (Fh out))->
 BF prog 166 [AI l,.fn (.func 165) [] [.ptr p 0]] H n (λv h' n'=>v=.tup []/\h'=h_ H s (some (.map (Fh (BD out (AD.U l)))))/\n'=n):=by
 intro N
 induction N with
 | zero=>intro l h;omega
 | succ N ih=>
 intro l hN hl hs out H n p s hp A;refine gq func166 rfl λo=>?_;have hpn:=(o p _ hp).1;have Y:=(o s _ A).1;have f:p≠s:=by rintro rfl;rw[hp]at A;cases A
 simp[go_sem];refine A9 1 (α:=Nat) (λi=>[(1,.fn (.func 165) [] [.ptr p 0]),(10,AI l),(11,AA l.length),(12,AA i)]) (λi=>h_ H s (some (.map (Fh (BD out (AD.U (l.take i)))))))
  (λi m=>i<=l.length/\n<=m) (λi=>l.length-i) 0 ?_ ?_ ?_ ?_
 exact⟨qi _,IO n⟩;simp[look];intro j y;simp only[h_,vt,AD.U,BD,List.foldl_nil];grind;rintro i m ⟨hi,g⟩;have d:p≠m:=by omega
 have a:s≠m:=by omega
 by_cases u:i<l.length;have w1:=wS i nN;obtain⟨x,hx⟩:∃x,l[i]=x:=⟨_,rfl⟩
 have C:x∈l:=by rw[<-hx];exact qp u
 have b:=wN hs x C;have hxp:=ES b;have Z:AD.U (l.take (i+1))=AD.U (l.take i)++x.us:=by
  rw[qa u,hx,AD.zf];simp[AD.U]
 have M:BD out (AD.U (l.take (i+1)))=BD (BD out (AD.U (l.take i))) x.us:=by rw[Z,CT]
 generalize BD out (AD.U (l.take i))=o2 at M ⊢;simp[go_sem,u,hx,qz,AC];refine qI (by simpa[AF.h,AF.j]using Zz x.H hxp.1 o2 (p:=p) (s:=s) (by simp[h_,d,f,hp]) (by simp[h_,a])) ?_;rintro v h' n' ⟨rfl,rfl,rfl⟩;have k:x.us=x.H.all++(if x.l=6 then AD.U x.W else if x.l=7 then AM.U x.R else[]):=by cases x;rfl
 by_cases k6:x.l=6;have L:x.W.length<=1048576/\AD.G x.W:=by cases x;rw[AD.D]at b;exact⟨b.2.2.1,b.2.2.2.2.1⟩
 simp[go_sem,AC,AB,a.symm,k6];refine qI (ih x.W (by have:=VS C;omega) L.1 L.2 (BD o2 x.H.all) _ _ p s (by simp[h_,d,f,hp]) (by simp[h_])) ?_;rintro v h' n' ⟨rfl,rfl,rfl⟩;simp[go_sem,w1,-Int.natCast_add];refine⟨i+1,by omega,⟨by omega,by omega⟩,Or,?_⟩;rw[M,k,nS k6,CT];intro j y;have:=o j y;simp only[h_];grind;by_cases k7:x.l=7;have hxr:x.R.length<=1048576/\AM.G x.R:=by cases x;rw[AD.D]at b;exact⟨b.2.2.2.1,b.2.2.2.2.2⟩
 rw[nR k6,nS k7]at k;simp[go_sem,AC,AB,a.symm,k7];generalize O:BD o2 x.H.all=o3;refine A9 1 (α:=Nat) (λq=>[(1,.fn (.func 165) [] [.ptr p 0]),(10,AI l),(11,AA l.length),(12,AA i),(31,Ap x.R),(32,AA x.R.length),(33,AA q)]) (λq=>h_ H s (some (.map (Fh (BD o3 (AM.U (x.R.take q)))))))
  (λq m=>q<=x.R.length/\n<=m) (λq=>x.R.length-q) 0 ?_ ?_ ?_ ?_
 exact⟨qi _,by omega⟩;simp[look];intro j y;have:=o j y;simp only[h_,vt,AM.U,BD,List.foldl_nil];grind;clear d a g m;rintro q m ⟨hq,g⟩;have d:p≠m:=by omega
 have a:s≠m:=by omega
 by_cases z:q<x.R.length;have w2:=wS q nN;obtain⟨r,hr⟩:∃r,x.R[q]=r:=⟨_,rfl⟩
 have J:r∈x.R:=by rw[<-hr];exact qp z
 have K:=AM.zn hxr.2 r J;have V:AM.U (x.R.take (q+1))=AM.U (x.R.take q)++r.us:=by
  rw[qa z,hr,AM.zf];simp[AM.U]
 have hB:BD o3 (AM.U (x.R.take (q+1)))=BD (BD o3 (AM.U (x.R.take q))) r.us:=by rw[V,CT]
 have X:r.us=r.H.all++AG.U r.cells:=by cases r;rfl
 have I:r.H.D/\r.cells.length<=1048576/\AG.G r.cells:=by cases r;rw[AM.D]at K;exact K
 generalize BD o3 (AM.U (x.R.take q))=o4 at hB ⊢;simp[go_sem,z,hr,qR,AC];refine qI (by simpa[AF.h,AF.j]using Zz r.H I.1 o4 (p:=p) (s:=s) (by simp[h_,d,f,hp]) (by simp[h_,a])) ?_;rintro v h' n' ⟨rfl,rfl,rfl⟩;simp[go_sem,AC,AB,a.symm];generalize P:BD o4 r.H.all=o5;refine A9 1 (α:=Nat) (λw=>[(1,.fn (.func 165) [] [.ptr p 0]),(10,AI l),(11,AA l.length),(12,AA i),(31,Ap x.R),(32,AA x.R.length),(33,AA q),(42,Bf r.cells),(43,AA r.cells.length),(44,AA w)]) (λw=>h_ H s (some (.map (Fh (BD o5 (AG.U (r.cells.take w)))))))
  (λw m=>w<=r.cells.length/\n<=m) (λw=>r.cells.length-w) 0 ?_ ?_ ?_ ?_
 exact⟨qi _,by omega⟩;simp[look];intro j y;have:=o j y;simp only[h_,vt,AG.U,BD,List.foldl_nil];grind;clear d a g m;rintro w m ⟨hw,g⟩;have d:p≠m:=by omega
 have a:s≠m:=by omega
 by_cases B:w<r.cells.length;have w3:=wS w nN;obtain⟨c,Q⟩:∃c,r.cells[w]=c:=⟨_,rfl⟩
 have E:c∈r.cells:=by rw[<-Q];exact qp B
 have F:=AG.zn I.2.2 c E;have S:AG.U (r.cells.take (w+1))=AG.U (r.cells.take w)++c.us:=by
  rw[qa B,Q,AG.zf];simp[AG.U]
 have hC:BD o5 (AG.U (r.cells.take (w+1)))=BD (BD o5 (AG.U (r.cells.take w))) c.us:=by rw[S,CT]
 have T:c.us=c.H.all++AD.U c.W:=by cases c;rfl
 have t:c.H.D/\c.W.length<=1048576/\AD.G c.W:=by cases c;rw[AG.D]at F;exact F
 generalize BD o5 (AG.U (r.cells.take w))=o6 at hC ⊢;simp[go_sem,B,Q,vB,AC];refine qI (by simpa[AF.h,AF.j]using Zz c.H t.1 o6 (p:=p) (s:=s) (by simp[h_,d,f,hp]) (by simp[h_,a])) ?_;rintro v h' n' ⟨rfl,rfl,rfl⟩;simp[go_sem,AC,AB,a.symm];refine qI (ih c.W (by have:=VI C J E;omega) t.2.1 t.2.2 (BD o6 c.H.all) _ _ p s (by simp[h_,d,f,hp]) (by simp[h_])) ?_;rintro v h' n' ⟨rfl,rfl,rfl⟩;simp[go_sem,w3,-Int.natCast_add];refine⟨w+1,by omega,⟨by omega,by omega⟩,Or,?_⟩;rw[hC,T,CT];intro j y;have:=o j y;simp only[h_];grind;have:w=r.cells.length:=by omega
 subst this;rw[qn];simp[go_sem,w2,-Int.natCast_add];refine⟨q+1,by omega,⟨by omega,by omega⟩,Or,?_⟩;rw[hB,X,CT,P];exact AE;have:q=x.R.length:=by omega
 subst this;rw[qn];simp[go_sem,w1,-Int.natCast_add];refine⟨i+1,by omega,⟨by omega,by omega⟩,Or,?_⟩;rw[M,k,CT,O];exact AE;simp[go_sem,AC,AB,a.symm,k6,k7,w1,-Int.natCast_add];refine⟨i+1,by omega,⟨by omega,by omega⟩,Or,?_⟩;rw[M,k,nR k6,nR k7,vp];intro j y;have:=o j y;simp only[h_];grind;have:i=l.length:=by omega
 subst this;rw[qn];simp[go_sem];exact ai o Y (IP _ _) λ_ _ e=>e
section
variable{P:Program}{E:BU}{evs:Operand->SV}{o:Oper}{h:Hp}{n:Nat}{K:SV->Hp->Nat->Prop}
theorem Kl{α:Type}(f:α->Nat):∀(L:List α),(L.map f).Nodup->∀(i:Nat)(hi:i<L.length),L.filter (λx=>f x !=f L[i])=L.eraseIdx i
 | a :: L, hn, 0, hi => by
  rw[qg,qY]at hn;rw[List.filter_cons];simp only[List.getElem_cons_zero,bne_self_eq_false,qq,if_false,List.eraseIdx_cons_zero];exact vI.2 λx c=>by
   simp only[bne_iff_ne,ne_eq];intro e;exact hn.1 (e▸qb.2 ⟨x,c,rfl⟩)
 | a :: L, hn, i + 1, hi => by
  rw[qg,qY]at hn;rw[List.filter_cons];simp only[List.getElem_cons_succ,List.eraseIdx_cons_succ];have b:(f a !=f (L[i]'(by simpa using hi)))=true:=by
   simp only[bne_iff_ne,ne_eq];intro e;exact hn.1 (e▸qb.2 ⟨_,qp _,rfl⟩)
  rw[nS b,Kl f L hn.2 i (by simpa using hi)]
theorem Lw{t:TypeId}{x:Operand}{m:Nat}{es:List (SV×SV)}(v:o.op=.range t x)(ht:(JF P t).isSome=true)(D:evs x=.map m)(hm:h m=some (.map es))
 (hk:K (.ptr n 0) (h_ (h_ h m none) n (some (.iter es none))) (n+1)):Ff E P evs o h n K:=by
 refine⟨by rw[v];simp,λc ev _ _ R F hv=>?_⟩;have k:=hv x;rw[D,V]at k;obtain⟨bm,hρ,r⟩:=k;obtain⟨b',d,a,g1,q,g3,A⟩:=R.obj _ _ hm;rw[hρ]at g1;cases g1;obtain⟨⟨kt,e⟩,ht⟩:=vR.1 ht;have C:=Ec ht;have s:(getObj bm).run P c.w=.ok (.map d a) c.w:=by simp[getObj,Sem.run,q]
 have i:(execOp ev o).run P c.w=.ok (.value (.pointer (some ⟨c.w.heap.size,0,none⟩))) (c.w.alloc (.mapIter (some bm) a #[] a)):=by
  simp[execOp,v,Instr.range,AL C,r,s]
 have y:=R.kill m hm;have f:(c.kill m).ρ n=none:=F n (IO _);have l:=c.kill_ext m;have u:bm<c.w.heap.size:=(qe.1 q).1;have p:=(c.kill m).zd n (.mapIter (some bm) a #[] a) f;have z:=y.alloc f (x:=.iter es none) (b:=.mapIter (some bm) a #[] a) ⟨c.w.heap.size,bm,d,a,#[],by simp[Cx.alloc,Cx.kill],by simp[Cx.alloc,Cx.kill,Bt],
  by simp[Cx.alloc,Cx.kill,Bt,vJ,wH u,q],by
   simp only[Cx.alloc,Cx.kill];rintro(h1|h1);exact h1.2 0 hρ;omega,A,by
   have:(d.toList.filter λe=>!(#[]:Array Nat).contains e.born)=d.toList:=vI.2 λ_ _=>by simp
   rw[this];exact ue (λ_ _ g=>⟨wK (l.trans p) g.1,wK (l.trans p) g.2⟩) g3,by simp⟩
 refine⟨_,.ptr n 0,_,n+1,(c.kill m).alloc n (.mapIter (some bm) a #[] a),by rw[i];rfl,?_,z,λj B=>?_,⟨l.trans p,vP n,λj B=>?_⟩,hk⟩;rw[V];exact⟨c.w.heap.size,0,by simp[Cx.alloc,Cx.kill],rfl⟩;simp only[Cx.alloc,Cx.kill];rw[nR nN];exact F j nN;simp only[Cx.alloc,Cx.kill];rw[nR nN]
theorem Lu{x:Operand}{q:Nat}{left:List (SV×SV)}{p:SV×SV}(u:o.op=.entry x)(B:evs x=.ptr q 0)(A:h q=some (.iter left (some p)))
 (hk:K (.tup [p.1,p.2]) h n):Ff E P evs o h n K:=by
 refine⟨by rw[u];simp,λc ev _ _ R F hv=>?_⟩;have i:=hv x;rw[B,V]at i;obtain⟨b,st,hρ,m⟩:=i;obtain⟨b',bm,f,d,j,g1,v,g3,g4,z,g6,g7⟩:=R.obj _ _ A;rw[hρ]at g1;cases g1;obtain⟨e,C,D,G,H⟩:=g7 p rfl;have s:(getObj b).run P c.w=.ok (.mapIter (some bm) d j d) c.w:=by simp[getObj,Sem.run,v]
 have r:(getObj bm).run P c.w=.ok (.map f d) c.w:=by simp[getObj,Sem.run,g3]
 have g:f.find? (λy=>y.born==e.born)=some e:=by
  rw[<-Array.find?_toList];have:∀l:List MapEntry,(l.map (·.born)).Nodup->e∈l->l.find? (λy=>y.born==e.born)=some e:=by
   intro l
   induction l with
   | nil=>intro _ h;cases h
   | cons a l ih=>
    intro t k;rw[qg,qY]at t;rw[List.find?_cons];rcases qd.1 k with rfl|k;simp;have:(a.born==e.born)=false:=by
     simp only[beq_eq_false_iff_ne,ne_eq];intro h2;exact t.1 (h2▸qb.2 ⟨e,k,rfl⟩)
    rw[this];exact ih t.2 k
  exact this _ z.2 C
 refine⟨.tuple #[e.key,e.val],.tup [p.1,p.2],h,n,c,?_,by simp only[V,VL];exact⟨_,rfl,_,_,rfl,G,_,_,rfl,H,rfl⟩,R,F,wD n c,hk⟩;simp[execOp,u,Instr.entry,m,s,D,r,g]
theorem LF{x:Operand}{q:Nat}{left:List (SV×SV)}{last:Option (SV×SV)}(ho:o.op=.next x false)(hx:evs x=.ptr q 0)(hq:h q=some (.iter left last))
 (hk:∀(i:Nat)(hi:i<left.length),K (.tup [.bool true,left[i].1,left[i].2]) (h_ h q (some (.iter (left.eraseIdx i) (some left[i])))) n) (h0:left=[]->K (.tup [.bool false]) h n):Ff E P evs o h n K:=by
 refine⟨by rw[ho];simp,λc ev _ _ R F hv=>?_⟩;have hvx:=hv x;rw[hx,V]at hvx;obtain⟨b,st,hρ,hev⟩:=hvx;obtain⟨b',bm,ents,clock,seen,g1,g2,g3,g4,g5,g6,g7⟩:=R.obj _ _ hq;rw[hρ]at g1;cases g1;have hgo:(getObj b).run P c.w=.ok (.mapIter (some bm) clock seen clock) c.w:=by simp[getObj,Sem.run,g2]
 have hgm:(getObj bm).run P c.w=.ok (.map ents clock) c.w:=by simp[getObj,Sem.run,g3]
 have hgone:(!seen.isEmpty && !ents.isEmpty&&ents.all λy=>decide (y.born ≥ clock))=false:=by
  cases he:ents.isEmpty with
  | true=>simp
  | false =>
   have hne:0<ents.size:=by rcases Nat.eq_zero_or_pos ents.size with h|h;simp[Array.isEmpty,h]at he;exact h
   have:(ents.all λy=>decide (y.born ≥ clock))=false:=by
    rw[Array.all_eq_false];refine⟨0,hne,?_⟩;have:=g5.1 ents[0] nO;simp;exact this
   simp[this]
 generalize hL:ents.filter (λy=>!seen.contains y.born)=L;have hLl:L.toList=ents.toList.filter λe=>!seen.contains e.born:=by rw[<-hL];simp
 have Ar:L.filter (λy=>decide (y.born<clock))=L:=by
  apply wI;rw[Array.toList_filter];exact vI.2 λy hy=>by
   rw[hLl]at hy;simpa using g5.1 y (qZ.1 hy).1
 have hnew:L.filter (λy=>decide (y.born ≥ clock)) = #[]:=by
  apply wI;rw[Array.toList_filter];exact List.filter_eq_nil_iff.2 λy hy=>by
   rw[hLl]at hy;simpa using g5.1 y (qZ.1 hy).1
 rw[<-hLl]at g6;have hlen:left.length=L.size:=by have:=g6.length;simpa using this
 by_cases hz:L.size=0
 . have hl0:left=[]:=List.eq_nil_of_length_eq_zero nN;have hL0:L = #[]:=Array.eq_empty_of_size_eq_zero hz;refine⟨.tuple #[.bool false],.tup [.bool false],h,n,c,?_,by simp[V,VL],R,F,wD n c,h0 hl0⟩;subst hL0;simp only[execOp,ho,Instr.next,hev,ww,Sem.run_bind,Sem.run_pure,hgo,Result.andThen_ok,hgm,hgone,qq,if_false,hL,Ar,hnew];simp[Question.forced]
 . have hch:∃i w1,(choose (.mapNext L.size)).run P c.w=.ok i w1/\i<L.size/\(w1=c.w\/w1=c.w.drew):=by
    rw[run_choose_drew];by_cases hf:(Question.mapNext L.size).forced=true;rw[nS hf];exact⟨0,_,rfl,by omega,.inl rfl⟩;rw[nR hf];exact⟨_,_,rfl,Nat.mod_lt _ nN,.inr rfl⟩
   obtain⟨i,w1,hch,hi,hw1⟩:=hch;obtain⟨c1,hc1,X1,R1,F1,hρ1⟩:∃c1:Cx,c1.w=w1/\DF c c1/\Bk h c1/\Fr n c1/\c1.ρ=c.ρ:=by
    rcases hw1 with rfl|rfl;exact⟨c,rfl,wR c,R,F,rfl⟩;exact⟨c.drew,rfl,c.zc,R.drew,λj hj=>F j hj,rfl⟩
   subst hc1;have hh1:c1.w.heap=c.w.heap:=by rcases hw1 with e|e<;>rw[e]<;>rfl
   have hil:i<left.length:=by omega
   obtain⟨e,he,hr1,hr2⟩:=g6.get (i:=i) (a:=left[i]) (by simp[hil]);have heL:L[i]? = some e:=by simpa using he
   have hemem:e∈ents.toList:=by
    have:=vE he;rw[hLl]at this;exact(qZ.1 this).1
   have hisE:L.isEmpty=false:=by cases hb:L.isEmpty with|false=>rfl|true=>(simp at hb;subst hb;simp at hz)
   have hblt:b<c.w.heap.size:=(qe.1 g2).1;have hset':∀ob:Obj,(setObj b ob).run P c1.w=.ok () { c1.w with heap:=c1.w.heap.setIfInBounds b ob }:=λob=>by simp[setObj,Sem.run,hh1,g2]
   have hrun:(execOp ev o).run P c.w=.ok (.value (.tuple #[.bool true,e.key,e.val])) { c1.w with heap:=c1.w.heap.setIfInBounds b (.mapIter (some bm) clock (seen.push e.born) clock) }:=by
    have hcand:((if L.isEmpty then #[none]else #[])++(L ++ #[]).map some:Array (Option MapEntry))=L.map some:=by simp[hisE]
    simp only[execOp,ho,Instr.next,hev,ww,Sem.run_bind,Sem.run_pure,hgo,Result.andThen_ok,hgm,hgone,qq,if_false,hL,Ar,hnew,hcand,Array.size_map,hch];simp[heL,hset']
   have hbm:bm≠b:=by rintro rfl;rw[g2]at g3;cases g3
   obtain⟨R2,X2⟩:=R1.write (w':={ c1.w with heap:=c1.w.heap.setIfInBounds b (.mapIter (some bm) clock (seen.push e.born) clock) }) (y:=.iter (left.eraseIdx i) (some left[i])) hq (by rw[hρ1];exact hρ) nO
    (λb' hb'=>by simp[vH (Ne.symm hb')]) (by simp[rm,hh1,g2]) rfl rfl (λX=>by
      have XX:=X1.trans X;refine⟨b,bm,ents,clock,seen.push e.born,by show c1.ρ q=_;rw[hρ1];exact hρ,by simp[hh1,hblt],?_,?_,g5,?_,?_⟩;show(c1.w.heap.setIfInBounds b _)[bm]? = _;rw[vH hbm.symm,hh1];exact g3;exact λhb=>(XX.keep bm (qe.1 g3).1 g4).1 hb;have hnd:(L.toList.map (·.born)).Nodup:=by rw[hLl];exact g5.2.sublist (List.filter_sublist.map _)
      have hee:L.toList[i]'(by simpa using hi)=e:=by
       have:=(qu.1 he).2;exact this
      have h1:=Kl (λx:MapEntry=>x.born) L.toList hnd i (by simpa using hi);rw[hee]at h1;have h2:(ents.toList.filter λx=>!(seen.push e.born).contains x.born)=L.toList.filter λx=>x.born !=e.born:=by
       rw[hLl,List.filter_filter];congr 1;funext x;by_cases hx:x.born=e.born<;>simp[hx]
      rw[h2,h1];exact ue (λ_ _ g=>⟨wK XX g.1,wK XX g.2⟩) (AT.eraseIdx i g6);intro p hp;cases hp;exact⟨e,hemem,by simp,wK XX hr1,wK XX hr2⟩)
   exact⟨_,.tup [.bool true,left[i].1,left[i].2],_,n,_,hrun,by
    have XX:=X1.trans X2;simp only[V,VL];exact⟨_,rfl,_,_,rfl,rfl,_,_,rfl,wK XX hr1,_,_,rfl,wK XX hr2,rfl⟩,R2,λj hj=>F1 j hj,⟨X1.trans X2,IO _,λj _=>by show c1.ρ j=_;rw[hρ1]⟩,hk i hil⟩
end
structure YK(E:BU)(l:Nat)(ks0:List Int)(J:List Int->(Nat->Prop)->Hp->Nat->Prop):Prop where
 step:∀ks x D h m,(∃rest,(ks++[x]++rest).Perm ks0)->J ks D h m->Fm E prog l [AA x] h m (Tv (J (ks++[x])) (λ_ _ _=>False) D h m)
 keep:∀ks D h m h' m',J ks D h m->m<=m'->(∀o,D o->h' o=h o)->J ks D h' m'
 lt:∀ks D h m,J ks D h m->∀o,D o->o<m
theorem FU{α β:Type}(f:α->β):∀(l:List α)(i:Nat),(l.eraseIdx i).map f=(l.map f).eraseIdx i
 | [],_=>by simp
 | a::l,0=>by simp
 | a::l,i+1=>by simp[FU f l i]
theorem I5{α:Type}:∀(l:List α)(i:Nat)(hi:i<l.length),(l[i]::l.eraseIdx i).Perm l
 | a::l,0,_=>by simp
 | a::l,i+1,hi=>by
  have b:=I5 l i (by simpa using hi);simp only[List.getElem_cons_succ,List.eraseIdx_cons_succ];exact(List.Perm.swap _ _ _).trans (b.cons a)
theorem N3{c b a:List Int}(h:(c++b).Perm a){i:Nat}(hi:i<b.length):(c++[b[i]]++b.eraseIdx i).Perm a:=by
 refine List.Perm.trans ?_ h;rw[qv];refine List.Perm.append_left c ?_;exact I5 b i hi
section
variable{E:BU}{yl:Nat}{J:List Int->(Nat->Prop)->Hp->Nat->Prop}
theorem kX{d:List Int}(Y:YK E yl d J)(es:List (SV×SV))(hk:es.map (·.1)=d.map AA){H:Hp}{n q s:Nat}{D:Nat->Prop}(K:H q=some (.cells [.map s]))(L:H s=some (.map es))(z:¬D s)(G:J [] D H n):
 Ab E prog 216 [.fn (.yield yl) [] [],.ptr q 0] H n (λ_ h' m'=>∃k D',k.Perm d/\n<=m'/\(∀o,D' o->D o\/(n<=o/\o<m'))/\(∀o,¬D o->o<n->o≠s->h' o=H o)/\J k D' h' m'):=by
 refine gq func216 rfl λI=>?_;have hqn:=(I q _ K).1;have hsn:=(I s _ L).1;have r:=Y.lt _ _ _ _ G;simp[go_sem,K];refine Lw (m:=s) (es:=es) rfl nP nP L ?_;simp[go_sem];refine A9 1 (α:=(List Int×List Int)×(List (SV×SV)×Option (SV×SV))×(Nat->Prop)×Hp) (λa=>[(0,.fn (.yield yl) [] []),(5,.ptr n 0)]) (λa=>a.2.2.2)
  (λa m=>n<m/\a.2.2.2 n=some (.iter a.2.1.1 a.2.1.2)/\a.2.1.1.map (·.1)=a.1.2.map AA/\(a.1.1++a.1.2).Perm d/\J a.1.1 a.2.2.1 a.2.2.2 m/\(∀o,a.2.2.1 o->D o\/(n<o/\o<m))/\(∀o,¬D o->o<n->o≠s->a.2.2.2 o=H o)) (λa=>a.1.2.length)
  (([],d),(es,none),D,h_ (h_ H s none) n (some (.iter es none))) ?_ ?_ AE ?_
 refine⟨ve n,AC _ _ _,hk,List.Perm.refl _,Y.keep _ _ _ _ _ _ G (vP n) λo g=>?_,λo g=>.inl g,λo g1 F g3=>?_⟩;have:=r o g;show h_ (h_ H s none) n _ o=H o;rw[AB _ _ nN,AB _ _ (by rintro rfl;exact z g)];show h_ (h_ H s none) n _ o=H o;rw[AB _ _ nN,AB _ _ g3];simp[look];rintro⟨⟨k,j⟩,⟨left,last⟩,x,h2⟩ m ⟨C,ZN,f,b,h,c,Ar⟩;dsimp only at ZN f b h c Ar ⊢;have w:¬x n:=λg=>by rcases c n g with g|g;have:=r n g;omega;omega
 have B:left.length=j.length:=by have:=congrArg List.length f;simpa using this
 simp[go_sem];refine LF (q:=n) (left:=left) (last:=last) rfl nP ZN (λi hi=>?_) λh0=>?_;have e:i<j.length:=by omega
 have O:left[i].1=AA j[i]:=by
  have:=congrArg (λl=>l[i]?) f;simpa[hi,e]using this
 simp[go_sem];refine Lu (q:=n) (left:=left.eraseIdx i) (p:=left[i]) rfl nP (AC _ _ _) ?_;simp[go_sem,O];refine Fm.mono (Y.step k j[i] x _ _ ⟨_,N3 b e⟩ (Y.keep _ _ _ _ _ _ h (IO m) λo g=>AB _ _ (by rintro rfl;exact w g))) ?_;rintro v N m3 ⟨hm3,M,y,t,⟨rfl,A⟩|⟨_,A⟩⟩;simp[go_sem];refine⟨k++[j[i]],j.eraseIdx i,by rw[List.length_eraseIdx];simp[e];omega,left.eraseIdx i,some left[i],M,N,⟨by omega,?_,?_,?_,A,λo g=>?_,λo g1 F g3=>?_⟩,AE⟩;rw[t n w C];exact AC _ _ _;rw[FU,FU,f];exact N3 b e;rcases y o g with g|g;rcases c o g with g|g;exact .inl g;exact .inr nN;exact .inr nN;have:¬x o:=λg=>by rcases c o g with g|g;exact g1 g;omega
 rw[t o this nN,AB _ _ nN];exact Ar o g1 F g3;exact A.elim;have u:j=[]:=List.eq_nil_of_length_eq_zero (by rw[<-B,h0];rfl);subst u;simp[go_sem];refine .inl ⟨k,by simpa using b,by omega,x,λo g=>?_,Ar,h⟩;rcases c o g with g|g;exact .inl g;exact .inr nN
end
theorem lV(es:List (SV×SV))(c:List Int)(hk:es.map (·.1)=c.map AA)(hlen:c.length<=1048576){H:Hp}{n q s:Nat}(z:H q=some (.cells [.map s]))(r:H s=some (.map es)):
 BF prog 256 [.x 0 [] true,.fn (.func 216) [] [.ptr q 0]] H n (λv h' n'=>∃a:List Int,a.Perm c/\M7 1 (a.map AA) (h_ H s none) n v h' n'):=by
 refine goM func256 rfl nQ nQ nP λw B=>?_;have hqn:=(w q _ z).1;have hsn:=(w s _ r).1;have hqs:q≠s:=by rintro rfl;rw[z]at r;cases r
 simp[go_sem];refine He rfl rfl rfl λE1 l R F=>?_;let J:List Int->(Nat->Prop)->Hp->Nat->Prop:=λa D hh m=>∃o:Option Nat,D=(λj=>j=n\/j=n+1\/o=some j)/\n+1<m/\hh n=some (.cells [AQ 1 o (a.map AA)])/\hh (n+1)=some (.loop (R .ready none))/\BG (n+2) m 1 o (a.map AA)/\∀j,o=some j->hh j=some (.cells (a.map AA));have Y:YK E1 l c J:=by
  refine⟨?_,?_,?_⟩
  . rintro a x D hh m ⟨rest,hp⟩ ⟨o,u,t,g1,b,g3,h⟩;have hkl:a.length+1<=1048576:=by have:=hp.length_eq;simp at this;omega
    refine F _ _ _ _ b rfl (Lp ?_);have A:n≠m:=by omega
    have e2:n+1≠m:=by omega
    have C:n≠m+1:=by omega
    have k:∀j,o=some j->n+2<=j/\j<m:=λj e=>g3.lt j e;simp[go_sem,Ic,AB,g1,b];rw[T5 (x:=x) g3 nN (by simp[h_]) (by
     intro j e;have:=k j e;have:=h j e;simp only[h_];grind)]
    have done:∀(f:Hp)(o2:Nat),o2=m+1->(∀j,¬(j=n\/j=n+1\/o=some j)->j<m->f j=hh j)->f n=some (.cells [.sl o2 0 1 (a.length+1) false])->f o2=some (.cells (a.map AA++[AA x]))->f (n+1)=some (.loop (R .busy none))->
     ∀sa,Ln (n+1) R (Tv (J (a++[x])) (λ_ _ _=>False) D hh m) .normal sa f (m+1+1):=by
     rintro f o2 rfl I K L M sa;subst u;refine⟨M,by omega,λj=>j=n\/j=n+1\/some (m+1)=some j,λj g=>?_,λj g1 b=>?_,.inl ⟨rfl,some (m+1),rfl,by omega,?_,AC _ _ _,?_,λj e=>?_⟩⟩;rcases g with g|g|g;exact .inl (.inl g);exact .inl (.inr (.inl g));cases g;exact .inr nN;rw[AB _ _ (λe=>g1 (.inr (.inl e)))];exact I j g1 b;rw[AB _ _ nN,K];simp[AQ];rw[qc];exact g3.push rfl rfl nN nN;cases e;rw[AB _ _ nN,L,qc];rfl
    cases o with
    | none=>
     simp[go_sem,AB,g1,A,C,AQ];refine done _ _ rfl (λj h1 h2=>?_) ?_ ?_ ?_ _;simp only[h_];grind;simp only[h_];grind;simp only[h_];grind;simp only[h_];grind
    | some j=>
     have hj:=k j rfl;have E:n≠j:=by omega
     simp[go_sem,AB,g1,A,E,C,AQ];refine done _ _ rfl (λj h1 h2=>?_) ?_ ?_ ?_ _;simp only[h_];grind;simp only[h_];grind;simp only[h_];grind;simp only[h_];grind
  rintro a D hh m h' m' ⟨o,rfl,t,g1,b,g3,h⟩ hm p;exact⟨o,rfl,by omega,by rw[p _ (.inl rfl)];exact g1,by rw[p _ (.inr (.inl rfl))];exact b,g3.mono hm,λj e=>by rw[p _ (.inr (.inr e))];exact h j e⟩;rintro a D hh m ⟨o,rfl,t,g1,b,g3,h⟩ j (rfl|rfl|e);omega;omega;exact(g3.lt j e).2
 refine wn (kX Y es hk (D:=λj=>j=n\/j=n+1) (s:=s) ?_ ?_ ?_ ?_) ?_;simp[h_];rw[nR nN,nR nN];exact z;simp[h_];rw[nR nN,nR nN];exact r;omega;exact⟨none,by simp,by omega,by simp[h_,AQ],by simp[h_],wF _ _ _,by simp⟩;rintro _ h' m' ⟨a,D',d,hm,p,Ar,o,rfl,t,g1,b,g3,h⟩;refine⟨_,_,b,by simp,?_⟩;simp[go_sem,AB,g1];refine .inl ⟨a,d,by omega,λj y e=>?_,?_⟩;have i:j≠s:=by rintro rfl;simp[h_]at e
 rw[AB _ _ i]at e;have:=(w j y e).1;rw[AB _ _ nN,Ar j nN nN i,AB _ _ nN,AB _ _ nN,e];cases o with
 | none=>
  have G:=g3.none rfl;exact .inl ⟨G,0,true,rfl⟩
 | some j=>
  have:=g3.lt j rfl;exact .inr ⟨j,false,by omega,by omega,by simp[AQ],by rw[AB _ _ nN,Hq];exact h j rfl⟩
theorem lS(es:List (SV×SV))(a:List Int)(hk:es.map (·.1)=a.map AA)(b:a.length<=1048576){H:Hp}{n q s:Nat}(e:H q=some (.cells [.map s]))(f:H s=some (.map es)):
 BF prog 214 [.fn (.func 216) [] [.ptr q 0]] H n (λv h' n'=>∃c:List Int,c.Perm a/\M7 1 (c.map AA) (h_ H s none) n v h' n'):=by
 refine gq func214 rfl λho=>?_;simp[go_sem];refine qI (lV es a hk b e f) ?_;rintro v h' n' ⟨c,hp,d⟩;simp[go_sem];exact .inl ⟨c,hp,d⟩
theorem OE{a b:List Int}(h:a.Perm b):FG a=FG b:=by
 have tr:∀x y z:Int,decide (x<=y)=true->decide (y<=z)=true->decide (x<=z)=true:=λx y z h1 h2=>by simp only[decide_eq_true_eq]at *;exact Int.le_trans h1 h2
 have to:∀x y:Int,(decide (x<=y)||decide (y<=x))=true:=λx y=>by simp only[vU,decide_eq_true_eq];exact Int.le_total x y
 refine List.Perm.eq_of_pairwise (le:=λx y=>decide (x<=y)=true) (λx y _ _ h1 h2=>?_) (wu tr to a) (wu tr to b) (((List.mergeSort_perm a _).trans h).trans (List.mergeSort_perm b _).symm);simp only[decide_eq_true_eq]at h1 h2;exact Int.le_antisymm h1 h2
theorem lR(es:List (SV×SV))(a:List Int)(hk:es.map (·.1)=a.map AA)(c:a.length<=1048576){H:Hp}{n q s:Nat}(p:H q=some (.cells [.map s]))(k:H s=some (.map es)):
 BF prog 167 [.fn (.func 216) [] [.ptr q 0]] H n (M7 1 ((FG a).map AA) (h_ H s none) n):=by
 refine gq func167 rfl λi=>?_;simp[go_sem];refine qI (lS es a hk c p k) ?_;rintro v h' n' ⟨l,hp,b,Ar,hv⟩;have hkl:=hp.length_eq;rcases hv with⟨h,m,full,rfl⟩|⟨o,full,h1,h2,rfl,g⟩
 simp[go_sem];refine(gD m full).use ?_;simp[go_sem];simp only[vV]at h;subst h;have:a=[]:=by simpa using hp.symm
 subst this;exact .inl ⟨b,Ar,.inl ⟨by simp[FG],m,full,rfl⟩⟩;simp[go_sem];rw[Hq]at g;refine qI (lT l nN g) ?_;rintro v h4 n4 ⟨rfl,rfl,rfl⟩;simp[go_sem];have hos:o≠s:=by have:=(i s _ k).1;omega
 refine .inl ⟨b,λj y e=>?_,.inr ⟨o,full,h1,h2,?_,?_⟩⟩;have d:j≠s:=by rintro rfl;simp[h_]at e
 have f:=e;rw[AB _ _ d]at f;have:=(i j y f).1;rw[AB _ _ nN];exact Ar j y e;have:(FG a).length=l.length:=by rw[<-OE hp];exact wh _
 simp[this];rw[AC,OE hp,Hq]
theorem gS{H:Hp}{n s:Nat}:BF prog 168 [.map s] H n (λv h' n'=>v=.fn (.func 216) [] [.ptr n 0]/\h'=h_ H n (some (.cells [.map s]))/\n'=n+1):=by
 refine gq func168 rfl λho=>?_;simp[go_sem];exact .inl ⟨rfl,rfl,rfl⟩
def GM(d:AH):List Int:=FG ((BD [] (AD.U d.W++d.T0.all)).filter λx=>decide (x≠0))
theorem Xc:∀{l:List Int} (x:Int),l.Nodup->∀(_i j:Nat),l[j]? = some x->(Fh l).eraseIdx j=Fh (l.filter λy=>decide (y≠x))
 | [],x,_,i,j,h=>by simp at h
 | a :: l, x, hn, i, 0, h => by
  rw[qY]at hn;simp only[vY,ql]at h;subst h;have:(a::l).filter (λy=>decide (y≠a))=l:=by
   rw[List.filter_cons];simp only[ne_eq,not_true,decide_false,qq,if_false];exact vI.2 λy e=>by simp only[decide_eq_true_eq];rintro rfl;exact hn.1 e
  rw[this];simp[Fh]
 | a::l,x,hn,i,j+1,h=>by
  rw[qY]at hn;have c:l[j]? = some x:=by simpa using h
  have b:a≠x:=by rintro rfl;exact hn.1 (vE c)
  have d:=Xc x hn.2 i j c;rw[List.filter_cons];simp only[ne_eq,b,not_false_eq_true,decide_true,if_true];simp only[Fh,qg,List.eraseIdx_cons_succ]at d ⊢;rw[d]
theorem Xd{l:List Int}{x:Int}(h:x∉l):(l.filter λy=>decide (y≠x))=l:=vI.2 λy a=>by simp only[decide_eq_true_eq];rintro rfl;exact h a
theorem c74(d:AH)(r:d.W.length<=1048576)(t:AD.G d.W)(m:d.T0.D)(u:(BD [] (AD.U d.W++d.T0.all)).length<=1048576):PC 103 [d.h] (.x 1 ((GM d).map AA) false):=by
 intro h n;refine gq func103 rfl λg=>?_;have e1:n+1+1≠n:=by omega
 have e2:n+1≠n:=by omega
 have e3:n+1+1≠n+1:=by omega
 simp[go_sem,AH.h,AF.j,AO.j,AC,AB,qw];refine qI (lQ (SizeOf.sizeOf d.W+1) d.W (ve _) r t [] _ _ (n+2) (n+1) (by simp[h_]) (by simp[h_,Fh])) ?_;rintro v h' n' ⟨rfl,rfl,rfl⟩;simp[go_sem,AC,AB];refine qI (by simpa[AF.h,AF.j]using Zz d.T0 m (BD [] (AD.U d.W)) (p:=n+2) (s:=n+1) (by simp[h_]) (by simp[h_])) ?_;rintro v h' n' ⟨rfl,rfl,rfl⟩;rw[<-CT];have c:=Jv (AD.U d.W++d.T0.all) [] List.nodup_nil;have i:GM d=FG ((BD [] (AD.U d.W++d.T0.all)).filter λx=>decide (x≠0)):=rfl;generalize BD [] (AD.U d.W++d.T0.all)=out at c u i ⊢;have fin:∀(b:Hp),b (n+2)=some (.cells [.map (n+1)])->b (n+1)=some (.map (Fh (out.filter λx=>decide (x≠0))))->(∀j,j<n->b j=h j)->(∀K:SV->Hp->Nat->Prop,(∀v h' n',Cb n h' n' v (Is (.x 1 ((GM d).map AA) false) h n)->K v h' n')->
  Ab (BU.plain.call false 0) prog 167 [.fn (.func 216) [] [.ptr (n+3) 0]] (h_ b (n+3) (some (.cells [.map (n+1)]))) (n+4) K):=λb a1 a2 a3 K l=>by
  have f:(out.filter λx=>decide (x≠0)).length<=1048576:=by have:=vA (λx=>decide (x≠0)) out;omega
  refine qI (lR (Fh (out.filter λx=>decide (x≠0))) (out.filter λx=>decide (x≠0)) (by simp[Fh]) f (s:=n+1) (by simp[h_]) (by rw[AB _ _ (show n+1≠n+3 by omega)];exact a2)) ?_;rintro v h' n' ⟨hle,Ar,hv⟩;rw[<-i]at hv;have hh:∀j y,h j=some y->h' j=some y:=λj y e=>by
   have:=(g j y e).1;refine Ar j y ?_;rw[AB _ _ nN,AB _ _ nN,a3 j this,e]
  refine l _ _ _ ?_;rcases hv with⟨h1,z',full,rfl⟩|⟨o,full,h1,h2,rfl,k⟩
  rw[h1];exact QD g hh nO rfl;exact dz dR (full:=full) g hh (show n<=o by omega) nO k
 by_cases hm:(0:Int)∈out;obtain⟨j,h1,h2⟩:=Dy 0 hm;rw[qW]at h1;have a:=Xc 0 c 0 j h2;simp[go_sem,AC,AB,h1,BN];refine qI gS ?_;rintro v h' n' ⟨rfl,rfl,rfl⟩;simp[go_sem];refine fin _ ?_ ?_ ?_ _ ?_;simp[h_];rw[<-a];simp[h_];intro j q;simp only[h_];grind;intro v h' n' hr;simp[go_sem];exact hr;have h1:=Et 0 hm;have a:=Xd hm;simp[go_sem,AC,AB,h1,BN];refine qI gS ?_;rintro v h' n' ⟨rfl,rfl,rfl⟩;simp[go_sem];refine fin _ ?_ ?_ ?_ _ ?_;simp[h_];rw[a];simp[h_];intro j q;simp only[h_];grind;intro v h' n' hr;simp[go_sem];exact hr
def Ik(z:Nat)(es:List SV)(v:SV)(o:Option Nat)(n m:Nat):Prop:=
 (o=none/\es=[]/\∃z' f,v=.x z' [] f)\/∃j f,o=some j/\n<=j/\j<m/\v=.sl j 0 z es.length f
def E3(es:List SV)(o:Option Nat)(h:Hp):Hp:=match o with|none=>h|some j=>h_ h j (some (.cells (es.flatMap SV.cells)))
theorem Ik.st{z:Nat}{es:List SV}{v:SV}{o:Option Nat}{n m:Nat}(H:Ik z es v o n m):v.B=true/\v.cells=[v]:=by
 rcases H with⟨_,_,z',f,rfl⟩|⟨j,f,_,_,_,rfl⟩<;>exact⟨rfl,rfl⟩
theorem M7.own{z:Nat}{es:List SV}{h h':Hp}{n n':Nat}{v:SV}(H:M7 z es h n v h' n'):∃o,Ik z es v o n n'/\(∀j y,h j=some y->h' j=some y)/\∀j,o=some j->h' j=some (.cells (es.flatMap SV.cells)):=by
 obtain⟨h1,h2,⟨rfl,d,f,rfl⟩|⟨o,f,a,b,rfl,c⟩⟩:=H;exact⟨none,.inl ⟨rfl,rfl,d,f,rfl⟩,h2,by simp⟩;exact⟨some o,.inr ⟨o,f,rfl,a,b,rfl⟩,h2,by rintro j e;cases e;exact c⟩
theorem Ik.mono{z:Nat}{es:List SV}{v:SV}{o:Option Nat}{n n' m m':Nat}(H:Ik z es v o n m)(hn:n'<=n)(hm:m<=m'):Ik z es v o n' m':=by
 rcases H with⟨h1,h2,c,f,a⟩|⟨j,f,h1,h2,a,b⟩
 exact .inl ⟨h1,h2,c,f,a⟩;exact .inr ⟨j,f,h1,by omega,by omega,b⟩
theorem Ik.lt{z:Nat}{es:List SV}{v:SV}{o:Option Nat}{n m:Nat}(H:Ik z es v o n m):∀j,o=some j->n<=j/\j<m:=by
 rcases H with⟨rfl,_⟩|⟨j,f,rfl,h2,a,_⟩
 simp;rintro i e;cases e;exact⟨h2,a⟩
theorem Mh{z k i:Nat}{es:List SV}{e c:SV}(b:∀e∈es,e.B=true/\e.cells.length=z)(h:es[i]? = some e)(hk:e.cells[k]? = some c):
 i*z+k+1<=(es.flatMap SV.cells).length/\((es.flatMap SV.cells).drop (i*z+k)).take 1=[c]:=by
 obtain⟨g1,d⟩:=Nn b h;have he:=(b e (vE h)).2;have a:=(qu.1 hk).1;refine⟨by omega,?_⟩;have h1:(((es.flatMap SV.cells).drop (i*z)).take z).drop k=e.cells.drop k:=by rw[d]
 rw[List.drop_take,List.drop_drop]at h1;have h2:(((es.flatMap SV.cells).drop (i*z+k)).take (z-k)).take 1=(e.cells.drop k).take 1:=by rw[h1]
 rw[List.take_take,vQ nN]at h2;rw[h2,qG a];simp only[List.take_succ_cons,vt];rw[(qu.1 hk).2]
theorem Hb{a:List SV}{off:Nat}{c:SV}(h1:off+1<=a.length)(h2:(a.drop off).take 1=[c]):a.take off++c::a.drop (off+1)=a:=by
 have:a.drop off=c::a.drop (off+1):=by
  rw[qG nN]at h2 ⊢;simp only[List.take_succ_cons,vt,List.cons.injEq,and_true]at h2;rw[h2]
 rw[<-this,vy]
def jl:Tr:=.pure 0<|.pure 1<|.pure 3<|.pure 4<|.pure 6<|.pure 7<|.pure 9<|.pure 10 <|
 .two 2 13
  (.two 5 13 (.two 8 13 (.two 11 13 (.two 12 13 (.one 13 (.one 14 .nil)) (.one 12 (.one 14 .nil))) (.one 11 (.one 12 (.one 14 .nil)))) (.one 8 (.one 11 (.one 12 (.one 14 .nil))))) (.one 5 (.one 8 (.one 11 (.one 12 (.one 14 .nil))))))
  (.one 2 (.one 5 (.one 8 (.one 11 (.one 12 (.one 14 .nil))))))
theorem fw(s:AO)(h1:s.A.length<=1048576)(h2:s.L.length<=1048576)(h3:s.C.length<=1048576)(h4:s.vars.length<=1048576)(h5:∀x∈s.A,x.Q.length<=1048576)(h6:∀x∈s.L,x.levels.length<=1048576):
 PC 172 [s.h] s.h:=by
 intro h n;refine E8 func172 rfl λI=>?_;refine A6 2 [(1,.q s.j),(2,.ptr (n+1) 0)] (h_ h (n+1) (some (.cells [.x 0 [] true,.x 0 [] true,.x 0 [] true,.x 0 [] true]))) (λm=>m=n+2) ?_ (λm hm=>?_);simp[go_sem,AO.h,qw,Or];refine⟨Ak (by rw[AB _ _ nN];exact I.none (IO n)) (by simp[h_]),λj y=>?_⟩;have:=I j y;simp only[h_];grind;subst hm;refine AR 1 (α:=SV×Option Nat×SV×Option Nat×Nat) (λa=>[(2,.ptr (n+1) 0),(3,.ptr a.2.2.2.2 0)])
  (λa=>h_ (E3 (s.A.map Al.h) a.2.1 (E3 (s.L.map Fb.h) a.2.2.2.1 (h_ h (n+1) (some (.cells [.x 0 [] true,.x 0 [] true,.x 0 [] true,.x 0 [] true]))))) a.2.2.2.2 (some (.cells [a.1,a.2.2.1,A8 s.C,CW s.vars])))
  (λa m=>Ik 6 (s.A.map Al.h) a.1 a.2.1 (n+2) m/\Ik 2 (s.L.map Fb.h) a.2.2.1 a.2.2.2.1 (n+2) m/\n+2<=a.2.2.2.2/\a.2.2.2.2<m/\a.2.1≠some a.2.2.2.2/\a.2.2.2.1≠some a.2.2.2.2/\(∀j,a.2.1=some j->a.2.2.2.1≠some j)) (CJ jl rfl nQ nQ ?_) ?_
 . simp[go_sem,jl,AO.j]
   iterate 14 (all_goals (try first
    | (refine LC.use (iH _ h1) ?_;intro O H1 m1 W1;have lt1:=W1.1;obtain⟨o1,a1,b1,c1⟩:=W1.own;obtain⟨s1,D⟩:=a1.st;simp only[SV.B,SV.cells]at s1 D;simp[go_sem])
    | (refine LC.use (iI _ h2) ?_;intro P H2 m2 W2;have ji:=W2.1;obtain⟨o2,a2,R,c2⟩:=W2.own;obtain⟨s2,t2⟩:=a2.st;simp only[SV.B,SV.cells]at s2 t2;simp[go_sem])
    | (refine(kY _ h3).use ?_;simp[go_sem])
    | (refine(gE _ h4).use ?_;simp[go_sem,s1,D,s2,t2])
    | refine⟨?_,?_⟩))
   all_goals
    have M:=a1.lt;have N:=a2.lt;have ZZ:A7:=.cells [.x 0 [] true,.x 0 [] true,.x 0 [] true,.x 0 [] true]
    first
     | (have hq:=R (n+2) _ (b1 (n+2) _ (AC _ _ _));simp[go_sem,hq])
     | (have hq:=R m1 _ (AC _ _ _);simp[go_sem,hq])
     | simp[go_sem,AC]
    refine⟨O,o1,P,o2,_,⟨a1.mono nN nN,a2.mono nN nN,?_,?_,λe=>?_,λe=>?_,λj e S=>?_⟩,Or,λj y=>?_⟩;omega;omega;have:=M _ e;omega;have:=N _ e;omega;have:=M _ e;have:=N _ S;omega;intro hy;have q1:=b1 j y;have q2:=R j y;have q3:=c1 j;have q4:=c2 j;have r1:=M j;have r2:=N j;have q5:=R j (.cells ((s.A.map Al.h).flatMap SV.cells));have q6:=I j y;clear b1 R c1 c2 M N W1 W2 a1 a2;simp only[h_]at *;cases o1<;>cases o2<;>simp only[E3,h_]at hy<;>grind
 rintro⟨O,o1,P,o2,q⟩ m ⟨a1,a2,hq1,hq2,X,Y,u⟩;dsimp only at a1 a2 hq1 hq2 X Y u ⊢;have M:=a1.lt;have N:=a2.lt;obtain⟨s1,D⟩:=a1.st;obtain⟨s2,t2⟩:=a2.st;simp only[SV.B,SV.cells]at s1 D s2 t2;generalize U:E3 (s.A.map Al.h) o1 (E3 (s.L.map Fb.h) o2 (h_ h (n+1) (some (.cells [.x 0 [] true,.x 0 [] true,.x 0 [] true,.x 0 [] true]))))=B;have B1:∀j,o1=some j->B j=some (.cells ((s.A.map Al.h).flatMap SV.cells)):=λj e=>by subst e;rw[<-U];simp[E3,h_]
 have B2:∀j,o2=some j->B j=some (.cells ((s.L.map Fb.h).flatMap SV.cells)):=λj e=>by
  subst e;rw[<-U];cases o1 with
  | none=>simp[E3,h_]
  | some i=>have:=u i rfl;simp only[E3,h_];grind
 have B3:B (n+1)=some (.cells [.x 0 [] true,.x 0 [] true,.x 0 [] true,.x 0 [] true]):=by
  rw[<-U];cases o1<;>cases o2<;>simp only[E3,h_]<;>grind
 have B4:∀j y,h j=some y->B j=some y:=λj y e=>by
  have:=I j y e;rw[<-U];cases o1<;>cases o2<;>simp only[E3,h_]<;>grind
 have Z:∀j,o1=some j->j≠q:=λj e S=>X (by rw[e,S]);have w:∀j,o2=some j->j≠q:=λj e S=>Y (by rw[e,S]);clear U;refine LO 1 [(2,.ptr (n+1) 0),(3,.ptr q 0)] (h_ B q (some (.cells [O,P,A8 s.C,CW s.vars]))) m (AJ ?_) (λm' d=>?_)
 . rcases a1 with⟨_,he,z',f,rfl⟩|⟨j,f,rfl,V,W,rfl⟩
   simp[go_sem,AC];refine A9 1 (α:=Unit) (λ_=>[(2,.ptr (n+1) 0),(3,.ptr q 0),(21,AA 0),(22,AA 0)]) (λ_=>h_ B q (some (.cells [.x z' [] f,P,A8 s.C,CW s.vars]))) (λ_ m'=>m<=m') (λ_=>0) () (IO _) (by simp[look]) AE ?_;intro _ m' d;simp[go_sem];exact d
   . have b:=Z j rfl;have G:=B1 j rfl;simp[go_sem,AC];refine A9 1 (α:=Nat) (λi=>[(2,.ptr (n+1) 0),(3,.ptr q 0),(21,AA s.A.length),(22,AA i)]) (λ_=>h_ B q (some (.cells [.sl j 0 6 s.A.length f,P,A8 s.C,CW s.vars]))) (λi m'=>i<=s.A.length/\m<=m') (λi=>s.A.length-i) 0 ?_ ?_ ?_ ?_;exact⟨qi _,IO _⟩;simp[look];simp;rintro i m' ⟨hi,d⟩;by_cases l:i<s.A.length
     . have w1:=wS i nN;obtain⟨x,hx⟩:∃x,s.A[i]=x:=⟨_,rfl⟩
       have J:(s.A.map Al.h)[i]? = some x.h:=by simp[l,hx]
       obtain⟨g1,t⟩:=Mh (Al.E.size s.A) J (k:=5) (c:=AU x.Q) rfl;have g3:=Hb g1 t;have K:=h5 x (by rw[<-hx];exact qp l);have p:j<m':=by omega
       have r:q<m':=by omega
       have g:=G;generalize(s.A.map Al.h).flatMap SV.cells=F at g g1 t g3;simp[go_sem,AC,AB,b,g,l,g1,t,p,r]
       repeat first|refine nd (by simp[Ct,Dq,DX,Aj,Region.binds]<;>omega) ?_|refine sq ?_|refine aq ?_
       refine vw _ _ _ _ _ _ (Zs x.Q K) ?_;simp[go_sem,AB,b,g,l,g1,g3,p,w1,-Int.natCast_add]
       repeat first|refine nd (by simp[Ct,Dq,DX,Aj,Region.binds,b]<;>omega) ?_|refine sq ?_|refine aq ?_
       refine⟨i+1,by omega,⟨by omega,d⟩,Or,λo y=>?_⟩;simp only[h_];grind
     have:i=s.A.length:=by omega
     subst this;simp[go_sem];exact d
 refine LO 1 [(2,.ptr (n+1) 0),(3,.ptr q 0)] (h_ B q (some (.cells [O,P,A8 s.C,CW s.vars]))) m (AJ ?_) (λm2 hm2=>?_)
 . rcases a2 with⟨_,he,z',f,rfl⟩|⟨j,f,rfl,V,W,rfl⟩
   simp[go_sem,AC];refine A9 1 (α:=Unit) (λ_=>[(2,.ptr (n+1) 0),(3,.ptr q 0),(40,AA 0),(41,AA 0)]) (λ_=>h_ B q (some (.cells [O,.x z' [] f,A8 s.C,CW s.vars]))) (λ_ m'=>m<=m') (λ_=>0) () d (by simp[look]) AE ?_;intro _ m' d;simp[go_sem];exact d
   . have b:=w j rfl;have G:=B2 j rfl;simp[go_sem,AC];refine A9 1 (α:=Nat) (λi=>[(2,.ptr (n+1) 0),(3,.ptr q 0),(40,AA s.L.length),(41,AA i)]) (λ_=>h_ B q (some (.cells [O,.sl j 0 2 s.L.length f,A8 s.C,CW s.vars]))) (λi m'=>i<=s.L.length/\m<=m') (λi=>s.L.length-i) 0 ?_ ?_ ?_ ?_;exact⟨qi _,d⟩;simp[look];simp;rintro i m' ⟨hi,d⟩;by_cases l:i<s.L.length
     . have w1:=wS i nN;obtain⟨x,hx⟩:∃x,s.L[i]=x:=⟨_,rfl⟩
       have J:(s.L.map Fb.h)[i]? = some x.h:=by simp[l,hx]
       obtain⟨g1,t⟩:=Mh (Fb.E.size s.L) J (k:=1) (c:=DK x.levels) rfl;have g3:=Hb g1 t;have K:=h6 x (by rw[<-hx];exact qp l);have p:j<m':=by omega
       have r:q<m':=by omega
       have g:=G;generalize(s.L.map Fb.h).flatMap SV.cells=F at g g1 t g3;simp[go_sem,AC,AB,b,g,l,g1,t,p,r]
       repeat first|refine nd (by simp[Ct,Dq,DX,Aj,Region.binds]<;>omega) ?_|refine sq ?_|refine aq ?_
       refine vw _ _ _ _ _ _ (gG x.levels K) ?_;simp[go_sem,AB,b,g,l,g1,g3,p,w1,-Int.natCast_add]
       repeat first|refine nd (by simp[Ct,Dq,DX,Aj,Region.binds,b]<;>omega) ?_|refine sq ?_|refine aq ?_
       refine⟨i+1,by omega,⟨by omega,d⟩,Or,λo y=>?_⟩;simp only[h_];grind
     have:i=s.L.length:=by omega
     subst this;simp[go_sem];exact d
 have enq:n+1≠q:=by omega
 have T:∀(z:Nat)(es:List SV)(v:SV)(o:Option Nat)(H:Hp),(∀e∈es,e.B=true/\e.cells.length=z)->Ik z es v o (n+2) m->(∀j,o=some j->H j=some (.cells (es.flatMap SV.cells)))->Fz H h 1 v (.x z es false):=λz es v o H hsz ha hH=>by
  rcases ha with⟨_,he,z',f,rfl⟩|⟨j,f,rfl,V,W,rfl⟩
  rw[he];exact Iv nO;exact Ez (I.none nN) nO (hH j rfl) hsz
 refine AJ ?_;simp[go_sem,AC,AB,enq,B3];refine IZ (v:=s.h) 2 I (λj y e=>?_) (.inr ⟨T _ _ _ _ _ (Al.E.size _) a1 λj e=>?_,T _ _ _ _ _ (Fb.E.size _) a2 λj e=>?_,Or,Or,trivial⟩) ?_;have:=I j y e;have:=B4 j y e;simp only[h_];grind;have:=M j e;have:=B1 j e;have:=Z j e;simp only[h_];grind;have:=N j e;have:=B2 j e;have:=w j e;simp only[h_];grind;simp[AO.h,AO.j,C_,c_,Al.E.c_,Fb.E.c_,AX.E.c_,Gq.E.c_]
structure AO.D(s:AO):Prop where
 A:s.A.length<=1048576
 L:s.L.length<=1048576
 C:s.C.length<=1048576
 vars:s.vars.length<=1048576
 Q:∀x∈s.A,x.Q.length<=1048576
 levels:∀x∈s.L,x.levels.length<=1048576
structure AH.D(d:AH):Prop where
 len:d.W.length<=1048576
 W:AD.G d.W
 T0 : d.T0.D
 V:d.V.length<=1048576
 set:d.S.D
theorem c79(d:AH)(hd:d.D):PC 108 [d.h] d.h:=by
 intro h n;refine gq func108 rfl λb=>?_;have a:=hd.set;simp[go_sem,AH.h,AF.j,AO.j,AC,AB,qw]
 repeat first|refine nd (by simp[Ct,Dq,DX,Aj,Region.binds]<;>omega) ?_|refine sq ?_|refine aq ?_
 refine vw _ _ _ _ _ _ (kC d.W hd.len hd.W) ?_;simp[go_sem,AC,AB]
 repeat first|refine nd (by simp[Ct,Dq,DX,Aj,Region.binds]<;>omega) ?_|refine sq ?_|refine aq ?_
 refine vw _ _ _ _ _ _ (by simpa[AF.h,AF.j]using NS d.T0 hd.T0) ?_;simp[go_sem,AC,AB]
 repeat first|refine nd (by simp[Ct,Dq,DX,Aj,Region.binds]<;>omega) ?_|refine sq ?_|refine aq ?_
 refine vw _ _ _ _ _ _ (c76 d.V hd.V) ?_;simp[go_sem,AC,AB]
 repeat first|refine nd (by simp[Ct,Dq,DX,Aj,Region.binds]<;>omega) ?_|refine sq ?_|refine aq ?_
 refine vw _ _ _ _ _ _ (by simpa[AO.h,AO.j]using fw d.S a.A a.L a.C a.vars a.Q a.levels) ?_;simp[go_sem,AC]
 repeat first|refine nd (by simp[Ct,Dq,DX,Aj,Region.binds]<;>omega) ?_|refine sq ?_|refine aq ?_
 exact Bq b (λj y=>by have:=b j y;simp only[h_];grind) rfl (by simp[C_,c_,AD.E.c_,Fd.E.c_,Dx.E.c_,BC.E.c_,CI.E.c_,Al.E.c_,Fb.E.c_,AX.E.c_,Gq.E.c_])
theorem kI(a b:Int):PC 170 [AA a,AA b] (.bool (decide (a<b))):=by
 intro h n;refine gq func170 rfl λc=>?_;simp[go_sem];refine(cx _).use ?_;simp[go_sem];exact An c rfl rfl
theorem kJ(a:Int):PC 171 [AA a] (.bool false):=by
 intro h n;refine gq func171 rfl λb=>?_;simp[go_sem];exact An b rfl rfl
def I0(l:List Int)(x:Int)(i:Nat):Int:=match l[i]? with|some a=>if a<x then -1 else if a=x then 0 else 1|none=>0
theorem c78(l:List Int)(x:Int)(hl:l.length<=1048576):PC 107 [.x 1 (l.map AA) false,AA x] (.tup [AA (Bc (I0 l x) l.length).1,.bool (Bc (I0 l x) l.length).2]):=by
 intro h n;refine gq func107 rfl λr=>?_;simp[go_sem];generalize s:I0 l x=c;refine A9 1 (α:=Nat×Nat) (λq=>[(0,.x 1 (l.map AA) false),(1,AA x),(6,AA l.length),(7,AA q.1),(8,AA q.2)]) (λ_=>h) (λq m=>q.1<=q.2/\q.2<=l.length/\n<=m/\IG c 0 l.length=IG c q.1 q.2) (λq=>q.2-q.1) (0,l.length) ?_ ?_ AE ?_;simp;simp[look];rintro⟨i,j⟩ m ⟨o,t,k,d⟩;dsimp only at o t d;by_cases a:i<j;have hm:(i+j) / 2<l.length:=by omega
 have u:IntKind.i64.wrap ((i:Int)+j)=((i+j:Nat):Int):=by rw[D5]<;>omega
 have v:IntKind.u64.wrap ((i+j:Nat):Int)=((i+j:Nat):Int):=by rw[cP]<;>omega
 have w:(((i+j:Nat):Int)).fdiv 2=(((i+j) / 2:Nat):Int):=by rw[Int.fdiv_eq_ediv_of_nonneg _ nN];omega
 have y:IntKind.i64.wrap (((i+j) / 2:Nat):Int)=(((i+j) / 2:Nat):Int):=by rw[D5]<;>omega
 have z:IntKind.i64.wrap ((((i+j) / 2:Nat):Int)+1)=(((i+j) / 2+1:Nat):Int):=by rw[D5]<;>omega
 rw[IG.eq_def c i j]at d;have b:c ((i+j) / 2)=if l[(i+j) / 2]<x then -1 else if l[(i+j) / 2]=x then 0 else 1:=by rw[<-s];simp[I0,hm]
 simp[go_sem,a,u,v,w,y,hm,-Int.natCast_add,-Int.natCast_ediv];refine qO (kI _ _) ?_;by_cases hb:l[(i+j) / 2]<x;have Ig:c ((i+j) / 2)<0:=by rw[b,nS hb];omega
 simp[a,Ig]at d;simp[go_sem,hb,z,-Int.natCast_add,-Int.natCast_ediv];exact⟨(i+j) / 2+1,j,by omega,⟨by omega,t,k,d⟩,Or,Or⟩;have Ig:¬c ((i+j) / 2)<0:=by rw[b,nR hb];split<;>omega
 simp[a,Ig]at d;simp[go_sem,hb,-Int.natCast_add,-Int.natCast_ediv];exact⟨i,(i+j) / 2,by omega,⟨by omega,by omega,k,d⟩,Or,Or⟩;have e:IG c 0 l.length=i:=by rw[d,IG.eq_def];simp[a]
 by_cases hi:i<l.length;have b:c i=if l[i]<x then -1 else if l[i]=x then 0 else 1:=by rw[<-s];simp[I0,hi]
 by_cases f:l[i]=x;simp[go_sem,a,hi,f];exact An r rfl (by simp[Bc,e,hi,b,f]);have g:(l[i]==x)=false:=by simpa using f
 simp[go_sem,a,hi,g];refine(kJ _).use ?_;simp[go_sem];have p:¬c i=0:=by rw[b,nR f];split<;>omega
 exact An r rfl (by simp[Bc,e,hi,p]);simp[go_sem,a,hi];exact An r rfl (by simp[Bc,e,hi])
theorem c77(l:List Int)(b:l.length<=1048576)(r:CI):PC 106 [r.h,.q [.x 1 (l.map AA) false]] (.bool (!(Bc (I0 l r.id) l.length).2)):=by
 intro h n;refine gq func106 rfl λa=>?_;simp[go_sem,CI.h,AC];refine(c78 l r.id b).use ?_;simp[go_sem];exact Bq a (AY a (IO _) AE) rfl rfl
theorem gO(z:Nat)(full:Bool)(g:FuncId)(a b:List SV):PC 104 [.x z [] full,.fn (.func g) a b] (.x 3 [] false):=by
 intro h n;refine gq func104 rfl λc=>?_;simp[go_sem];have hI:=(fv [] nO g a b (λ_=>false) nO).wk (us:=[.x z [] full,.fn (.func g) a b]) 1 ⟨Iv nO,Or,trivial⟩;refine qO hI ?_;have e:BI (λ_=>false) 0 0 = -1:=by rw[BI];simp
 simp[go_sem,e];exact QD c AE nO rfl
def AH.norm1(d:AH):AH:=⟨Ae d.W,d.T0,d.V,d.S⟩
def AH.normal(d:AH):AH:=⟨Ae d.W,d.T0,d.V.filter λr=>(Bc (I0 (GM d.norm1) r.id) (GM d.norm1).length).2,d.S⟩
theorem c21(d:AH)(hd:d.D)(w:d.normal.D)(F:(BD [] (AD.U (Ae d.W)++d.T0.all)).length<=1048576):PC 43 [d.h] d.normal.h:=by
 intro h n;refine gq func43 rfl λA=>?_;have hs:=hd.set;simp[go_sem,AH.h,AF.j,AO.j,AC,AB,qw];refine(c73 d.W hd.len hd.W).use ?_;simp[go_sem,AC,AB];refine qO (by simpa[AH.h,AH.norm1,AF.j,AO.j]using c74 d.norm1 w.len w.W hd.T0 F) ?_;simp[go_sem,AC,AB,AZ];have k:(GM d.norm1).length<=1048576:=by
  have h1:(GM d.norm1).length=((BD [] (AD.U d.norm1.W++d.norm1.T0.all)).filter λx=>decide (x≠0)).length:=wh _;have h2:=vA (λx=>decide (x≠0)) (BD [] (AD.U d.norm1.W++d.norm1.T0.all));have h4:(BD [] (AD.U d.norm1.W++d.norm1.T0.all)).length<=1048576:=F;omega
 generalize B:GM d.norm1=us at k;refine LC.use (jg _ hd.V) ?_;rintro M f m1 ⟨hle,Ar,hv⟩;have G:=Ar n (.cells ([AI (Ae d.W)]++d.T0.j++[Cq d.V]++d.S.j)) (by simp[AC,AB,AF.j,AO.j]);obtain⟨m,t,I⟩:∃m:List SV,m.length=11/\f (n+1)=some (.cells m):=⟨_,rfl,Ar (n+1) (.cells _) (by simp[AC,AB];rfl)⟩
 have H:=Ar (n+2) (.cells [.x 1 (us.map AA) false]) (by simp[AC,<-B,AH.norm1]);have J:∀j y,h j=some y->f j=some y:=λj y e=>Ar j y (by have:=A j y e;simp only[h_];grind);clear Ar;have i:∀(b:Hp),(∀j,j=n\/j=n+1\/j<n->b j=f j)->Cb n (h_ (h_ b n (some (.cells d.normal.h.cells))) (n+1) (some (.cells d.normal.h.cells))) m1 d.normal.h (Is d.normal.h h n):=λb a=>by
  refine Bq A (λj y e=>?_) rfl ?_;have h1:=(A j y e).1;have h2:=J j y e;rw[AB _ _ nN,AB _ _ nN,a j nN,h2];simp[AH.h,AF.j,AO.j,C_,c_,AD.E.c_,Fd.E.c_,Dx.E.c_,BC.E.c_,CI.E.c_,Al.E.c_,Fb.E.c_,AX.E.c_,Gq.E.c_]
 have c:d.normal.V=d.V.filter λr=>!(!(Bc (I0 us r.id) us.length).2):=by simp[AH.normal,B]
 have l:∀(K:SV->Hp->Nat->Prop),(∀b:Hp,(∀j,j=n\/j=n+1\/j<n->b j=f j)->K (.x 3 (d.normal.V.map CI.h) false) b m1)->Ab (BU.plain.call false 0) prog 104 [M,.fn (.func 106) [] [.ptr (n+2) 0]] f m1 K:=λK p=>by
  rcases hv with⟨C,N,full,rfl⟩|⟨o,full,h1,h2,rfl,L⟩
  have hr:d.normal.V=[]:=by rw[c];simp only[vV]at C;rw[C];rfl
  rw[hr]at p;exact(gO N full 106 [] [.ptr (n+2) 0]).use (p f λ_ _=>rfl);rw[c]at p;simp only[qj];refine wT (bs:=[.sl o 0 3 d.V.length full,.fn (.func 106) [] [.q [.x 1 (us.map AA) false]]]) (h2:=h_ f (n+2) none) 2 (λj y e=>?_) ⟨Or,.inr ⟨rfl,trivial,Ak (AC _ _ _) H,trivial⟩,trivial⟩ ?_;simp only[h_]at e;split at e;cases e;exact e;refine qI (d75 d.V hd.V 106 [] [.q [.x 1 (us.map AA) false]] (λr=>!(Bc (I0 us r.id) us.length).2) (λx _=>c77 us k x) (by rw[AB _ _ nN];exact L)) ?_;rintro v h' n' ⟨rfl,rfl,rfl⟩;refine p _ λj hj=>?_;rw[AB _ _ nN,AB _ _ nN]
 simp[go_sem];refine l _ λb a=>?_;have g:b n=_:=(a n (.inl rfl)).trans G;have s:b (n+1)=_:=(a (n+1) (.inr (.inl rfl))).trans I;have z:n+1≠n:=by omega
 simp only[AF.j,AO.j]at g;simp[go_sem,g,AC];refine qO (by simpa[AH.h,AH.normal,AF.j,AO.j]using c79 d.normal w) ?_;have u:m.drop 11=[]:=List.drop_of_length_le nN;simp[go_sem,AB,s,t,AC,u];have:=i b a;simpa[AH.h,AH.normal,AF.j,AO.j,SV.cells]using this
def Bu(l:List AD):Nat:=(l.map λx=>x.J.size).sum
def lim(hp:AF->Prop)(K:Nat):Nat->List AD->Prop
 | 0,_=>False
 | N+1,l=>l.length<=K/\Bu l<=K/\∀x∈l,hp x.H/\lim hp K N x.W/\x.R.length<=K/\∀r∈x.R,hp r.H/\r.cells.length<=K/\∀c∈r.cells,hp c.H/\lim hp K N c.W
theorem lim.mono{hp f:AF->Prop}(hh:∀x,hp x->f x){K g:Nat}(h:K<=g):∀{N:Nat} {l:List AD},lim hp K N l->lim f g N l
 | N+1,l,H=>⟨by have:=H.1;omega,by have:=H.2.1;omega,λx j=>by
  obtain⟨a,b,c,d⟩:=H.2.2 x j;exact⟨hh _ a,b.mono hh h,by omega,λr hr=>⟨hh _ (d r hr).1,by have:=(d r hr).2.1;omega,λe i=>⟨hh _ ((d r hr).2.2 e i).1,((d r hr).2.2 e i).2.mono hh h⟩⟩⟩⟩
theorem Tj{l:List AD}{x:AD}(h:x∈l):x.J.size<=Bu l:=by
 induction l with
 | nil=>cases h
 | cons a l ih=>
  have e:Bu (a::l)=a.J.size+Bu l:=by simp[Bu]
  rcases qd.1 h with rfl|h;omega;have:=ih h;omega
theorem lim.D{hp:AF->Prop}(hh:∀x,hp x->x.D){K:Nat}(h:K<=1048576):∀{N:Nat} {l:List AD},lim hp K N l->l.length<=1048576/\AD.G l
 | N + 1, l, H => ⟨by have := H.1; omega, AD.sizedL_of fun x hx => by
  obtain⟨a,b,c,d⟩:=H.2.2 x hx;have ht:=Tj hx;have ht2:=H.2.1;have i:=lim.D hh h b;have hr:AM.G x.R:=AM.sizedL_of λr hr=>by
   obtain⟨e,f,g⟩:=d r hr;have j:AG.G r.cells:=AG.sizedL_of λq k=>by
    obtain⟨u,v⟩:=g q k;have hv:=lim.D hh h v;cases q;rw[AG.D];exact⟨hh _ u,hv.1,hv.2⟩
   cases r;rw[AM.D];exact⟨hh _ e,by simp only[AM.cells]at f;omega,j⟩
  cases x;rw[AD.D];exact⟨by simp only[AD.J]at ht;omega,hh _ a,i.1,by simp only[AD.R]at c;omega,i.2,hr⟩⟩
def OW(hp:AF->Prop)(K N:Nat)(x:AD):Prop:=hp x.H/\lim hp K N x.W/\x.R.length<=K/\∀r∈x.R,hp r.H/\r.cells.length<=K/\∀c∈r.cells,hp c.H/\lim hp K N c.W
theorem CX{hp:AF->Prop}{K N:Nat}{l:List AD}:lim hp K (N+1) l↔l.length<=K/\Bu l<=K/\∀x∈l,OW hp K N x:=Iff.rfl
theorem VY{hp:AF->Prop}{K N:Nat}{x:AD}(H:OW hp K N x)(t:ByteArray):OW hp K N (.mk x.l x.code x.id t x.H x.W x.R):=by cases x;exact H
theorem OX(out:List AD)(x:AD):Bu (Ah out x)<=Bu out+x.J.size:=by
 unfold Ah;split;omega;split;rename_i y a;obtain⟨ys,rfl⟩:∃ys,out=ys++[y]:=by
  rcases List.eq_nil_or_concat out with rfl|⟨ys,z,rfl⟩
  simp at a;simp only[List.concat_eq_append]at a ⊢;rw[ws]at a;cases a;exact⟨ys,rfl⟩
 split;simp[Bu,AD.zb,AD.J];omega;simp[Bu];omega;simp[Bu]
theorem P6{p:AD->Prop}(hp:∀x t,p x->p (.mk x.l x.code x.id t x.H x.W x.R)){out:List AD}{x:AD}(h1:∀y∈out,p y)(h2:p x):∀y∈Ah out x,p y:=λy a=>by
 rcases Kz a with h|h|⟨z,b,h⟩
 exact h1 y h;rw[h];exact h2;rw[h];exact hp z _ (h1 z b)
theorem Sw(l:List AD)(out:List AD):Bu (l.foldl Ah out)<=Bu out+Bu l:=by
 induction l generalizing out with
 | nil=>simp[Bu]
 | cons a l ih=>
  have h1:=ih (Ah out a);have h2:=OX out a;have e:Bu (a::l)=a.J.size+Bu l:=by simp[Bu]
  simp only[qH];omega
theorem Sv(l:List AD)(out:List AD):(l.foldl Ah out).length<=out.length+l.length:=by
 induction l generalizing out with
 | nil=>simp
 | cons a l ih=>
  have h1:=ih (Ah out a);have h2:=Ky out a;simp only[qH,qo];omega
theorem JL{p:AD->Prop}(hp:∀x t,p x->p (.mk x.l x.code x.id t x.H x.W x.R))(l:List AD)(out:List AD)(h1:∀y∈out,p y)(h2:∀y∈l,p y):∀y∈l.foldl Ah out,p y:=by
 induction l generalizing out with
 | nil=>exact h1
 | cons a l ih=>exact ih (Ah out a) (P6 hp h1 (h2 a nO)) λy hy=>h2 y (by simp[hy])
theorem G7{hp:AF->Prop}{K:Nat}:∀{N:Nat} {l:List AD},lim hp K N l->lim hp K N (Ae l)
 | N+1,l,H=>by
  rw[CX]at H ⊢;unfold Ae Eg;rw[wL];refine⟨?_,?_,?_⟩;have:=Sv (l.map AD.N) [];simp at this;omega;have:=Sw (l.map AD.N) [];have e:Bu (l.map AD.N)=Bu l:=by simp only[Bu,wo];congr 1;exact qN λx _=>by simp only[Function.comp_apply,(AD.nrm_fields x).2.2.2.1]
  have k:Bu []=0:=rfl;rw[e,k]at this;omega;refine JL (p:=OW hp K N) (λx t h=>VY h t) _ _ (λy g=>by cases g) λy g=>?_;obtain⟨x,q,rfl⟩:=qb.1 g;obtain⟨a,b,c,d⟩:=H.2.2 x q;obtain⟨_,_,_,_,m,n,i⟩:=AD.nrm_fields x;refine⟨by rw[m];exact a,by rw[n];exact G7 b,?_,?_⟩;rw[i];have:=vA (λr=>!decide (r.cells.length=0)) (x.R.map AM.N);simp only[qj]at this;omega;rw[i];intro r hr;obtain⟨r0,h0,rfl⟩:=qb.1 (qZ.1 hr).1;obtain⟨u,v,w⟩:=d r0 h0;have f:(AM.N r0).H=r0.H/\(AM.N r0).cells=r0.cells.map AG.N:=by cases r0;rw[AM.N,uf];exact⟨rfl,rfl⟩
  refine⟨by rw[f.1];exact u,by rw[f.2,qj];exact v,?_⟩;rw[f.2];intro c o;obtain⟨c0,h1,rfl⟩:=qb.1 o;obtain⟨s,z⟩:=w c0 h1;have j:(AG.N c0).H=c0.H/\(AG.N c0).W=Ae c0.W:=by cases c0;rw[AG.N];exact⟨rfl,rfl⟩
  exact⟨by rw[j.1];exact s,by rw[j.2];exact G7 z⟩
structure Ef where
 H:AF
 mid:Bool
 units:Int
def Ef.h(p:Ef):SV:=.agg (p.H.j++[.bool p.mid,AA p.units])
structure DC where
 id:Int
 a:Int
 b:Int
def DC.h(s:DC):SV:=.agg [AA s.id,AA s.a,AA s.b]
def AD.put(x:AD)(h:AF)(f:List AD)(r:List AM):AD:=.mk x.l x.code x.id x.J h f r
section
variable{σ:Type}(f:σ->Ef->AF×Bool×σ)(it:Int->List AD->Bool->σ->List AD×σ)(mid:Bool)
end
section
variable{σ:Type}(f:σ->Ef->AF×Bool×σ)(sc:DC)
end
theorem Fq{α β:Type}(g:β->α->β)(b:β)(l:List α)(i:Nat)(x:α)(h:i<l.length)(a:l[i]=x):(l.take (i+1)).foldl g b=g ((l.take i).foldl g b) x:=by
 rw[qa h,qX,a];rfl
section
variable{σ:Type}{f:σ->Ef->AF×Bool×σ}{it:Int->List AD->Bool->σ->List AD×σ}{mid:Bool}
end
section
variable{hp:AF->Prop}{σ:Type}{f:σ->Ef->AF×Bool×σ}{it:Int->List AD->Bool->σ->List AD×σ}{mid:Bool}{K N:Nat}
theorem NM{α:Type}{p:α->Prop}{l:List α}{x:α}(h:∀y∈l,p y)(b:p x):∀y∈l++[x],p y:=λy a=>by
 rcases qf.1 a with a|a;exact h y a;rw[qA.1 a];exact b
end
theorem TG{hp:AF->Prop}{L:List Int}(hh:∀h,hp h->∀u∈h.all,u∈L){K:Nat}:∀{N:Nat} {l:List AD},lim hp K N l->∀u∈AD.U l,u∈L
 | N + 1, l, H => by
  obtain⟨g1,m,b⟩:=CX.1 H;clear H g1 m
  induction l with
  | nil=>simp[AD.U]
  | cons x l ih=>
   intro u a;rw[AD.U,qf]at a;rcases a with a|a;obtain⟨a1,a2,a3,a4⟩:=b x nO;cases x with
   | mk k c i t h f r=>
    simp only[AD.us,qf,AD.H,AD.W,AD.R]at *;rcases a with a|a;exact hh h a1 u a;split at a;exact TG hh a2 u a;split at a;clear a3 b
    induction r with
    | nil=>simp[AM.U]at a
    | cons r rs ihr=>
     rw[AM.U,qf]at a;rcases a with a|a;obtain⟨b1,e,d⟩:=a4 r nO;cases r with
     | mk h2 cs=>
      simp only[AM.us,qf,AM.H,AM.cells]at *;rcases a with a|a;exact hh h2 b1 u a;clear a4 ihr e
      induction cs with
      | nil=>simp[AG.U]at a
      | cons q cs ihc=>
       rw[AG.U,qf]at a;rcases a with a|a;obtain⟨g,j⟩:=d q nO;cases q with
       | mk i3 b f3=>
        simp only[AG.us,qf,AG.H,AG.W]at *;rcases a with a|a;exact hh b g u a;exact TG hh j u a
       exact ihc (λc n=>d c (by simp[n])) a
     exact ihr (λr hr=>a4 r (by simp[hr])) a
    cases a
   exact ih (λx o=>b x (by simp[o])) u a
theorem Re:∀{l L:List Int},l.Nodup->(∀u∈l,u∈L)->l.length<=L.length
 | [],_,_,_=>by simp
 | a::l,L,h,H=>by
  rw[qY]at h;have b:=H a nO;have:=Re (l:=l) (L:=L.erase a) h.2 λu c=>(List.mem_erase_of_ne (by rintro rfl;exact h.1 c)).2 (H u (by simp[c]));rw[List.length_erase_of_mem b]at this;have hp:0<L.length:=List.length_pos_of_mem b;simp only[qo];omega
theorem Ze{X L:List Int}(h:∀u∈X,u∈L):(BD [] X).length<=L.length:=
 Re (Jv X [] List.nodup_nil) λu a=>h u (by simpa using(Do u X []).1 a)
mutual
theorem EL{n m:Nat}(h:n<=m):∀v:SV,C_ n v=true->C_ m v=true
 | .agg cs,e=>by rw[C_]at *;exact C5 h cs e
 | .tup cs,e=>by rw[C_]at *;exact C5 h cs e
 | .fn _ a b,e=>by rw[C_,qh]at *;exact⟨C5 h a e.1,C5 h b e.2⟩
 | .ptr o _,e=>by simp only[C_,decide_eq_true_eq]at *;omega
 | .q cs,e=>by rw[C_]at *;exact C5 h cs e
 | .sl o _ _ _ _,e=>by simp only[C_,decide_eq_true_eq]at *;omega
 | .slc o _ _ _ _,e=>by simp only[C_,decide_eq_true_eq]at *;omega
 | .x _ es _,e=>by rw[C_]at *;exact C5 h es e
 | .map o,e=>by simp only[C_,decide_eq_true_eq]at *;omega
 | .yl o,e=>by simp only[C_,decide_eq_true_eq]at *;omega
 | .int _ _,_|.bool _,_|.str _,_|.junk,_|.nilp,_|.nilf,_|.nilm,_|.nils,_=>by simp[C_]
theorem C5{n m:Nat}(h:n<=m):∀l:List SV,c_ n l=true->c_ m l=true
 | [],_=>by rw[c_]
 | s::l,e=>by rw[c_,qh]at *;exact⟨EL h s e.1,C5 h l e.2⟩
end
theorem Kg{n m:Nat}(h:n<=m){y:A7}(a:Ay n y=true):Ay m y=true:=by
 cases y with
 | cells cs ty=>exact C5 h _ a
 | map es=>
  simp only[Ay,qE,qh]at a ⊢;exact λp hp=>⟨EL h _ (a p hp).1,EL h _ (a p hp).2⟩
 | loop l=>rfl
 | sit s pos=>rfl
 | list z es=>exact C5 h _ a
 | iter l r=>
  simp only[Ay,qE,qh,Option.all_eq_true]at a ⊢;exact⟨λp hp=>⟨EL h _ (a.1 p hp).1,EL h _ (a.1 p hp).2⟩,λp hp=>⟨EL h _ (a.2 p hp).1,EL h _ (a.2 p hp).2⟩⟩
section
variable{σ:Type}
def Aq(st:σ->Nat->Option A7)(s:σ)(H:Hp):Hp:=λo=>match st s o with|some y=>some y|none=>H o
structure Tn(st:σ->Nat->Option A7)(n0:Nat)(g:FuncId)(a b:List SV)(f:σ->Ef->AF×Bool×σ)(ok:AF->Prop)(rk:σ->Nat:=λ_=>0)(top:Nat:=0):Prop where
 up:∀s p,rk s<=rk (f s p).2.2:=by exact λ_ _=>IO _
 lt:∀s o,n0<=o->st s o=none
 dom:∀s s' o,st s o=none->st s' o=none
 cl:∀s o y,st s o=some y->Ay n0 y=true
 call:∀s p H n,ok p.H->rk (f s p).2.2<=top->n0<=n->(∀o y,st s o=some y->H o=some y)->BF prog g (a++[p.h]++b) H n (λv h' n'=>v=.tup [(f s p).1.h,.bool (f s p).2.1]/\h'=Aq st (f s p).2.2 H/\n'=n)
variable{st:σ->Nat->Option A7}{n0:Nat}{g:FuncId}{a b:List SV}{f:σ->Ef->AF×Bool×σ}{ok:AF->Prop}{rk:σ->Nat}{top:Nat}
theorem Tn.up2(C:Tn st n0 g a b f ok rk top)(s c:σ)(H:Hp):Aq st c (Aq st s H)=Aq st c H:=by
 funext o;simp only[Aq];cases h:st c o with
 | some y=>rfl
 | none=>simp[C.dom c s o h]
theorem Tn.h_(C:Tn st n0 g a b f ok rk top)(s:σ)(H:Hp){o:Nat}(h:n0<=o)(y:Option A7):h_ (Aq st s H) o y=Aq st s (h_ H o y):=by
 funext j;simp only[Aq,Sh.h_];split;subst_vars;rw[C.lt s _ h];rfl
theorem Cs(s:σ)(H:Hp)(h:∀o y,st s o=some y->H o=some y):Aq st s H=H:=by
 funext o;simp only[Aq];cases e:st s o with
 | some y=>rw[h o y e]
 | none=>rfl
theorem Tn.old(C:Tn st n0 g a b f ok rk top)(s:σ){H:Hp}{n:Nat}(d:n0<=n)(i:HQ H n):HQ (Aq st s H) n:=λo y e=>by
 simp only[Aq]at e;cases c:st s o with
 | some z=>
  rw[c]at e;cases e;refine⟨?_,Kg d (C.cl s o y c)⟩;by_cases h:n0<=o;rw[C.lt s o h]at c;cases c;omega
 | none=>rw[c]at e;exact i o y e
theorem Tn.acc(C:Tn st n0 g a b f ok rk top){n m z:Nat}{o:Option Nat}{es:List SV}(hn:n0<=n)(d:BG n m z o es)(c:σ)(H:Hp):Aq st c (AS o es H)=AS o es (Aq st c H):=by
 cases o with
 | none=>rfl
 | some j=>have:=(d.lt j rfl).1;simp only[AS];rw[C.h_ c H nN]
theorem Tn.has(C:Tn st n0 g a b f ok rk top){n m z:Nat}{o:Option Nat}{es:List SV}(hn:n0<=n)(c:BG n m z o es){s:σ}{H:Hp}(h:∀k y,st s k=some y->H k=some y):∀k y,st s k=some y->AS o es H k=some y:=λk y e=>by
 cases o with
 | none=>exact h k y e
 | some j=>
  have:=(c.lt j rfl).1;simp only[AS];rw[AB _ _ ?_];exact h k y e;rintro rfl;rw[C.lt s k nN]at e;cases e
theorem CZ{s:σ}{H:Hp}:∀k y,st s k=some y->Aq st s H k=some y:=λk y e=>by simp[Aq,e]
theorem EH{n m z:Nat}{o:Option Nat}{es:List SV}{h:Hp}(hb:∀j y,h j=some y->j<n)(hnm:n<=m)(a:BG n m z o es):∀j y,AS o es h j=some y->j<m:=λj y e=>by
 cases o with
 | none=>have:=hb j y e;omega
 | some k=>
  have:=(a.lt k rfl).2;simp only[AS,h_]at e;split at e;omega;have:=hb j y e;omega
theorem Ac{h:Hp}{m:Nat}(hb:∀j y,h j=some y->j<m){k:Nat}(hk:m<=k):h k=none:=by
 cases e:h k with
 | none=>rfl
 | some y=>have:=hb k y e;omega
theorem AQ.fz'{h:Hp}{n m z k:Nat}{o:Option Nat}{es:List SV}(c:∀j,n<=j->h j=none)(H:BG n m z o es){h':Hp}(hh:∀j y,AS o es h j=some y->h' j=some y):Fz h' h (k+1) (AQ z o es) (.x z es false):=by
 cases o with
 | none=>rw[H.none rfl];exact .inr ⟨by simp,.inl rfl,trivial,by simp⟩
 | some j =>
  have b:=hh j (.cells (es.flatMap SV.cells)) (by simp[AS,h_]);refine .inr ⟨c j (H.lt j rfl).1,by simp,rfl,rfl,_,_,b,by simp[CP,Bv H.size];rfl,H.size,?_⟩;have:∀l:List SV,AT (Fz h' h k) l l:=by
   intro l;induction l with
   | nil=>trivial
   | cons a l ih=>exact⟨Or,ih⟩
  simp only[<-Bv H.size,qn];exact this _
theorem D6{h:Hp}{n m z:Nat}{o:Option Nat}{es:List SV}(hb:∀j y,h j=some y->j<n)(H:BG n m z o es):∀j x,h j=some x->AS o es h j=some x:=λj x e=>by
 cases o with
 | none=>exact e
 | some k=>
  have h1:=(H.lt k rfl).1;have h2:=hb j x e;simp only[AS];rw[AB _ _ nN];exact e
theorem Gf{h H:Hp}{n m p z:Nat}{es:List SV}{e:SV}{o:Option Nat}{v:SV}(hb:∀j y,h j=some y->j<n)(hn:n<=p)(c:BG n m z o es)(d:∀j y,h j=some y->H j=some y):
 ∀j y,AS (some p) (es++[e]) h j=some y->(CS.app H p { val:=v,upd:=o.map λj=>(j,none),new:=some (.cells (es.flatMap SV.cells++e.cells)) }) j=some y:=by
 intro j y a;simp only[AS]at a;by_cases b:j=p;subst b;rw[AC]at a;simp only[CS.app,AC];rw[<-a];simp;rw[AB _ _ b]at a;have hlt:=hb j y a;have:=d j y a;cases o with
 | none=>simp[CS.app,AB _ _ b,this]
 | some k=>
  have hk:j≠k:=by have:=(c.lt k rfl).1;omega
  simp[CS.app,AB _ _ b,AB _ _ hk,this]
theorem Rq{h:Hp}{n n' m z:Nat}{o:Option Nat}{es:List SV}(a:HQ h n)(H:BG n m z o es)(b:∀e∈es,C_ n e=true):Cb n (AS o es h) n' (AQ z o es) (λv h' n'=>v=.x z es false/\h'=h/\n'=n):=
 .inr ⟨1,.x z es false,h,AQ.fz a H AE,by rw[C_];exact EK.2 b,λj x e=>⟨AS.old a H j x e,a j x e⟩,rfl,rfl,rfl⟩
theorem AV{h h':Hp}{m:Nat}{y:Option A7}(hb:∀j z,h j=some z->j<m)(hh:∀j z,h j=some z->h' j=some z):∀j z,h j=some z->h_ h' m y j=some z:=λj z e=>by
 rw[AB _ _ (by have:=hb j z e;omega)];exact hh j z e
variable{it:Int->List AD->Bool->σ->List AD×σ}{mid:Bool}{P:List AD->Prop}{sc:DC}
theorem JS{α β:Type}{G:β×σ->α->β×σ}(h:∀q x,rk q.2<=rk (G q x).2):∀(l:List α)(q:β×σ),rk q.2<=rk (l.foldl G q).2
 | [],_=>IO _
 | x::l,q=>qy (h q x) (JS h l _)
theorem JT{α β:Type}{G:β×σ->α->β×σ}(h:∀q x,rk q.2<=rk (G q x).2)(l:List α)(q:β×σ)(i:Nat):rk ((l.take i).foldl G q).2<=rk (l.foldl G q).2:=by
 conv=>rhs;rw[<-vy i l]
 rw[qX];exact JS h _ _
end
section
variable{σ:Type}{st:σ->Nat->Option A7}{n0:Nat}{g:FuncId}{a b:List SV}{f:σ->Ef->AF×Bool×σ}{ok:AF->Prop}{rk:σ->Nat}{top:Nat}{it:Int->List AD->Bool->σ->List AD×σ}{mid:Bool}{P:List AD->Prop}{sc:DC}
end
section
variable{σ:Type}{st:σ->Nat->Option A7}{n0:Nat}{g:FuncId}{a b:List SV}{f:σ->Ef->AF×Bool×σ}{ok:AF->Prop}{rk:σ->Nat}{top:Nat}{sc:DC}
end
section
variable{σ:Type}{st:σ->Nat->Option A7}{n0:Nat}{g:FuncId}{a b:List SV}{f:σ->Ef->AF×Bool×σ}{ok:AF->Prop}{rk:σ->Nat}{top:Nat}{sc:DC}
theorem UI{n:Nat}(a:∀s o,n<=o->st s o=none){s:σ}{H:Hp}{p:Nat}(hp:n<=p)(y:Option A7)(h:∀k z,st s k=some z->H k=some z):∀k z,st s k=some z->h_ H p y k=some z:=λk z e=>by
 rw[AB _ _ (by rintro rfl;rw[a s k hp]at e;cases e)];exact h k z e
end
section
variable{σ:Type}{st:σ->Nat->Option A7}{n0:Nat}{g:FuncId}{a b:List SV}{u:σ->Ef->σ}{ok:AF->Prop}{rk:σ->Nat}{top:Nat}{sc:DC}
end
def Rm(sc:DC)(l:List AD):Prop:=sc.a<0\/sc.b<sc.a\/(eW l).1<sc.b
instance(sc:DC)(l:List AD):Decidable (Rm sc l):=by unfold Rm;infer_instance
section
variable{σ:Type}(f:σ->Ef->AF×Bool×σ)(fl:Int->List AD->DC->Bool->σ->List AD×σ)(sc:DC)(mid:Bool)
end
section
variable{σ:Type}{f:σ->Ef->AF×Bool×σ}{fl:Int->List AD->DC->Bool->σ->List AD×σ}{sc:DC}{mid:Bool}
end
section
variable{α σ:Type}{rk:σ->Nat}
variable{f:σ->Ef->AF×Bool×σ}{fl:Int->List AD->DC->Bool->σ->List AD×σ}
end
section
variable{σ:Type}
variable{st:σ->Nat->Option A7}{n0:Nat}{g:FuncId}{a b:List SV}{f:σ->Ef->AF×Bool×σ}{ok:AF->Prop}{rk:σ->Nat}{top:Nat}
variable{fl:Int->List AD->DC->Bool->σ->List AD×σ}{mid:Bool}{P:List AD->Prop}{sc:DC}
end
section
variable{σ:Type}{st:σ->Nat->Option A7}{n0:Nat}{g:FuncId}{a b:List SV}{f:σ->Ef->AF×Bool×σ}{ok:AF->Prop}{rk:σ->Nat}{top:Nat}{fl:Int->List AD->DC->Bool->σ->List AD×σ}{mid:Bool}{P:List AD->Prop}{sc:DC}
end
section
variable{σ:Type}{st:σ->Nat->Option A7}{n0:Nat}{g:FuncId}{a b:List SV}{f:σ->Ef->AF×Bool×σ}{ok:AF->Prop}{rk:σ->Nat}{top:Nat}{fl:Int->List AD->DC->Bool->σ->List AD×σ}{P:List AD->Prop}
end
section
variable{σ:Type}{st:σ->Nat->Option A7}{n0:Nat}{g:FuncId}{a b:List SV}{f:σ->Ef->AF×Bool×σ}{ok:AF->Prop}{rk:σ->Nat}{top:Nat}{sc:DC}
end
def TC(f:FuncId)(args:List SV)(T:SV->Prop):Prop:=∀h n,BF prog f args h n (λv h' n'=>T v/\h'=h/\n'=n)
theorem TC.use{E:BU}{f:FuncId}{args:List SV}{T:SV->Prop}(H:TC f args T){h:Hp}{n:Nat}{K:SV->Hp->Nat->Prop}(hk:∀v,T v->K v h n):Ab E prog f args h n K:=
 Ab.lift<|(H h n).mono λv _ _ ⟨a,b,c⟩=>by subst b;subst c;exact hk v a
theorem TC.mono{f:FuncId}{args:List SV}{T a:SV->Prop}(H:TC f args T)(ht:∀v,T v->a v):TC f args a:=λh n=>(H h n).mono λv _ _ ⟨b,c⟩=>⟨ht v b,c⟩
theorem Rp{h h':Hp}{n n':Nat}{v:SV}{T:SV->Prop}(c:HQ h n)(hh:∀o x,h o=some x->h' o=some x)(b:C_ n v=true)(a:T v):Cb n h' n' v (λe h2 d=>T e/\h2=h/\d=n):=
 Cb.plain b c hh ⟨a,rfl,rfl⟩
theorem b9{h h':Hp}{n n':Nat}{a v:SV}{T:SV->Prop}(k:Nat)(d:HQ h n)(hh:∀o x,h o=some x->h' o=some x)(e:Fz h' h k a v)(c:C_ n v=true)(b:T v):Cb n h' n' a (λg h2 f=>T g/\h2=h/\f=n):=
 .inr ⟨k,v,h,e,c,λo x e=>⟨hh o x e,d o x e⟩,b,rfl,rfl⟩
def Err(T:Prop)(v:SV):Prop:=∃e:Int,v=AA e/\(e=0->T)
def XG(x:AD):Prop:=(x.l≠6->x.W=[])/\(x.l≠7->x.R=[])/\Cj x.J=true
structure Bx where
 b:Bool
def IB(l:List (Int×Int)):List (SV×SV):=l.map λx=>(AA x.1,AA x.2)
structure Ck where
 p:Nat
 s0:Nat
 s1:Nat
 s2:Nat
 s3:Nat
 s4:Nat
 m0:List (Int×Int)
 m1:List Int
 m2:List Int
structure Ck.ok(K:Ck)(n0:Nat):Prop where
 nd:[K.p,K.s0,K.s1,K.s2,K.s3,K.s4].Nodup
 lt:∀o∈[K.p,K.s0,K.s1,K.s2,K.s3,K.s4],o<n0
abbrev GU:=List Int×Int
def Ck.cells(K:Ck)(c:Int):List SV:=[.map K.s0,.map K.s1,.map K.s2,.map K.s3,.map K.s4,AA c]
def Ck.st(K:Ck)(s:GU)(o:Nat):Option A7:=
 if o=K.p then some (.cells (K.cells s.2))else if o=K.s3 then some (.map (Fh s.1))else if o=K.s0 then some (.map (IB K.m0))else if o=K.s1 then some (.map (Fh K.m1))else if o=K.s2 then some (.map (Fh K.m2))else if o=K.s4 then some (.map [])else none
section
variable{K:Ck}{n0:Nat}
theorem Ck.ok.clo(h:K.ok n0):Tn K.st n0 0 [] [] (λs p=>(p.H,true,s)) (λ_=>False) where
 lt s o ho:=by
  have h1:=h.lt;simp only[qd,vC,or_false,forall_eq_or_imp,forall_eq]at h1;unfold Ck.st;rw[nR nN,nR nN,nR nN,nR nN,nR nN,nR nN]
 dom s s' o ho:=by
  unfold Ck.st at ho ⊢
  repeat' split at ho
  all_goals first|cases ho|skip
  simp only[*,if_false]
 cl s o y ho:=by
  have h1:=h.lt;simp only[qd,vC,or_false,forall_eq_or_imp,forall_eq]at h1;unfold Ck.st at ho
  repeat' split at ho
  all_goals first|cases ho|skip
  . simp[Ay,Ck.cells,C_,c_];omega
  exact IP _ _;simp[Ay,IB,C_];exact IP _ _;exact IP _ _;simp[Ay]
 call:=λ_ _ _ _ h=>h.elim
structure Ck.has(K:Ck)(s:GU)(H:Hp):Prop where
 p:H K.p=some (.cells (K.cells s.2))
 s0:H K.s0=some (.map (IB K.m0))
 s1:H K.s1=some (.map (Fh K.m1))
 s2:H K.s2=some (.map (Fh K.m2))
 s3:H K.s3=some (.map (Fh s.1))
 s4:H K.s4=some (.map [])
theorem Ck.ok.has(h:K.ok n0){s:GU}{H:Hp}(a:∀o y,K.st s o=some y->H o=some y):K.has s H:=by
 have h1:=h.nd;simp only[qY,qd,vC,or_false,not_or]at h1;obtain⟨⟨a1,a2,a3,a4,a5⟩,⟨b2,b3,b4,b5⟩,⟨c3,c4,c5⟩,⟨d4,d5⟩,e5,_⟩:=h1;constructor<;>refine a _ _ ?_<;>unfold Ck.st<;>simp[*,Ne.symm,eq_comm]
def CQ(K:Ck)(T:Int->GU->Prop)(H:Hp)(n:Nat):SV->Hp->Nat->Prop:=λv h' n'=>∃e s',v=AA e/\T e s'/\h'=Aq K.st s' H/\n'=n
theorem Ck.ok.ret(b:K.ok n0){T:Int->GU->Prop}{H h2:Hp}{n m:Nat}(d:n0<=n)(f:HQ H n)(e:Int)(a:GU)(c:T e a)(hh:∀j y,Aq K.st a H j=some y->h2 j=some y):Cb n h2 m (AA e) (CQ K T H n):=
 .inr ⟨0,AA e,Aq K.st a H,Or,by simp[C_],λj x g=>⟨hh j x g,b.clo.old a d f j x g⟩,e,a,rfl,c,rfl,rfl⟩
theorem Ck.ok.no(a:K.ok n0){T:Int->GU->Prop}{H h2:Hp}{n m:Nat}(c:n0<=n)(d:HQ H n)(s:GU)(f:∀o y,K.st s o=some y->H o=some y)(e:Int)(b:T e s)(hh:∀j y,H j=some y->h2 j=some y):Cb n h2 m (AA e) (CQ K T H n):=
 a.ret c d e s b (by rw[Cs s H f];exact hh)
theorem Ny(l:List Int)(x:Int):Fh l++[(AA x,.bool true)]=Fh (l++[x]):=by simp[Fh]
theorem Ck.ok.up_ids(d:K.ok n0)(s:GU)(l:List Int){H:Hp}(e:∀o y,K.st s o=some y->H o=some y):Aq K.st (l,s.2) H=h_ H K.s3 (some (.map (Fh l))):=by
 have h1:=d.nd;simp only[qY,qd,vC,or_false,not_or]at h1;obtain⟨⟨a1,a2,a3,a4,a5⟩,⟨b2,b3,b4,b5⟩,⟨c3,c4,c5⟩,⟨d4,d5⟩,e5,_⟩:=h1;funext o;have g:=e o;simp only[Aq,Ck.st,h_]at g ⊢;by_cases b:o=K.p;subst b;simp only[if_true]at g ⊢;rw[nR a4];exact(g _ rfl).symm;by_cases c:o=K.s3;have a:¬K.s3=K.p:=λh=>a4 h.symm;simp[c,a];simp only[b,c,if_false]at g ⊢;split;rename_i y f;exact(g y f).symm;rfl
end
def trL:Tr:=.pure 0<|.pure 1<|.pure 2<|.pure 3<|.pure 5<|.pure 6<|.pure 7<|.pure 8<|.pure 9<|.one 4<|.one 10<|.one 11<|.one 12<|.one 13 .nil
section
variable{K:Ck}{n0:Nat}
end
section
variable{K:Ck}{n0:Nat}
end
structure UM(m2:List Int)(h:AF):Prop where
 I:h.I=0\/h.I∈m2
 dlen:h.Y.length<=16
 Y:∀x∈h.Y,x.rev∈m2
 llen:h.Z.length<=64
 Z:∀x∈h.Z,x.rev∈m2
structure Nq(m2:List Int)(h:AF):Prop extends UM m2 h where
 inc:∀i (hi:i<h.Y.length),0<i->h.Y[i-1].rev<h.Y[i].rev
 mv:0<=h.move
 dmv:∀x∈h.Y,0<=x.move
section
variable{K:Ck}{n0:Nat}
end
def Kq:Nat->List AD->List Int
 | 0,_=>[]
 | N+1,l=>l.flatMap λx=>if x.l=6 then x.id::Kq N x.W else if x.l=7 then x.id::x.R.flatMap λr=>r.cells.flatMap λc=>c.id::Kq N c.W else[]
def Ks(N:Nat)(r:AM):List Int:=r.cells.flatMap λc=>c.id::Kq N c.W
def Iu(N:Nat)(x:AD):List Int:=if x.l=6 then x.id::Kq N x.W else if x.l=7 then x.id::x.R.flatMap (Ks N)else[]
theorem VX(N:Nat)(l:List AD):Kq (N+1) l=l.flatMap (Iu N):=rfl
def dg(m2:List Int):Nat->List AD->Prop
 | 0,_=>True
 | N+1,l=>∀x∈l,XG x/\Nq m2 x.H/\dg m2 N x.W/\(x.l=7->x.R≠[])/\∀r∈x.R,(Nq m2 r.H/\r.cells≠[])/\∀c∈r.cells,Nq m2 c.H/\dg m2 N c.W
theorem aZ(m2:List Int)(N:Nat):dg m2 N []:=by cases N<;>simp[dg]
def trP:Tr:=.pure 0<|.pure 1<|.pure 2<|.pure 3<|.pure 4<|.pure 5<|.one 6<|.one 7 .nil
section
variable{K:Ck}{n0:Nat}
theorem Eb{α β:Type}(f:α->List β)(l:List α)(i:Nat)(h:i<l.length):(l.take (i+1)).flatMap f=(l.take i).flatMap f++f l[i]:=by
 rw[qa h,qS];simp
end
section
variable{K:Ck}{n0:Nat}
theorem Ck.ok.up_cnt(_hK:K.ok n0)(s:GU)(c:Int){H:Hp}(b:∀o y,K.st s o=some y->H o=some y):Aq K.st (s.1,c) H=h_ H K.p (some (.cells (K.cells c))):=by
 funext o;have g:=b o;simp only[Aq,Ck.st,h_]at g ⊢;by_cases a:o=K.p;simp[a];simp only[a,if_false]at g ⊢;split;rename_i y d;exact(g y d).symm;rfl
def D4(x:AD):List Int:=if x.l=6\/x.l=7 then[x.id]else[]
end
def i8:Tr:=.pure 0<|.pure 1<|.pure 2<|.pure 4<|.pure 5<|.pure 6<|.pure 7<|.pure 9<|.pure 10<|.pure 11<|.pure 12<|.one 3<|.one 8<|.one 13<|.one 14<|.one 15<|.one 16 .nil
section
variable{K:Ck}{n0:Nat}
def S5(N:Nat)(c:AG):List Int:=c.id::Kq N c.W
theorem Z9(N:Nat)(r:AM):Ks N r=r.cells.flatMap (S5 N):=rfl
theorem F8{a:Int}{l:List Int}(h:BH (a::l)=0):a=0:=by
 rw[BH]at h;by_cases g:a=0;exact g;rw[nR g]at h;exact h
theorem Su{a b:Int}{l:List Int}(h:BH (a::b::l)=0):a=0/\b=0:=by
 have h1:=F8 h;rw[BH,nS h1]at h;exact⟨h1,F8 h⟩
end
def hb(h:Hp)(n:Nat)(a0:List (Int×Int))(a1 a2:List Int):Hp:=
 h_ (h_ (h_ (h_ (h_ (h_ h (n+1) (some (.map (IB a0)))) (n+2) (some (.map (Fh a1)))) (n+3) (some (.map (Fh a2)))) (n+4) (some (.map []))) (n+5) (some (.map []))) (n+6) (some (.cells [.map (n+1),.map (n+2),.map (n+3),.map (n+4),.map (n+5),AA 0]))
section
variable{h:Hp}{n:Nat}{a0:List (Int×Int)}{a1 a2:List Int}
theorem Qj:hb h n a0 a1 a2 (n+6)=some (.cells [.map (n+1),.map (n+2),.map (n+3),.map (n+4),.map (n+5),AA 0]):=by simp[hb,h_]
theorem S3:hb h n a0 a1 a2 (n+1)=some (.map (IB a0)):=by simp[hb,h_]
theorem Ig:hb h n a0 a1 a2 (n+2)=some (.map (Fh a1)):=by simp[hb,h_]
theorem Mn:hb h n a0 a1 a2 (n+3)=some (.map (Fh a2)):=by simp[hb,h_]
theorem V4:hb h n a0 a1 a2 (n+4)=some (.map []):=by simp[hb,h_]
theorem ZM:hb h n a0 a1 a2 (n+5)=some (.map []):=by simp[hb,h_]
theorem ly(b:List (Int×Int)):h_ (hb h n a0 a1 a2) (n+1) (some (.map (IB b)))=hb h n b a1 a2:=by funext j;simp only[hb,h_];grind
theorem l0(b:List Int):h_ (hb h n a0 a1 a2) (n+2) (some (.map (Fh b)))=hb h n a0 b a2:=by funext j;simp only[hb,h_];grind
theorem l8(b:List Int):h_ (hb h n a0 a1 a2) (n+3) (some (.map (Fh b)))=hb h n a0 a1 b:=by funext j;simp only[hb,h_];grind
theorem XP(a:∀j y,h j=some y->j<n):∀j y,hb h n a0 a1 a2 j=some y->j<n+7:=λj y e=>by
 have:=a j y;simp only[hb,h_]at e;grind
theorem dM(a:∀j y,h j=some y->j<n):∀j y,h j=some y->hb h n a0 a1 a2 j=some y:=λj y e=>by
 have:=a j y;simp only[hb,h_];grind
end
def ip:Tr:=.pure 0<|.pure 1<|.pure 3<|.pure 4<|.one 2<|.one 5<|.one 6<|.one 7<|.one 8 .nil
def bB:Tr:=.pure 0<|.pure 1<|.pure 2<|.pure 4<|.pure 5<|.pure 6<|.one 3<|.one 7<|.one 8<|.one 9<|.one 10<|.one 11<|.one 12<|.one 13<|.one 14<|.one 15<|.one 16<|.one 17<|.one 18<|.one 19<|.one 20<|.one 21 .nil
structure bv(N:Nat)(d:AH):Prop where
 W:dg (BD [] (d.V.map (·.id))) N d.W
 ids:∀i∈Kq N d.W,1<=i/\i<=1073741824
 nodup:(Kq N d.W).Nodup
 V:FX d.V=0
 T0 : Nq (BD [] (d.V.map (·.id))) d.T0
 endI:d.T0.I=0
def M2:Nat->List AD->Nat
 | 0,_=>0
 | N+1,l=>(l.map λx=>1+M2 N x.W+(x.R.map λr=>(r.cells.map λc=>1+M2 N c.W).sum).sum).sum
def Tk(N:Nat)(l:List AG):Nat:=(l.map λc=>1+M2 N c.W).sum
def QY(N:Nat)(l:List AM):Nat:=(l.map λr=>Tk N r.cells).sum
def OM(N:Nat)(l:List AD):Nat:=(l.map λx=>1+M2 N x.W+QY N x.R).sum
theorem Yt(N:Nat)(l:List AD):M2 (N+1) l=OM N l:=rfl
theorem OL{α:Type}{f:α->Nat}{l:List α}{i:Nat}(hi:i<l.length){x:α}(a:l[i]=x):((l.take (i+1)).map f).sum=((l.take i).map f).sum+f x:=by
 rw[qa hi,a];simp
theorem UV(N:Nat):∀l:List AD,l.length<=OM N l
 | []=>IO _
 | x::l=>by
  have:=UV N l;simp only[OM,qg,wp,qo]at this ⊢;omega
def MW:Nat->List AD->Prop
 | 0,_=>False
 | N+1,l=>l.length<=150/\∀x∈l,(x.J.size<=1000/\x.R.length<=20)/\MW N x.W/\∀r∈x.R,r.cells.length<=20/\∀c∈r.cells,MW N c.W
def Z2(N:Nat)(x:AD):Prop:=(x.J.size<=1000/\x.R.length<=20)/\MW N x.W/\∀r∈x.R,r.cells.length<=20/\∀c∈r.cells,MW N c.W
def dE(N:Nat)(l:List AD)(c0:Int)(p:Nat)(H:Hp)(n:Nat):SV->Hp->Nat->Prop:=λv h' n'=>∃b c,v=.bool b/\h'=h_ H p (some (.cells [AA c]))/\n'=n/\(b=true->0<=c0/\c0<=150->0<=c/\c+M2 N l<=c0/\MW N l)
def ZT(N:Nat)(l:List AD):Prop:=∀(dp:Int)(p:Nat)(c0:Int)(H:Hp)(n:Nat),H p=some (.cells [AA c0])->BF prog 97 [AI l,AA dp,.ptr p 0] H n (dE N l c0 p H n)
theorem OK{α:Type}{p:α->Prop}{l:List α}{i:Nat}(hi:i<l.length){x:α}(b:l[i]=x)(h:∀y∈l.take i,p y)(h2:p x):∀y∈l.take (i+1),p y:=λy a=>by
 rw[qa hi,b]at a;rcases qf.1 a with a|a;exact h y a;rw[qA.1 a];exact h2
theorem d33(N:Nat)(l:List AD)(hl:l.length<=1048576)(hr:∀x∈l,x.H.Q.length<=1048576/\ZT N x.W/\x.R.length<=1048576/\∀r∈x.R,r.cells.length<=1048576/\∀c∈r.cells,ZT N c.W):ZT (N+1) l:=λdp p c0 H n hp=>by
 refine E8 func97 rfl λho=>?_;have hpn:p<n:=(ho p _ hp).1;obtain⟨B,hB⟩:∃B:Int->Hp,∀c,B c=h_ H p (some (.cells [AA c])):=⟨_,λ_=>rfl⟩
 have hBp:∀c,B c p=some (.cells [AA c]):=λc=>by rw[hB,AC]
 have hBs:∀c c',h_ (B c) p (some (.cells [AA c']))=B c':=λc c'=>by rw[hB,hB,AZ]
 have hB0 : B c0 = H := by rw [hB]; funext j; simp only [h_]; split; · subst_vars; exact hp.symm
                           rfl
 have An:∀(b:Bool)(c:Int)(m:Nat),(b=true->0<=c0/\c0<=150->0<=c/\c+M2 (N+1) l<=c0/\MW (N+1) l)->Cb n (B c) m (.bool b) (dE (N+1) l c0 p H n):=λb c m hb=>
  .inr ⟨0,.bool b,B c,Or,by simp[C_],λj y e=>⟨e,by
   rw[hB]at e;by_cases h:j=p;subst h;rw[AC]at e;cases e;exact⟨hpn,by simp[Ay,C_,c_]⟩;rw[AB _ _ h]at e;exact ho j y e⟩,b,c,rfl,hB c,rfl,hb⟩
 have ret:∀(c:Int)(m:Nat),Cb n (B c) m (.bool false) (dE (N+1) l c0 p H n):=λc m=>An false c m nO;refine Ao 0 [(0,AI l),(1,AA dp),(2,.ptr p 0)] (B c0) n ?_ (λm hm=>?_);rw[hB0];simp[go_sem,Or];refine AR 0 (α:=Int) (λ_=>[]) (λc=>B c) (λc m=>n<=m/\(0<=c0/\c0<=150->0<=c/\c+OM N l<=c0/\∀x∈l,Z2 N x)) ?_ (λc m hm=>?_);refine Ao 0 [(0,AI l),(1,AA dp),(2,.ptr p 0),(7,AA 0)] (B c0) n ?_ (λm hm=>?_);simp[go_sem,Or,hm];refine AP (As 0 (α:=Nat×Int) (λq=>[(0,AI l),(1,AA dp),(2,.ptr p 0),(7,AA q.1)]) (λq=>B q.2) (λq m=>q.1<=l.length/\n<=m/\(0<=c0/\c0<=150->0<=q.2/\q.2+OM N (l.take q.1)<=c0/\∀x∈l.take q.1,Z2 N x)) (λq=>l.length-q.1) (0,c0) ⟨qi _,hm,λg=>⟨g.1,by simp[OM],by simp⟩⟩ ?_ AE ?_);simp[go_sem,look,Or];rintro⟨i,c⟩ m ⟨hi,hm,hG⟩;dsimp only at hi hG ⊢;by_cases hlt:i<l.length;obtain⟨x,hx⟩:∃x,l[i]=x:=⟨_,rfl⟩
 have hxm:x∈l:=by rw[<-hx];exact qp hlt
 obtain⟨x1,x2,x3,x4⟩:=hr x hxm;have w1:=wS i nN;refine Ao 0 [(0,AI l),(1,AA dp),(2,.ptr p 0),(7,AA i)] (B c) n ?_ (λm hm=>?_);simp[go_sem,Or,hm,hlt];refine AR 0 (α:=Int) (λ_=>[(0,AI l),(1,AA dp),(2,.ptr p 0),(7,AA i)]) (λc=>B c) (λc m=>n<=m/\(0<=c0/\c0<=150->0<=c/\c+OM N (l.take (i+1))<=c0/\Z2 N x)) ?_ (λc m hm=>?_);refine AP ?_;refine EF 0 (α:=Int) (λ_=>[(0,AI l),(1,AA dp),(2,.ptr p 0),(7,AA i)]) (λc=>B c) (λc' m=>n<=m/\(0<=c0/\c0<=150->c'=c-1)) ?_ (λc' m hm=>?_);simp[go_sem,Or,hm,hBp,hBs];exact⟨_,λg1 g2=>by obtain⟨q1,q2,_⟩:=hG ⟨g1,g2⟩;rw[D5]<;>omega,AE⟩;obtain⟨hm,hc'⟩:=hm;refine AR 0 (α:=Int) (λ_=>[(0,AI l),(1,AA dp),(2,.ptr p 0),(7,AA i)]) (λc=>B c) (λc2 m=>n<=m/\(0<=c0/\c0<=150->0<=c2/\c2+M2 N x.W<=c'/\(x.J.size<=1000/\x.R.length<=20)/\MW N x.W)) ?_ (λc m hm=>?_);refine EF 0 (α:=Bx×Int) (λq=>[(0,AI l),(1,AA dp),(2,.ptr p 0),(7,AA i),(68,.bool q.1.b)]) (λq=>B q.2) (λq m=>n<=m/\(q.1.b=false->0<=c0/\c0<=150->0<=q.2/\q.2+M2 N x.W<=c'/\(x.J.size<=1000/\x.R.length<=20)/\MW N x.W)) ?_ (λq m hm=>?_);generalize c'=c at hc' ⊢;by_cases a1:c<0;simp[go_sem,Or,hm,hBp,a1];exact⟨⟨true⟩,c,by simp,rfl,AE⟩;by_cases a2:dp=0;simp[go_sem,Or,hm,hBp,a1,a2];exact⟨⟨true⟩,c,by simp,rfl,AE⟩;by_cases a3:(1000:Int)<x.J.size;simp[go_sem,Or,hm,hBp,a1,a2,hlt,hx,qz,a3];exact⟨⟨true⟩,c,by simp,rfl,AE⟩;by_cases a4:(60:Int)<x.H.Q.length;simp[go_sem,Or,hm,hBp,a1,a2,hlt,hx,qz,a3,a4];exact⟨⟨true⟩,c,by simp,rfl,AE⟩;by_cases a5:(20:Int)<x.R.length;simp[go_sem,Or,hm,hBp,a1,a2,hlt,hx,qz,a3,a4,a5];exact⟨⟨true⟩,c,by simp,rfl,AE⟩;simp[go_sem,hBp,a1,a2,hlt,hx,qz,a3,a4,a5];refine qI (x2 _ p c (B c) m (hBp c)) ?_;rintro v H' n' ⟨b,c2,rfl,rfl,rfl,hb⟩;rw[hBs];simp[go_sem,Or,hm];exact⟨⟨!b⟩,c2,λg ga gb=>by
  have g1:0<=c0/\c0<=150:=⟨ga,gb⟩
  obtain⟨q1,q2,q3⟩:=hG g1;have e1:=hc' g1;obtain⟨r1,r2,r3⟩:=hb (by simpa using g) ⟨by omega,by omega⟩;exact⟨r1,r2,⟨by omega,by omega⟩,r3⟩,rfl,AE⟩
 obtain⟨⟨b⟩,c2⟩:=q;obtain⟨hm,hb⟩:=hm;dsimp only at hb ⊢;cases b with
 | true=>exact AJ (by simp[go_sem];exact ret c2 _)
 | false=>exact AJ (by simp[go_sem,Or,hm];exact⟨_,λg1 g2=>hb rfl ⟨g1,g2⟩,AE⟩)
 obtain⟨hm,hx2⟩:=hm;have hts:=OL (f:=λx=>1+M2 N x.W+QY N x.R) hlt hx;change OM N _=OM N _+_ at hts;obtain⟨S,hS⟩:∃S:Nat,S=OM N (l.take i)+1+M2 N x.W:=⟨_,rfl⟩
 have hSt:OM N (l.take (i+1))=S+QY N x.R:=by omega
 rw[hSt];clear hts;have hG2:0<=c0/\c0<=150->0<=c/\c+S<=c0/\(x.J.size<=1000/\x.R.length<=20)/\MW N x.W:=λg=>by
  obtain⟨q1,q2,_⟩:=hG g;obtain⟨r1,r2,r3,r4⟩:=hx2 g;have:=hc' g;exact⟨r1,by omega,r3,r4⟩
 clear hG hx2 hc';refine Ao 0 [(0,AI l),(1,AA dp),(2,.ptr p 0),(7,AA i),(8,AA 0)] (B c) n ?_ (λm hm=>?_);simp[go_sem,Or,hm];refine AP (As 0 (α:=Nat×Int) (λq=>[(0,AI l),(1,AA dp),(2,.ptr p 0),(7,AA i),(8,AA q.1)]) (λq=>B q.2) (λq m=>q.1<=x.R.length/\n<=m/\(0<=c0/\c0<=150->0<=q.2/\q.2+(S+QY N (x.R.take q.1):Nat)<=c0/\∀r∈x.R.take q.1,r.cells.length<=20/\∀z∈r.cells,MW N z.W)) (λq=>x.R.length-q.1) (0,c) ⟨qi _,hm,λg=>⟨(hG2 g).1,(hG2 g).2.1,by simp⟩⟩ ?_ AE ?_);simp[go_sem,look,Or];have hx3:0<=c0/\c0<=150->(x.J.size<=1000/\x.R.length<=20)/\MW N x.W:=λg=>(hG2 g).2.2;clear hG2;rintro⟨j,c⟩ m ⟨hj,hm,hG⟩;dsimp only at hj hG ⊢;by_cases hjt:j<x.R.length;obtain⟨y,hy⟩:∃y,x.R[j]=y:=⟨_,rfl⟩
 have hym:y∈x.R:=by rw[<-hy];exact qp hjt
 obtain⟨y1,y2⟩:=x4 y hym;have w2:=wS j nN;have hts:=OL (f:=λr:AM=>Tk N r.cells) hjt hy;change QY N _=QY N _+_ at hts;obtain⟨U,hU⟩:∃U:Nat,U=S+QY N (x.R.take j):=⟨_,rfl⟩
 have hUt:S+QY N (x.R.take (j+1))=U+Tk N y.cells:=by omega
 rw[<-hU]at hG;clear hts;refine Ao 0 [(0,AI l),(1,AA dp),(2,.ptr p 0),(7,AA i),(8,AA j)] (B c) n ?_ (λm hm=>?_);simp[go_sem,Or,hm,hlt,hx,qz,hjt];refine AR 0 (α:=Int) (λ_=>[(0,AI l),(1,AA dp),(2,.ptr p 0),(7,AA i),(8,AA j)]) (λc=>B c) (λc m=>n<=m/\(0<=c0/\c0<=150->0<=c/\c+(S+QY N (x.R.take (j+1)):Nat)<=c0/\y.cells.length<=20/\∀z∈y.cells,MW N z.W)) ?_ (λc m hm=>?_);refine AP ?_;refine Bz 0 [(0,AI l),(1,AA dp),(2,.ptr p 0),(7,AA i),(8,AA j)] (B c) (λm=>n<=m/\y.cells.length<=20) (AJ ?_) (λm hm=>?_);by_cases a:(20:Int)<y.cells.length;simp[go_sem,hlt,hx,qz,hjt,hy,qR,a];exact ret c _;simp[go_sem,hlt,hx,qz,hjt,hy,qR,a,Or,hm];omega;obtain⟨hm,hyc⟩:=hm;refine Ao 0 [(0,AI l),(1,AA dp),(2,.ptr p 0),(7,AA i),(8,AA j),(9,AA 0)] (B c) n ?_ (λm hm=>?_);simp[go_sem,Or,hm];refine AP (As 0 (α:=Nat×Int) (λq=>[(0,AI l),(1,AA dp),(2,.ptr p 0),(7,AA i),(8,AA j),(9,AA q.1)]) (λq=>B q.2) (λq m=>q.1<=y.cells.length/\n<=m/\(0<=c0/\c0<=150->0<=q.2/\q.2+(U+Tk N (y.cells.take q.1):Nat)<=c0/\∀z∈y.cells.take q.1,MW N z.W)) (λq=>y.cells.length-q.1) (0,c) ⟨qi _,hm,λg=>⟨(hG g).1,(hG g).2.1,by simp⟩⟩ ?_ AE ?_);simp[go_sem,look,Or];clear hG;rintro⟨k,c⟩ m ⟨hk,hm,hG⟩;dsimp only at hk hG ⊢;by_cases hkt:k<y.cells.length;obtain⟨z,hz⟩:∃z,y.cells[k]=z:=⟨_,rfl⟩
 have hzm:z∈y.cells:=by rw[<-hz];exact qp hkt
 have z1:=y2 z hzm;have w3:=wS k nN;have hts:=OL (f:=λc:AG=>1+M2 N c.W) hkt hz;change Tk N _=Tk N _+_ at hts;refine Ao 0 [(0,AI l),(1,AA dp),(2,.ptr p 0),(7,AA i),(8,AA j),(9,AA k)] (B c) n ?_ (λm hm=>?_);simp[go_sem,Or,hm,hlt,hx,qz,hjt,hy,qR,hkt];refine AR 0 (α:=Int) (λ_=>[(0,AI l),(1,AA dp),(2,.ptr p 0),(7,AA i),(8,AA j),(9,AA k)]) (λc=>B c) (λc m=>n<=m/\(0<=c0/\c0<=150->0<=c/\c+(U+Tk N (y.cells.take (k+1)):Nat)<=c0/\MW N z.W)) ?_ (λc m hm=>?_);refine AP ?_;refine EF 0 (α:=Int) (λ_=>[(0,AI l),(1,AA dp),(2,.ptr p 0),(7,AA i),(8,AA j),(9,AA k)]) (λc=>B c) (λc' m=>n<=m/\(0<=c0/\c0<=150->c'=c-1)) ?_ (λc' m hm=>?_);simp[go_sem,Or,hm,hBp,hBs];exact⟨_,λg1 g2=>by obtain⟨q1,q2,_⟩:=hG ⟨g1,g2⟩;rw[D5]<;>omega,AE⟩;obtain⟨hm,hc'⟩:=hm;refine EF 0 (α:=Bx×Int) (λq=>[(0,AI l),(1,AA dp),(2,.ptr p 0),(7,AA i),(8,AA j),(9,AA k),(132,.bool q.1.b)]) (λq=>B q.2) (λq m=>n<=m/\(q.1.b=false->0<=c0/\c0<=150->0<=q.2/\q.2+M2 N z.W<=c'/\MW N z.W)) ?_ (λq m hm=>?_);generalize c'=c at hc' ⊢;by_cases a1:c<0;simp[go_sem,Or,hm,hBp,a1];exact⟨⟨true⟩,c,by simp,rfl,AE⟩;simp[go_sem,hBp,a1,hlt,hx,qz,hjt,hy,qR,hkt,hz,vB];refine qI (z1 _ p c (B c) m (hBp c)) ?_;rintro v H' n' ⟨b,c2,rfl,rfl,rfl,hb⟩;rw[hBs];simp[go_sem,Or,hm];exact⟨⟨!b⟩,c2,λg ga gb=>by
  have g1:0<=c0/\c0<=150:=⟨ga,gb⟩
  obtain⟨q1,q2,q3⟩:=hG g1;have e1:=hc' g1;exact hb (by simpa using g) ⟨by omega,by omega⟩,rfl,AE⟩
 obtain⟨⟨b⟩,c2⟩:=q;obtain⟨hm,hb⟩:=hm;dsimp only at hb ⊢;cases b with
 | true=>exact AJ (by simp[go_sem];exact ret c2 _)
 | false=>exact AJ (by simp[go_sem,Or,hm];exact⟨_,λg1 g2=>by
  obtain⟨q1,q2,_⟩:=hG ⟨g1,g2⟩;obtain⟨r1,r2,r3⟩:=hb rfl ⟨g1,g2⟩;have:=hc' ⟨g1,g2⟩;exact⟨r1,by omega,r3⟩,AE⟩)
 obtain⟨hm,hz2⟩:=hm;refine AJ ?_;simp[go_sem,w3,Or,-Int.natCast_add];exact⟨k+1,by omega,c,⟨by omega,hm,λga gb=>⟨(hz2 ⟨ga,gb⟩).1,(hz2 ⟨ga,gb⟩).2.1,OK hkt hz (hG ⟨ga,gb⟩).2.2 (hz2 ⟨ga,gb⟩).2.2⟩⟩,rfl,AE⟩;refine AJ ?_;have hkk:k=y.cells.length:=by omega
 rw[hkk,qn]at hG;simp[go_sem,hlt,hx,qz,hjt,hy,qR,hkt,Or,hm];exact⟨c,λg1 g2=>⟨(hG ⟨g1,g2⟩).1,by have:=(hG ⟨g1,g2⟩).2.1;omega,hyc,(hG ⟨g1,g2⟩).2.2⟩,AE⟩;obtain⟨hm,hy2⟩:=hm;refine AJ ?_;simp[go_sem,w2,Or,-Int.natCast_add];exact⟨j+1,by omega,c,⟨by omega,hm,λga gb=>⟨(hy2 ⟨ga,gb⟩).1,(hy2 ⟨ga,gb⟩).2.1,OK hjt hy (hG ⟨ga,gb⟩).2.2 (hy2 ⟨ga,gb⟩).2.2⟩⟩,rfl,AE⟩;refine AJ ?_;have hjj:j=x.R.length:=by omega
 rw[hjj,qn]at hG;simp[go_sem,hlt,hx,qz,hjt,Or,hm];exact⟨c,λg1 g2=>⟨(hG ⟨g1,g2⟩).1,(hG ⟨g1,g2⟩).2.1,(hx3 ⟨g1,g2⟩).1,(hx3 ⟨g1,g2⟩).2,(hG ⟨g1,g2⟩).2.2⟩,AE⟩;obtain⟨hm,hx2⟩:=hm;refine AJ ?_;simp[go_sem,w1,Or,-Int.natCast_add];exact⟨i+1,by omega,c,⟨by omega,hm,λga gb=>⟨(hx2 ⟨ga,gb⟩).1,by have:=(hx2 ⟨ga,gb⟩).2.1;omega,OK hlt hx (hG ⟨ga,gb⟩).2.2 (hx2 ⟨ga,gb⟩).2.2⟩⟩,rfl,AE⟩;refine AJ ?_;have hii:i=l.length:=by omega
 rw[hii,qn]at hG;simp[go_sem,hlt,hm];exact⟨c,λg1 g2=>hG ⟨g1,g2⟩,AE⟩;obtain⟨hm,hl2⟩:=hm;refine AJ ?_;simp[go_sem];refine An true c _ λ_ g=>?_;obtain⟨q1,q2,q3⟩:=hl2 g;have:=UV N l;exact⟨q1,by rw[Yt];exact q2,by omega,q3⟩
theorem dB{B:Nat}(a:B<=1048576):∀(N:Nat)(l:List AD),lim AF.D B N l->ZT N l
 | 0,_,h=>h.elim
 | N+1,l,h=>by
  obtain⟨h1,_,b⟩:=CX.1 h;refine d33 N l nN λx e=>?_;obtain⟨a1,a2,a3,a4⟩:=b x e;exact⟨a1.Q,dB a N x.W a2,by omega,λr hr=>⟨by have:=(a4 r hr).2.1;omega,λc d=>dB a N c.W ((a4 r hr).2.2 c d).2⟩⟩
def anyE(v:SV):Prop:=∃e:Int,v=AA e
def trS:Tr:=.pure 0<|.pure 1<|.pure 3<|.pure 4<|.pure 6<|.pure 7<|.pure 9<|.pure 10<|.one 2<|.one 5<|.one 8<|.one 11<|.one 12<|.one 13<|.one 14 .nil
def fV:Tr:=.pure 0<|.pure 1<|.pure 2<|.pure 4<|.pure 5<|.pure 6<|.pure 7<|.one 3<|.one 8<|.one 9<|.one 10<|.one 11 .nil
theorem ka(l:List Fb)(i:Nat)(hi:i<l.length):PC 190 [AA i,.q [CA l]] (AA (l[i]).id):=by
 intro h n;refine gq func190 rfl λa=>?_;simp[go_sem,hi,Fb.h];exact An a rfl rfl
def trO:Tr:=.pure 0<|.pure 1<|.pure 3<|.pure 4<|.pure 5<|.pure 6<|.pure 7<|.one 2<|.one 8<|.one 9<|.one 10<|.one 11 .nil
theorem kh(l:List AX)(i:Nat)(hi:i<l.length):PC 195 [AA i,.q [A8 l]] (AA (l[i]).id):=by
 intro h n;refine gq func195 rfl λa=>?_;simp[go_sem,hi,AX.h];exact An a rfl rfl
theorem kg(x y:AX):PC 194 [y.h,.q [AA x.id,AA x.parent,.str x.O,AA x.time,.str x.J,.bool x.done]] (.bool (decide (y.id=x.parent))):=by
 intro h n;refine gq func194 rfl λa=>?_;simp[go_sem,AX.h,AC];exact Bq a (AY a (IO _) AE) (by by_cases h:y.id=x.parent<;>simp[h]) rfl
def trT:Tr:=.pure 0<|.pure 1<|.pure 3<|.pure 4<|.pure 6<|.pure 7<|.pure 11<|.pure 12<|.pure 16<|.pure 17<|.one 2<|.one 5<|.one 8<|.one 9<|.one 10<|.one 13<|.one 14<|.one 15<|.one 18<|.one 19<|.one 20<|.one 21 .nil
end Go.Proofs.YthinbkgpjmjfeaaGreatDoor.Sh
