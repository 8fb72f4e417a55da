/- A part of the proof (part 2 of 17). -/
import Derived.Test.YthinbkgpjmjfeaaGreatDoorN1
import Derived.ArgAppend
import Derived.Tactics
import Derived.TacticsIn
import Derived.OrdersIn
import Derived.RangeFuncSeq
import Derived.RangeFuncLeaves
import Derived.Orders
namespace Go.Proofs.YthinbkgpjmjfeaaGreatDoor.Sh
abbrev uh:=@VL.mono0
abbrev uk:=@AU.mono
abbrev wK:=@V.mono
abbrev wR:=@V.mono0
abbrev wT:=@DV.refl
abbrev wX:=@V2.mono
abbrev wY:=@AU.of_get
abbrev wo:=@AU.append
section
variable{P:Program}{ev:Operand->Value}{o:Oper}{h:Hp}{k:Nat}{c:Cx}
theorem LX(w:World):w.drew.heap=w.heap:=rfl
def Cx.drew(c:Cx):Cx:={ c with w:=c.w.drew }
theorem Cx.zc(c:Cx):DV c c.drew:=⟨λ_ _ e=>e,IO _,λ_ _ h=>⟨h,rfl⟩,λ_=>IO _,rfl,rfl,⟨rfl,vZ _⟩⟩
theorem CB.drew(R:CB h c):CB h c.drew:=
 ⟨λo x e=>(R.obj o x e).mono c.zc λ_ _=>rfl,R.inj2,R.own2⟩
def Cx.kill(c:Cx)(o:Nat):Cx:={ c with own:=λb=>c.own b/\∀st,c.ρ o≠some (b,st) }
theorem Cx.kill_ext(c:Cx)(o:Nat):DV c (c.kill o):=⟨λ_ _ e=>e,IO _,λ_ _ h=>⟨λg=>h g.1,rfl⟩,λ_=>IO _,rfl,rfl,⟨rfl,IO _⟩⟩
theorem CB.kill(R:CB h c)(o:Nat){x:A9}(l:h o=some x)(g:x.lst=false:=by rfl):CB (h_ h o none) (c.kill o):=by
 have get:∀j y,h_ h o none j=some y->j≠o/\h j=some y:=λj y e=>by
  simp only[h_]at e;split at e;cases e;exact⟨by assumption,e⟩
 refine⟨λj y e=>?_,λi j y y' b d a n p=>?_,λb=>?_⟩;exact(R.obj j y (get j y e).2).mono (c.kill_ext o) λ_ _=>rfl;exact R.inj2 i j y y' b (get i y d).2 (get j y' a).2 n p;constructor;rintro⟨g1,q⟩;obtain⟨j,y,d,a⟩:=(R.own2 b).1 g1;have f:j≠o:=by
  rintro rfl;rw[l]at d;cases d;rcases a with⟨st,a⟩|⟨a,_⟩
  exact q st a;rw[g]at a;cases a
 exact⟨j,y,by simp[h_,f,d],a⟩;rintro⟨j,y,d,a⟩;obtain⟨f,d⟩:=get j y d;exact⟨(R.own2 b).2 ⟨j,y,d,a⟩,λk m=>f (R.inj2 j o y x b d l a (.inl ⟨k,m⟩))⟩
theorem O8{b:List SV}{d:Option TypeId}{vs:List Value}{arr:Array Value}{e:TypeId}(R:CB h c)(hk:c.ρ k=none)(g:AU (V c) b vs)(h1:∀x∈vs,x.oneCell'=true)
 (f:∀(i:Nat)(x:Value),vs[i]? = some x->arr[i]? = some x) (a:Ty d 0 e):CB (h_ h k (some (.cells b d))) (c.alloc k (.cells arr e)):=
 R.alloc hk ⟨c.w.heap.size,0,arr,e,vs,by simp[Cx.alloc],by simp[Cx.alloc,Bu],λi x j=>by simpa using f i x j,wX (c.zf k _ hk) g,h1,a⟩
theorem eI{t2 e:TypeId}{z m:Nat}{u:Value}{a:Option Addr}{cap:Nat}{vs:List Value}(h2:P.underlying t2=some (.slice e))(g:u=.slice a m cap)(f:vs.length=m*z)
 (h1:∀x∈vs,x.oneCell'=true) (w:World)
 (d:match a with|some a=>(vs≠[]->a.spot=none)/\∀(i:Nat)(x:Value),vs[i]? = some x->w.cell? ⟨a.block,a.off+i,none⟩=some x|none=>m=0/\cap=0/\vs=[]):Src P z t2 u m vs w:=by
 subst g;have c:∀w':World,(∀b,w'.cell? b=w.cell? b)->(Builtin.firstCells z m (.slice a m cap)).run P w'=.ok vs.toArray w':=λw' hw=>by
  cases a with
  | none=>obtain⟨_,_,rfl⟩:=d;simp[Builtin.firstCells]
  | some a=>
   have:=run_loadCells_list (P:=P) w' a vs (λj v hv=>by rw[DY (d.1 (by rintro rfl;simp at hv)),hw];exact d.2 j v hv);rw[f]at this;simpa[Builtin.firstCells]using this
 exact⟨.inl ⟨e,h2⟩,λw'=>by simp[Builtin.lenOf],c w λ_=>rfl,c w.drew λ_=>rfl,f,h1⟩
theorem Xu{q off:Nat}{J xs L:List SV}{ty ty':Option TypeId}{d:List Value}{b st n:Nat}(R:CB h c)(hk:c.ρ k=none)(F:h q=some (.cells J ty))(U:∀t,ty'=some t->off=0/\ty=some t)(C:c.ρ q=some (b,st))
 (g:Cb J off n=some xs) (G:st+off+n+d.length<=rm c.w b) (hy:AU (V c) L d) (h1:∀x∈d,x.oneCell'=true):
 ∃c':Cx,c'.w=c.w.setCells b (st+off+n) d/\c'.ρ=(λj=>if j=k then some (b,st+off)else c.ρ j)/\CB (h_ (h_ h q none) k (some (.cells (xs++L) ty'))) c'/\DV c c'/\
  (∀j,j<d.length->(c.w.cell? ⟨b,st+off+n+j,none⟩).isSome=true)/\(∀j,j<d.length->c.w.frozen? ⟨b,st+off+n+j,none⟩=false):=by
 have hne:q≠k:=by rintro rfl;rw[C]at hk;cases hk
 have hn:=R.none_of hk;obtain⟨a,X,arr,e,vs,g1,I,g3,g4,g5,g6⟩:=R.obj _ _ F;rw[C]at g1;cases g1;obtain⟨hle,rfl⟩:=E4 g;have S:rm c.w b=arr.size:=by simp[rm,I]
 rw[S]at G;have hlen:=g4.length;have f:∀j,j<d.length->(c.w.cell? ⟨b,st+off+n+j,none⟩).isSome=true:=λj v=>by
  simp only[World.cell?,I];rw[vj mq];rfl
 have B:∀j,c.w.frozen? ⟨b,st+off+n+j,none⟩=false:=λj=>by simp[World.frozen?,I]
 have r1:=run_storeCells_cells (P:=default) b (st+off+n) d 0 c.w (by simpa using f) (by simpa using λj _=>B j) h1;have D:=run_storeCells_at (P:=default) b (st+off+n) e d 0 arr c.w I mq h1;rw[r1]at D;simp only[wz,Result.ok.injEq,true_and]at D;have z:=setRow_heap c.w b arr (arr.toList.take (st+off+n)++d++arr.toList.drop (st+off+n+d.length)).toArray e (0,0) I;rw[<-D]at z;have A:∀a,a≠b->(c.w.setCells b (st+off+n) d).heap[a]? = c.w.heap[a]?:=λa hb=>by rw[D];exact LD _ _ _ hb
 have T:(c.w.setCells b (st+off+n) d).heap.size=c.w.heap.size:=by rw[D];exact MI _ _ _
 refine⟨{ ρ:=λj=>if j=k then some (b,st+off)else c.ρ j,own:=c.own,w:=c.w.setCells b (st+off+n) d,bk:=c.bk },rfl,rfl,?_⟩;have E:DV c { ρ:=λj=>if j=k then some (b,st+off)else c.ρ j,own:=c.own,w:=c.w.setCells b (st+off+n) d,bk:=c.bk }:=by
  refine⟨λj p r=>?_,by simp[T],λa hb' K=>⟨K,A a ?_⟩,λa=>?_,by rw[D];rfl,by rw[D];rfl,by rw[D];exact⟨rfl,IO _⟩⟩;simp only;split;subst_vars;rw[hk]at r;cases r;exact r;rintro rfl;exact K (R.ownI ⟨q,_,st,F,C⟩);by_cases Z:a=b;subst Z;simp only[rm,I,z];simp;omega;simp[rm,A a Z]
 have get:∀j y,h_ (h_ h q none) k (some (.cells ((J.drop off).take n++L) ty')) j=some y->(j=k/\y=.cells ((J.drop off).take n++L) ty')\/(j≠k/\j≠q/\h j=some y):=λj y e=>by
  simp only[h_]at e;split at e;cases e;exact .inl ⟨by assumption,rfl⟩;split at e;cases e;exact .inr ⟨by assumption,by assumption,e⟩
 have hne':∀j y a,j≠k->BA { ρ:=λj=>if j=k then some (b,st+off)else c.ρ j,own:=c.own,w:=c.w.setCells b (st+off+n) d,bk:=c.bk } j y a->BA c j y a:=λj y a v H=>by
  simp only[BA,v,if_false]at H;exact H
 have u:∀a,BA { ρ:=λj=>if j=k then some (b,st+off)else c.ρ j,own:=c.own,w:=c.w.setCells b (st+off+n) d,bk:=c.bk } k (.cells ((J.drop off).take n++L) ty') a->a=b:=λa H=>by
  rcases H with⟨X,H⟩|⟨H,_⟩
  simp only[if_true]at H;cases H;rfl;cases H
 refine⟨⟨λj y r=>?_,λi j y y' b1 l m M N=>?_,λa=>?_⟩,E,f,λj _=>B j⟩;simp only[h_]at r;split at r;subst_vars;cases r;refine⟨b,st+off,_,e,(vs.drop off).take n++d,by simp,z,λi x g=>?_,wo (wX E ((g4.drop off).take n)) (wX E hy),λx g=>?_,λt l=>?_⟩;have W:((vs.drop off).take n).length=n:=by simp;omega
 simp only[List.getElem?_toArray,qr];have eA:(arr.toList.take (st+off+n)).length=st+off+n:=by simp;omega
 by_cases hi:i<n;rw[wj mq]at g ⊢;rw[vK,my hi,vw]at g;rw[vK,my mq];have:=g3 _ _ g;rw[qq];simpa using this;rw[vR mq,W]at g;have hi2:=(qv.1 g).1;rw[vR mq,eA,wj mq,show st+off+i-(st+off+n)=i-n by omega];exact g;rcases qd.1 g with g|g;exact g5 x (vB (vA g));exact h1 x g;obtain⟨q1,q2⟩:=U t l;obtain⟨q3,q4⟩:=g6 t q2;exact⟨by omega,q4⟩;split at r;cases r;rename_i hj1 Q;refine(R.obj j y r).mono E λY e'=>A Y ?_;rintro rfl;exact Q (R.inj2 j q y _ Y r F e' (.inl ⟨st,C⟩));rcases get i y l with⟨rfl,rfl⟩|⟨hi,O,f1⟩
 rcases get j y' m with⟨rfl,rfl⟩|⟨v,o,f2⟩
 rfl;have:=u _ M;subst this;exact absurd (R.inj2 j q y' _ b1 f2 F (hne' j y' b1 v N) (.inl ⟨st,C⟩)) o;rcases get j y' m with⟨rfl,rfl⟩|⟨v,o,f2⟩
 have:=u _ N;subst this;exact absurd (R.inj2 i q y _ b1 f1 F (hne' i y b1 hi M) (.inl ⟨st,C⟩)) O;exact R.inj2 i j y y' b1 f1 f2 (hne' i y b1 hi M) (hne' j y' b1 v N);rw[R.own2 a];constructor;rintro⟨j,y,l,m⟩;have v:j≠k:=by rintro rfl;rw[hn]at l;cases l
 by_cases o:j=q;subst o;rw[F]at l;cases l;rcases m with⟨s,m⟩|⟨m,_⟩
 rw[C]at m;cases m;exact⟨k,_,by simp[h_];rfl,.inl ⟨st+off,by simp⟩⟩;cases m;exact⟨j,y,by simp[h_,v,o,l],by simpa[BA,v]using m⟩;rintro⟨j,y,l,m⟩;rcases get j y l with⟨rfl,rfl⟩|⟨v,o,l⟩
 rw[u _ m];exact⟨q,_,F,.inl ⟨st,C⟩⟩;exact⟨j,y,l,hne' j y a v m⟩
theorem SX{xs b:List Value}{c:Array Value}(i:Nat)(x:Value)(a:(xs++b)[i]? = some x):((xs++b).toArray++c)[i]? = some x:=by
 have hi:=(qv.1 a).1;rw[vS (by simpa using hi)];simpa using a
theorem MW(w:World)(t m s e:TypeId)(r:IntKind)(i:TypeInfo)(z:Value)(ht:P.underlying t=some (.slice e))(l:P.underlying m=some (.int r))(hi:P.info? e=some i)(q:i.zero=some z)
 (base:Option Addr) (n:Nat) (hn:0<n) (p:i.size≠0) (h1:n<=1073741824) (hb:i.bytes<=65536):
 (Builtin.append_ #[t,m] s #[.slice base 0 0,.int .i64 n]).run P w =
   .ok (.slice (some ⟨w.heap.size,0,none⟩) n (grownCap w n 0 e)) (w.drew.alloc (.cells (Builtin.zeroCells z.cells n++Builtin.zeroCells z.cells (grownCap w n 0 e-n)) e)):=by
 have hw:IntKind.i64.wrap (n:Int)=n:=by rw[IntKind.wrap_i64];omega
 have hmul:n*i.bytes<=1073741824*65536:=Nat.mul_le_mul h1 hb;have b:¬(281474976710656<(n:Int)*(i.bytes:Int)):=by
  have:((n*i.bytes:Nat):Int)<=1073741824*65536:=by omega
  rw[Int.natCast_mul]at this;omega
 have c:Builtin.nextslicecap n 0=n:=by unfold Builtin.nextslicecap;rw[my mq]
 have f:¬(281474976710656<n*i.bytes):=by omega
 have j:¬((n:Int)<0):=by omega
 have h:max (n:Int) 0=n:=by omega
 have d:n≠0:=by omega
 have g:¬(9223372036854775807<(n:Int)):=by omega
 have k:n*i.size≠0:=Nat.mul_ne_zero d p;have o:(Builtin.firstCells i.size 0 (.slice base 0 0)).run P w.drew=.ok #[] w.drew:=by
  cases base with
  | none=>simp[Builtin.firstCells]
  | some a=>
   have:=run_loadCells_list (P:=P) w.drew a [] mr;simpa[Builtin.firstCells]using this
 simp[Builtin.append_,run_underlying ht,run_underlying l,sizeOf,typeInfo,zeroValue,hi,q,hw,b,j,d,c,f,g,Question.forced,newRow,grownCap,asInt,asIntOf,o,h,k]
theorem VN{t t2:TypeId}{s x:SV}{us ux:Value}{out:Cg}(hrun:∀(w w':World)(r:Value),(∀cs,(builtin Builtin.append #[t,t2] o.type cs #[us,ux]).run P w=.ok (.value r) w')->(execOp ev o).run P w=.ok (.value r) w')
 (hs:Fc P k t t2 s x=some out) (R:CB h c) (hk:c.ρ k=none) (hvs:V c s us) (hvx:V c x ux):DT P ev o h k c out:=by
 unfold Fc at hs;split at hs<;>try cases hs
 rename_i e ik z0 m hte ht2;split at hs<;>try cases hs
 rename_i hc;obtain⟨⟨hm0,hm1⟩,hz0,hby,hst,hzl⟩:=hc;have hu:=A7 hte;obtain⟨ii,hi,hsz⟩:=GR hz0;obtain⟨i',z,hi',hzz,hze⟩:=Cc hst;rw[hi]at hi';cases hi';have hvz:=DX c z;rw[<-hze]at hvz;have hzsize:z.cells.size=Bj P e:=by have:=(hvz.cells hst).1.length;simp at this;omega
 have hbb : ii.bytes ≤ 65536 := by have : Cv P e = ii.bytes := by simp [Cv, Program.bytesOf, hi]
                                   omega
 obtain⟨base,rfl⟩:∃base,us=.slice base 0 0:=by
  rw[V]at hvs;rcases hvs with⟨_,rfl⟩|⟨a2,cap2,vs2,e2,_,hf,_⟩
  exact⟨none,rfl⟩;have:=hf rfl;exact⟨_,by rw[e2,this];rfl⟩
 have hux:ux=.int .i64 m:=by rw[V]at hvx;exact hvx
 subst hux;obtain⟨zr,z1⟩:=JZ hvz hst m.toNat;have hmn:(m.toNat:Int)=m:=by omega
 have hr:=MW (P:=P) c.w t t2 o.type e ik ii z hu ht2 hi hzz base m.toNat mq mq mq hbb;rw[hmn]at hr;have hcell:=F5 z.cells mq m.toNat;have Rn:=O8 (e:=e) (arr:=Builtin.zeroCells z.cells m.toNat++Builtin.zeroCells z.cells (grownCap c.w m.toNat 0 e-m.toNat)) R.drew (by exact hk) (wX c.zc zr) z1
  (λi x hx=>by
    have:(Builtin.zeroCells z.cells m.toNat).toList=(List.replicate m.toNat z.cells.toList).flatten:=hcell;rw[<-this]at hx;have hlt:=(qv.1 hx).1;rw[vS (by simpa using hlt)];simpa using hx) Ty.none
 have En:=c.zc.trans (c.drew.zf k (.cells (Builtin.zeroCells z.cells m.toNat++Builtin.zeroCells z.cells (grownCap c.w m.toNat 0 e-m.toNat)) e) (by exact hk));have hcap:m.toNat<=grownCap c.w m.toNat 0 e:=by unfold grownCap;exact Nat.le_add_right _ _
 refine⟨.slice (some ⟨c.w.heap.size,0,none⟩) m.toNat (grownCap c.w m.toNat 0 e),_,.inl (hrun _ _ _ λcs=>by simp only[builtin,Sem.run_bind,hr,Result.andThen_ok,Sem.run_pure];rfl),?_,Rn,En,λj hj=>?_⟩;rw[V];refine⟨c.w.heap.size,0,grownCap c.w m.toNat 0 e,by simp[Cx.alloc,Cx.drew,LX],by simp,hcap,by simp,?_⟩;have e6:m.toNat*Bj P e+(grownCap c.w m.toNat 0 e-m.toNat)*Bj P e=grownCap c.w m.toNat 0 e*Bj P e:=by rw[<-wi];congr 1;omega
 have e7:rm (c.drew.alloc k (.cells (Builtin.zeroCells z.cells m.toNat++Builtin.zeroCells z.cells (grownCap c.w m.toNat 0 e-m.toNat)) e)).w c.w.heap.size =
  (Builtin.zeroCells z.cells m.toNat++Builtin.zeroCells z.cells (grownCap c.w m.toNat 0 e-m.toNat)).size:=by
  simp[rm,Cx.alloc,Cx.drew,Bu,LX]
 rw[e7];simp only[Array.size_append,Builtin.zeroCells,Array.size_map,Array.size_range,hzsize];omega;simp at hj;simp[Cx.alloc,Cx.drew,hj]
theorem Q9{ts:Array TypeId}{args:Array Operand}{out:Cg}{evs:Operand->SV}(ho:o.op=.call { callee:=.builtin .append,args:=args,argTypes:=ts })
 (q:Ak P h k .append ts.toList (args.toList.map evs)=some out) (R:CB h c) (hk:c.ρ k=none) (H:AU (V c) (args.toList.map evs) (args.map ev).toList):DT P ev o h k c out:=by
 generalize hA:args.toList.map evs=A at q H;generalize hU:args.map ev=U at H;have I:=λ(w w':World)(r:Value)=>CS (P:=P) (ev:=ev) ho w w' r;rw[hU]at I;simp only[Ak]at q;split at q<;>try (first|contradiction|(cases q;done))
 rename_i t t2 s x _ e1
 match hU':U.toList,H with
 | [us, ux], H =>
  have e1':=Je e1;have e2':=Je hU';have C:=H.1;have hvx:=H.2.1;subst e1';subst e2';have core:∀(e:TypeId)(m:Nat)(ys:List SV)(F:List Value),A5 P t=some e->Bj P e≠0->(BU P e).B=true->(BU P e).cells.length=Bj P e->OM (Bj P e) s=true->AU (V c) ys F->
   (∀x∈F,x.oneCell'=true)->F.length=m*Bj P e->(∀w:World,w.heap=c.w.heap->Src P (Bj P e) t2 ux m F w)->WH P h k e s m ys=some out->DT P ev o h k c out:=by
   clear q;intro e m ys F Q hz0 L hzl E hxc S hxl Y q;have hu:=A7 Q;unfold WH at q;obtain⟨ii,hi,J⟩:=GR hz0;obtain⟨i',z,hi',hzz,hze⟩:=Cc L;rw[hi]at hi';cases hi';have hvz:=DX c z;rw[<-hze]at hvz;have hzsize:z.cells.size=Bj P e:=by have:=(hvz.cells L).1.length;simp at this;omega
   have grown:∀(c0:Cx)(h0:Hp)(base:Option Addr)(d f:Nat)(xs:List SV)(vs:List Value),c0.w=c.w->c0.ρ=c.ρ->CB h0 c0->DV c c0->us=.slice base d f->AU (V c0) xs vs->
    (∀x∈vs,x.oneCell'=true)->vs.length=d*Bj P e->
    (match base with|some a=>(vs≠[]->a.spot=none)/\∀(i:Nat)(x:Value),vs[i]? = some x->c.w.cell? ⟨a.block,a.off+i,none⟩=some x|none=>d=0/\f=0/\vs=[])->f<d+m->
    F6 (d+m) (Cv P e)=true->∀ty:Option TypeId,Ty ty 0 e->∀upd:Option (Nat×Option A9),(match upd with|some (j,x)=>h_ h j x|none=>h)=h0->
    DT P ev o h k c { val:=.sl k 0 (Bj P e) (d+m) false,upd:=upd,new:=some (.cells (xs++ys) ty) }:=by
    intro c0 h0 base d f xs vs hw hρ R0 E0 D hc h1 hl ha hlt p ty hty upd hupd;simp only[F6,qg,decide_eq_true_eq]at p;have hby:Cv P e=ii.bytes:=by simp[Cv,Program.bytesOf,hi]
    have hmul:(d+m)*ii.bytes<=1073741824*65536:=Nat.mul_le_mul p.1 mq;have BA:(Builtin.firstCells ii.size d (.slice base d f)).run P c.w.drew=.ok vs.toArray c.w.drew:=by
     cases base with
     | none=>obtain⟨_,_,rfl⟩:=ha;simp[Builtin.firstCells]
     | some a=>
      have:=run_loadCells_list (P:=P) c.w.drew a vs (λj v hv=>by rw[DY (ha.1 (by rintro rfl;simp at hv))];exact ha.2 j v hv);rw[hl,J]at this;simpa[Builtin.firstCells]using this
    have hr:=run_append_grow_src (P:=P) c.w t t2 o.type e ii z hu hi hzz base d f vs BA ux m F (by rw[<-J];exact Y c.w rfl) hlt mq (growslice_fits hlt mq);rw[<-D]at hr;have hk0:c0.drew.ρ k=none:=by show c0.ρ k=none;rw[hρ];exact hk
    have Rn:=O8 (e:=e) (arr:=(vs++F).toArray++Builtin.zeroCells z.cells (grownCap c.w (d+m) f e-(d+m))) R0.drew hk0 (wo (wX c0.zc hc) (wX (E0.trans c0.zc) hxc))
     (λx hx=>by rcases qd.1 hx with hx|hx;exact h1 x hx;exact S x hx) SX hty
    have En:=E0.trans (c0.zc.trans (c0.drew.zf k (.cells ((vs++F).toArray++Builtin.zeroCells z.cells (grownCap c.w (d+m) f e-(d+m))) e) hk0));have Z:(c0.drew.alloc k (.cells ((vs++F).toArray++Builtin.zeroCells z.cells (grownCap c.w (d+m) f e-(d+m))) e)).w =
     c.w.drew.alloc (.cells ((vs++F).toArray++Builtin.zeroCells z.cells (grownCap c.w (d+m) f e-(d+m))) e):=by
     show(c0.w.drew.alloc _)=_;rw[hw]
    have M:d+m<=grownCap c.w (d+m) f e:=by unfold grownCap;exact Nat.le_add_right _ _
    subst hupd;refine⟨.slice (some ⟨c.w.heap.size,0,none⟩) (d+m) (grownCap c.w (d+m) f e),_,.inl (by rw[Z];exact I _ _ _ λcs=>by simp only[builtin,Sem.run_bind,hr,Result.andThen_ok,Sem.run_pure]),?_,Rn,En,λj hj=>?_⟩;rw[V];refine⟨c.w.heap.size,0,grownCap c.w (d+m) f e,by simp[Cx.alloc,Cx.drew,hw],rfl,M,by simp,?_⟩;have hx2:=hxl;have e5:(vs++F).length=(d+m)*Bj P e:=by simp[hl,hx2,wi]
    have e6:(d+m)*Bj P e+(grownCap c.w (d+m) f e-(d+m))*Bj P e=grownCap c.w (d+m) f e*Bj P e:=by rw[<-wi];congr 1;omega
    have e7:rm (c0.drew.alloc k (.cells ((vs++F).toArray++Builtin.zeroCells z.cells (grownCap c.w (d+m) f e-(d+m))) e)).w c.w.heap.size =
     ((vs++F).toArray++Builtin.zeroCells z.cells (grownCap c.w (d+m) f e-(d+m))).size:=by
     rw[Z];simp[rm,Bu,LX]
    rw[e7];simp only[Array.size_append,List.size_toArray,e5,Builtin.zeroCells,Array.size_map,Array.size_range,hzsize];omega;simp at hj;simp[Cx.alloc,Cx.drew,hρ,hj]
   by_cases hm0:m=0
   . subst hm0;simp only[if_true,C9,qm]at q;subst q;have hx0:F=[]:=by have:=hxl;simpa using this
     subst hx0;obtain⟨base,d,f,rfl,hle⟩:∃base d f,us=.slice base d f/\d<=f:=by
      cases s<;>simp only[OM]at E<;>try cases E
      rw[V]at C;obtain⟨b,st,cap,_,rfl,h1,_⟩:=C;exact⟨_,_,_,rfl,h1⟩;rw[V]at C;rcases C with⟨_,rfl⟩|⟨a,cap,vs,rfl,h1,_⟩
      exact⟨none,0,0,rfl,IO _⟩;exact⟨_,_,_,rfl,h1⟩;rw[V]at C;exact⟨none,0,0,C,IO _⟩
     have hr:=run_append_nothing (P:=P) c.w t t2 o.type e ii hu hi base d f hle ux (by rw[<-J];exact Y c.w rfl);exact A8 R _ (I _ _ _ λcs=>by simp[builtin,hr]) C
   . rw[mw hm0]at q;split at q
     . rename_i z' es _;split at q<;>try cases q
       rename_i p;obtain⟨a,cap,vs,D,M,hc,h1,K,ha⟩:=Kl (n:=es.length) R (by rfl:flat h (.y z' es true)=some (es.flatMap SV.cells)) rfl C;have hcl:cap=es.length:=by
        rw[V]at C;rcases C with⟨rfl,e2⟩|⟨a2,cap2,vs2,e2,_,hf,_⟩
        rw[D]at e2;cases e2;rfl;rw[D]at e2;cases e2;exact hf rfl
       exact grown c h a es.length cap _ vs rfl rfl R (wT c) D hc h1 (K _ E) ha mq p _ Ty.row none rfl
     . split at q<;>try cases q
       rename_i p;rw[V]at C;have:=grown c h none 0 0 [] [] rfl rfl R (wT c) C trivial mr mr ⟨rfl,rfl,rfl⟩ mq (by simpa using p) _ Ty.row none rfl;simpa using this
     . rename_i o' off z' len full _;split at q<;>try cases q
       rename_i xs W;split at q<;>try cases q
       rename_i p;obtain⟨a,cap,vs,D,M,hc,h1,K,ha⟩:=Kl (n:=len) R W rfl C;have hvs':=C;rw[V]at hvs';obtain⟨b,st,cap',hρ,hus',hcap',hfull,hrm⟩:=hvs';rw[D]at hus';cases hus';obtain⟨cs,ty,O,hxs'⟩:∃cs ty,h o'=some (.cells cs ty)/\Cb cs off (len*z')=some xs:=by
        simp only[flat]at W;split at W;rename_i cs ty O;exact⟨cs,ty,O,W⟩;cases W
       have hzz':z'=Bj P e:=by simpa[OM]using E
       subst hzz';cases full with
       | true=>exact grown c h _ len cap _ vs rfl rfl R (wT c) D hc h1 (K _ E) ha (by have:=hfull rfl;omega) p _ (λt g=>⟨rfl,(Ty.app g).2.2⟩) none rfl
       | false=>
        by_cases N:len+m<=cap;have hx2:=hxl;have e6:len*Bj P e+m*Bj P e<=cap*Bj P e:=by rw[<-wi];exact wd _ N
        obtain⟨c',Z,hρ',R',E',hcl,hfr⟩:=Xu (k:=k) (ty':=IV h e o' off) R hk O (λt g=>⟨(Ty.app g).1,by have:=(Ty.app g).2.1;rw[O]at this;exact this⟩) hρ hxs' mq hxc S;have hr:=run_append_room_src (P:=P) c.w t t2 o.type e ii hu hi b (st+off) len cap ux m F (by rw[<-J];exact Y c.w rfl) N (by rw[<-J];exact hcl) (by rw[<-J];exact hfr);rw[<-D,<-J,<-Z]at hr;refine⟨.slice (some ⟨b,st+off,none⟩) (len+m) cap,c',.inl (I _ _ _ λcs=>by simp only[builtin,Sem.run_bind,hr,Result.andThen_ok,Sem.run_pure]),?_,by simpa[Cg.app]using R',E',λj hj=>?_⟩;rw[V];exact⟨b,st+off,cap,by rw[hρ'];simp,by simp,N,by simp,qC hrm (E'.room b)⟩;simp at hj;rw[hρ'];simp[hj];exact grown (c.kill o') (h_ h o' none) _ len cap _ vs rfl rfl (R.kill o' O) (c.kill_ext o') D (wX (c.kill_ext o') hc) h1 (K _ E) ha mq p _ (λt g=>⟨rfl,(Ty.app g).2.2⟩) (some (o',none)) rfl
     cases q
  split at q
  . rename_i ht2;obtain⟨et2,ht2⟩:=LE ht2;unfold Fq at q;split at q<;>try cases q
    rename_i e Q;simp only at q;split at q<;>try cases q
    rename_i m ys hm hys;split at q<;>try cases q
    rename_i G;simp only[qS,vI,qg,bne_iff_ne,ne_eq,beq_iff_eq]at G;obtain⟨⟨⟨⟨E,X⟩,hz0⟩,L⟩,hzl⟩:=G;obtain⟨ax,capx,F,hux,hcapx,hxc,S,hxz,T⟩:=Kl R hys hm hvx;have Y:∀w:World,w.heap=c.w.heap->Src P (Bj P e) t2 ux m F w:=λw hw=>
     eI (A7 ht2) hux (hxz _ X) S w (by
      revert T;cases ax<;>simp only<;>intro T;exact T;refine⟨T.1,λi x hx=>?_⟩;have:=T.2 i x hx;simp only[World.cell?,hw]at *;exact this)
    exact core e m ys F Q hz0 L hzl E hxc S (hxz _ X) Y q
  . split at q
    . rename_i hts;unfold Hg at q;split at q<;>try cases q
      rename_i e b Q _;split at q<;>try cases q
      rename_i G;simp only[qS,vI,qg,beq_iff_eq]at G;obtain⟨⟨⟨E,X⟩,L⟩,hzl⟩:=G;have hux:=KT hvx;subst hux;have hall:∀l:List UInt8,AU (V c) (l.map λb=>SV.int .u8 b.toNat) (l.map λb=>Value.int .u8 b.toNat):=λl=>by
       induction l with
       | nil=>trivial
       | cons a l ih=>exact⟨by simp[V],ih⟩
      refine core e b.size (WO b) (byteCells b) Q mq L hzl E (hall _) (λu hu=>?_) (by rw[byteCells_length,X,Nat.mul_one]) (λw _=>by rw[X];exact Src.ofString w (Eb hts) b) q;obtain⟨_,_,rfl⟩:=qa.1 hu;rfl
    exact VN (λw w' r h=>I w w' r h) q R hk C hvx
 | [],H=>exact H.elim
 | [_],H=>exact H.2.elim
 | _::_::_::_,H=>exact H.2.2.elim
end
section
variable{P:Program}{ev:Operand->Value}{o:Oper}{h:Hp}{k:Nat}{c:Cx}
theorem Ve{z n m cap:Nat}{a:Option Addr}{vs:List Value}(hm:m<=n)(hl:vs.length=n*z)(w:World)
 (b:match a with|some a=>(vs≠[]->a.spot=none)/\∀(i:Nat)(x:Value),vs[i]? = some x->w.cell? ⟨a.block,a.off+i,none⟩=some x|none=>n=0/\cap=0/\vs=[]):
 (Builtin.firstCells z m (.slice a n cap)).run P w=.ok (vs.take (m*z)).toArray w:=by
 cases a with
 | none=>obtain⟨_,_,rfl⟩:=b;simp[Builtin.firstCells]
 | some a =>
  have hmz:m*z<=n*z:=wd _ hm;have:=run_loadCells_list (P:=P) w a (vs.take (m*z)) (λj v hv=>by
   rw[DY (b.1 (by rintro rfl;simp at hv))];rw[vK]at hv;split at hv;exact b.2 j v hv;cases hv)
  rw[vu,vF mq]at this;simpa[Builtin.firstCells]using this
theorem T9{s:SV}{u:Value}{n:Nat}(d:In s=some n)(e:∀x,s≠.str x)(hv:V c s u):∃a cap,u=.slice a n cap/\n<=cap:=by
 cases s<;>simp only[In]at d<;>try cases d
 exact absurd rfl (e _);rw[V]at hv;obtain⟨b,st,cap,_,rfl,h1,_⟩:=hv;exact⟨_,_,rfl,h1⟩;rw[V]at hv;rcases hv with⟨rfl,rfl⟩|⟨a,cap,vs,rfl,h1,_⟩
 exact⟨_,_,rfl,IO _⟩;exact⟨_,_,rfl,h1⟩;rw[V]at hv;exact⟨_,_,hv,IO _⟩
theorem VM{ts:Array TypeId}{args:Array Operand}{out:Cg}{evs:Operand->SV}(ho:o.op=.call { callee:=.builtin .copy,args:=args,argTypes:=ts })
 (a:Ak P h k .copy ts.toList (args.toList.map evs)=some out) (R:CB h c) (H:AU (V c) (args.toList.map evs) (args.map ev).toList):DT P ev o h k c out:=by
 generalize hA:args.toList.map evs=A at a H;generalize hU:args.map ev=U at H;have i:=λ(w w':World)(r:Value)=>CS (P:=P) (ev:=ev) ho w w' r;rw[hU]at i;simp only[Ak]at a;split at a<;>try (first|contradiction|(cases a;done))
 rename_i t t2 s x _ e1
 match hU':U.toList,H with
 | [us, ux], H =>
  have J:=Je e1;have K:=Je hU';subst J;subst K;have C:=H.1;have S:=H.2.1;unfold Qx at a;split at a<;>try cases a
  rename_i e u m ys Q p hm X;have hu:=A7 Q;simp only at a;split at a<;>try cases a
  rename_i l;simp only[qS,vI,qg,bne_iff_ne,ne_eq]at l;obtain⟨⟨Y,G⟩,F⟩:=l;obtain⟨ii,hi,v⟩:=GR F;obtain⟨Z,g,vx,rfl,hcapx,D,T,E,W⟩:=Kl R X hm S;obtain⟨I,j,rfl,hcapd⟩:=T9 p (by rintro y rfl;simp[OM]at Y) C;have d:=Ve (P:=P) (z:=Bj P e) (m:=Nat.min m u) (cap:=g) (Nat.min_le_left _ _) (E _ G) c.w W;have hn:∀w':World,∀a',I=some a'->(storeCells a' (vx.take (Nat.min m u*Bj P e))).run P c.w=.ok () w'->(Builtin.copy_ #[t,t2] o.type #[.slice I u j,.slice Z m g]).run P c.w=.ok (.int .i64 (Nat.min m u)) w':=λw' a' ha q=>by
   subst ha;simp[Builtin.copy_,AM hu,sizeOf,typeInfo,hi,<-v,Builtin.lenOf,d,q,goInt]
  by_cases f:Nat.min m u=0;rw[my f]at a;simp only[C9,qm]at a;subst a;have h0:(Builtin.copy_ #[t,t2] o.type #[.slice I u j,.slice Z m g]).run P c.w=.ok (.int .i64 0) c.w:=by
   cases I with
   | none=>
    rw[f]at d;have:=d;simp[Builtin.copy_,AM hu,sizeOf,typeInfo,hi,<-v,Builtin.lenOf,goInt,f]at this ⊢;simp[this]
   | some a'=>
    have:=hn c.w a' rfl (by rw[f];simp[storeCells]);rw[f]at this;exact this
  exact A8 R (.int .i64 0) (i _ _ _ λcs=>by simp only[builtin,Sem.run_bind,h0,Result.andThen_ok,Sem.run_pure]) (by rw[V])
  . rw[mw f]at a;split at a<;>try cases a
    rename_i o' off z' len full _;simp only[In,qm]at p;subst p;split at a<;>try cases a
    rename_i cs ty N;split at a<;>try cases a
    rename_i cs' O;obtain⟨L,rfl⟩:=GQ O;have n:=C;rw[V]at n;obtain⟨b,st,cap',hρ,B,_⟩:=n;cases B;have hx2:=E _ G;have hmul:Nat.min m len*Bj P e<=m*Bj P e:=wd _ (Nat.min_le_left _ _);have M:(ys.take (Nat.min m len*Bj P e)).length≠0:=by
     have:=D.length;simp only[vu];have:Nat.min m len*Bj P e≠0:=Nat.mul_ne_zero f F;omega
    obtain⟨w',q,R',E'⟩:=Hk (P:=P) R N hρ L M (D.take _) (λx hx=>T x (vA hx));have:=hn w' _ rfl q;exact⟨.int .i64 (Nat.min m len),{ c with w:=w' },.inl (i _ _ _ λcs=>by simp only[builtin,Sem.run_bind,this,Result.andThen_ok,Sem.run_pure]),by rw[V],R',E',λ_ _=>rfl⟩
 | [],H=>exact H.elim
 | [_],H=>exact H.2.elim
 | _::_::_::_,H=>exact H.2.2.elim
theorem Sv{W:Array TypeId}{args:Array Operand}{out:Cg}{evs:Operand->SV}(ho:o.op=.call { callee:=.builtin .clear,args:=args,argTypes:=W })
 (a:Ak P h k .clear W.toList (args.toList.map evs)=some out) (R:CB h c) (H:AU (V c) (args.toList.map evs) (args.map ev).toList):DT P ev o h k c out:=by
 generalize hA:args.toList.map evs=A at a H;generalize hU:args.map ev=U at H;have d:=λ(w w':World)(r:Value)=>CS (P:=P) (ev:=ev) ho w w' r;rw[hU]at d;simp only[Ak]at a;split at a<;>try (first|contradiction|(cases a;done))
 rename_i t x _ Z;obtain⟨u,I,hv⟩:=H.single;have C:=L4 Z;have e2:=L4 I;subst C;subst e2;unfold NQ at a;split at a<;>try cases a
 rename_i e Y J m;have T:=A7 J;split at a<;>try cases a
 rename_i j;simp only[qS,vI,qg,bne_iff_ne,ne_eq,beq_iff_eq]at j;obtain⟨⟨⟨L,K⟩,p⟩,N⟩:=j;obtain⟨i,z,hi,O,M⟩:=Cc p;have q:=DX c z;rw[<-M]at q;have hzsize:z.cells.size=Bj P e:=by have:=(q.cells p).1.length;simp at this;omega
 obtain⟨Q,g,rfl,hcapd⟩:=T9 m (by rintro y rfl;simp[OM]at L) hv;by_cases f:Y=0;subst f;simp only[if_true,C9,qm]at a;subst a;have h0:(Builtin.clear_ #[t] o.type #[.slice Q 0 g]).run P c.w=.ok (.tuple #[]) c.w:=by
  cases Q<;>simp[Builtin.clear_,AM T]
 exact A8 R (.tuple #[]) (d _ _ _ λS=>by simp only[builtin,Sem.run_bind,h0,Result.andThen_ok,Sem.run_pure]) (by simp[V,VL])
 . rw[mw f]at a;split at a<;>try cases a
   rename_i o' off z' len full;simp only[In,qm]at m;subst m;split at a<;>try cases a
   rename_i S ty F;split at a<;>try cases a
   rename_i cs' G;obtain⟨D,rfl⟩:=GQ G;have B:=hv;rw[V]at B;obtain⟨b,st,cap',hρ,v,_⟩:=B;cases v;obtain⟨zr,z1⟩:=JZ q p len;have E:(List.replicate len (BU P e).cells).flatten.length≠0:=by
    rw[List.length_flatten,List.map_replicate,List.sum_replicate_nat,N];exact Nat.mul_ne_zero f K
   obtain⟨w',s,X,E'⟩:=Hk (P:=P) R F hρ D E zr z1;have l:=F5 z.cells mq len;have h0:(Builtin.clear_ #[t] o.type #[.slice (some ⟨b,st+off,none⟩) len g]).run P c.w=.ok (.tuple #[]) w':=by
    simp only[Builtin.clear_];cases len with
    | zero=>exact absurd rfl f
    | succ n=>
     simp[AM T,zeroValue,typeInfo,hi,O,Builtin.zeroCells]at *;simp[l,s]
   exact⟨.tuple #[],{ c with w:=w' },.inl (d _ _ _ λS=>by simp only[builtin,Sem.run_bind,h0,Result.andThen_ok,Sem.run_pure]),by simp[V,VL],X,E',λ_ _=>rfl⟩
def KD(s:SV)(d:TypeDesc):Prop:=match s with|.int _ _=>(∃i,d=.int i)|.str _=>d=.string|.bool _=>d=.bool|_=>False
theorem J8{t:TypeId}{s:SV}(hk:BQ P t s=true):∃d,P.underlying t=some d/\KD s d:=by
 unfold BQ at hk;split at hk;obtain⟨i,hi⟩:=LE hk;exact⟨_,Hv hi,i,rfl⟩;exact⟨_,Eb hk,rfl⟩;exact⟨_,IJ hk,rfl⟩;cases hk
theorem MH{d:TypeDesc}{s h:SV}{v k:Value}{b:Bool}(hd:KD s d)
 (hv:V c s v) (f:V c h k) (e:GJ s h=some b):Instr.sameNow d v k=some b:=by
 unfold GJ at e;split at e
 . rename_i i a j b';split at e<;>try cases e
   rename_i g;subst g;simp only[KD]at hd;obtain⟨x,rfl⟩:=hd;rw[Dt hv,Dt f];simp[Instr.sameNow]
 cases e;simp only[KD]at hd;subst hd;rw[KT hv,KT f];simp[Instr.sameNow];cases e;simp only[KD]at hd;subst hd;rw[HU hv,HU f];simp[Instr.sameNow];cases e
theorem GX{d:TypeDesc}{s:SV}{v:Value}(hd:KD s d)(hv:V c s v):
 ∀(es:List (SV×SV))(a:List MapEntry)(i:Nat)(r:Option (Nat×SV)),AU (λ(p:SV×SV)(e:MapEntry)=>V c p.1 e.key/\V c p.2 e.val) es a->CY s es i=some r->
  (r=none/\Instr.findNow d v a i=some none)\/∃j x y e,r=some (i+j,x)/\Instr.findNow d v a i=some (some (i+j,y))/\V c x y/\a[j]? = some e/\Instr.sameNow d v e.key=some true
 | [],a,i,r,h,hf=>by
  simp only[CY,qm]at hf;subst hf;rw[h.nil_left];exact .inl ⟨rfl,rfl⟩
 | p::es,[],i,r,h,_=>h.elim
 | p::es,e::a,i,r,h,hf=>by
  obtain⟨⟨h1,h2⟩,k⟩:=h;simp only[CY]at hf;split at hf;rename_i b;cases hf;have:=MH hd hv h1 b;exact .inr ⟨0,p.2,e.val,e,rfl,by simp[Instr.findNow,this],h2,rfl,this⟩;rename_i b;have:=MH hd hv h1 b;rcases GX hd hv es a (i+1) r k hf with⟨rfl,hg⟩|⟨j,x,y,g,rfl,hg,f,l,m⟩
  exact .inl ⟨rfl,by simp[Instr.findNow,this,hg]⟩;exact .inr ⟨j+1,x,y,g,by congr 2;omega,by rw[show i+(j+1)=i+1+j by omega];simp[Instr.findNow,this,hg],f,by simpa using l,m⟩;cases hf
theorem GO{t:TypeId}{d:TypeDesc}{s:SV}{v:Value}{b:Bool}(e:P.underlying t=some d)(hd:KD s d)
 (hv:V c s v) (w:World):(Instr.checkKey b 10000 t v).run P w=.ok () w:=by
 have a:∀n,(Instr.checkKey b (n+1) t v).run P w=.ok () w:=λn=>by
  cases s<;>simp only[KD]at hd;subst hd;rw[HU hv];simp[Instr.checkKey,AM e];obtain⟨i,rfl⟩:=hd;rw[Dt hv];simp[Instr.checkKey,AM e];subst hd;rw[KT hv];simp[Instr.checkKey,AM e]
 exact a 9999
theorem Na{es:List (SV×SV)}{a:Array MapEntry}(j:Nat){x y:SV}{u v:Value}(b:V c x u)(hv:V c y v)
 (h:AU (λ(p:SV×SV)(e:MapEntry)=>V c p.1 e.key/\V c p.2 e.val) es a.toList):
 AU (λ(p:SV×SV)(e:MapEntry)=>V c p.1 e.key/\V c p.2 e.val) (FY es j x y) (a.modify j λe=>{ e with key:=u,val:=v }).toList:=by
 rw[Array.toList_modify];exact AU.modify (R:=λ(p:SV×SV)(e:MapEntry)=>V c p.1 e.key/\V c p.2 e.val) (λ_=>(x,y)) (λe=>{ e with key:=u,val:=v }) (λ_ _ _=>⟨b,hv⟩) j h
theorem Hb.modify{a:Array MapEntry}{b:Nat}(H:Hb a.toList b)(i:Nat)(f:MapEntry->MapEntry)(c:∀e,(f e).born=e.born):Hb (a.modify i f).toList b:=by
 have e:(a.modify i f).toList.map (·.born)=a.toList.map (·.born):=by
  rw[Array.toList_modify];apply List.ext_getElem?;intro j;simp only[vo,List.getElem?_modify];cases a.toList[j]? with
  | none=>rfl
  | some x=>simp only[vE];split<;>simp[c]
 refine⟨λx d=>?_,by rw[e];exact H.2⟩;have:x.born∈(a.modify i f).toList.map (·.born):=qa.2 ⟨x,d,rfl⟩;rw[e]at this;obtain⟨y,g,h⟩:=qa.1 this;rw[<-h];exact H.1 y g
theorem Hb.push{d:List MapEntry}{c:Nat}(H:Hb d c)(e:MapEntry)(he:e.born=c):Hb (d++[e]) (c+1):=by
 refine⟨λx f=>?_,?_⟩;rcases qd.1 f with f|f;have:=H.1 x f;omega;rw[qw.1 f];omega;rw[qc,qu];refine⟨H.2,by simp,λa g b hb=>?_⟩;obtain⟨x,f,rfl⟩:=qa.1 g;simp at hb;have:=H.1 x f;omega
theorem Hb.sub{c b:List MapEntry}{a:Nat}(H:Hb c a)(h:b.Sublist c):Hb b a:=⟨λx d=>H.1 x (h.subset d),H.2.sublist (h.map _)⟩
theorem JN{l b:Nat}{es i:List (SV×SV)}{f a:Array MapEntry}{d clock':Nat}(R:CB h c)(q:h l=some (.map es))(m:c.ρ l=some (b,0))
 (hb:c.w.heap[b]? = some (.map f d)) (o:AU (λ(p:SV×SV)(e:MapEntry)=>V c p.1 e.key/\V c p.2 e.val) i a.toList) (n:Hb a.toList clock'):
 CB (h_ h l (some (.map i))) { c with w:={ c.w with heap:=c.w.heap.setIfInBounds b (.map a clock') } }/\DV c { c with w:={ c.w with heap:=c.w.heap.setIfInBounds b (.map a clock') } }:=by
 have k:b<c.w.heap.size:=(qh.1 hb).1;refine R.write q m mr (λb' j=>by simp[vM (Ne.symm j)]) ?_ rfl rfl (λE=>?_);simp[rm,hb];exact⟨b,a,clock',m,by simp[k],uk (λ_ _ g=>⟨wK E g.1,wK E g.2⟩) o,n⟩
theorem F7{t:TypeId}{d:TypeDesc}{v:Value}{a:List MapEntry}{r:Option (Nat×Value)}(c:P.underlying t=some d)(b:Instr.findNow d v a 0=some r)(w:World):
 (Instr.findKey t v a).run P w=.ok r w:=by
 simp[Instr.findKey,AM c,b]
theorem SY(a b:ByteArray):(a==b)=true↔a=b:=by
 obtain⟨x⟩:=a;obtain⟨y⟩:=b;have e:((⟨x⟩:ByteArray)==⟨y⟩)=(x==y):=rfl;rw[e,beq_iff_eq,ByteArray.mk.injEq]
theorem Rq{d:TypeDesc}{s:SV}{v b:Value}(hd:KD s d)(hv:V c s v)
 (a:Instr.sameNow d v b=some true) (n:Nat):Instr.sameBits n b v=true:=by
 cases s<;>simp only[KD]at hd;subst hd;rw[HU hv]at *;cases b<;>simp[Instr.sameNow]at a;cases n<;>simp[Instr.sameBits,a];obtain⟨i,rfl⟩:=hd;rw[Dt hv]at *;cases b<;>simp[Instr.sameNow]at a;cases n<;>simp[Instr.sameBits,a];subst hd;rw[KT hv]at *;cases b<;>simp[Instr.sameNow]at a;have:=(SY _ _).1 a;subst this;cases n<;>simp only[Instr.sameBits]<;>exact(SY _ _).2 rfl
theorem Jo{t:TypeId}{m y x:Operand}{out:Cg}{evs:Operand->SV}(F:o.op=.mapUpdate t m y x\/o.op=.insert t m y x)(n:C0 P evs h k o.op=some out)(R:CB h c)
 (H:∀x∈o.op.operands,V c (evs x) (ev x)):DT P ev o h k c out:=by
 rcases F with F|F
 all_goals
  rw[F]at n H;simp only[C0]at n;have hm:=H m (by simp[Op.operands]);have A:=H y (by simp[Op.operands]);have S:=H x (by simp[Op.operands]);split at n<;>try cases n
  rename_i kt e Y ht M;split at n<;>try cases n
  rename_i D;simp only[qS,vI]at D;obtain⟨d,hd,r⟩:=J8 D;split at n<;>try cases n
  rename_i es G;split at n<;>try cases n
  rename_i hst;rw[M,V]at hm;obtain⟨b,hρ,E⟩:=hm;obtain⟨b',g,a,g1,I,g3,Q⟩:=R.obj _ _ G;rw[hρ]at g1;cases g1;have B:=λw=>GO (P:=P) (b:=false) hd r A w;have hget:∀(f:Obj->Sem Unit),((getObj b).bind f).run P c.w=(f (.map g a)).run P c.w:=λf=>by
   simp[getObj,Sem.bind,Sem.run,I]
  have fin:∀(s:List (SV×SV))(l:Array MapEntry)(clock':Nat),AU (λ(p:SV×SV)(e:MapEntry)=>V c p.1 e.key/\V c p.2 e.val) s l.toList->Hb l.toList clock'->
   (Instr.mapUpdate t (ev m) (ev y) (ev x)).run P c.w=.ok () { c.w with heap:=c.w.heap.setIfInBounds b (.map l clock') }->
   DT P ev o h k c { val:=.tup [],upd:=some (Y,some (.map s)) }:=λs l clock' W J hr=>by
   obtain⟨T,E'⟩:=JN (clock':=clock') R G hρ I W J;exact⟨undef,_,.inr ⟨rfl,by simp[execOp,F,hr]⟩,by simp[V,undef,VL],T,E',λ_ _=>rfl⟩
  have q:∀ob:Obj,(setObj b ob).run P c.w=.ok () { c.w with heap:=c.w.heap.setIfInBounds b ob }:=λob=>by
   simp[setObj,Sem.run,I]
  have C:(getObj b).run P c.w=.ok (.map g a) c.w:=by simp[getObj,Sem.run,I]
  split at n<;>try cases n
  rename_i i x' v;rcases GX r A es g.toList 0 _ g3 v with⟨U,_⟩|⟨j,Z,y2,O,hr,K,hxy,X,z⟩
  cases U;simp only[qZ,qm,Prod.mk.injEq]at hr;obtain⟨rfl,rfl⟩:=hr;refine fin _ _ a (Na i A S g3) (Hb.modify Q i _ λ_=>rfl) ?_;have u:=λw=>F7 (P:=P) hd K w;have N:=Rq r A z 10000;have L:g[i]? = some O:=by simpa using X
  simp[Instr.mapUpdate,AM (Ea ht),E,C,B,u,Instr.keyThatStays,L,N,q];rename_i v;rcases GX r A es g.toList 0 _ g3 v with⟨_,K⟩|⟨j,Z,y2,O,hr,_⟩
  refine fin _ (g.push { key:=ev y,val:=ev x,born:=a }) (a+1) (by rw[Array.toList_push];exact wo g3 (as':=[(evs y,evs x)]) ⟨⟨A,S⟩,trivial⟩) (by rw[Array.toList_push];exact Q.push _ rfl) ?_;have u:=λw=>F7 (P:=P) hd K w;simp[Instr.mapUpdate,AM (Ea ht),E,C,B,u,q];cases hr
theorem Tb{t:TypeId}{m y:Operand}{ok:Bool}{out:Cg}{evs:Operand->SV}(M:o.op=.lookup t m y ok)(g:C0 P evs h k o.op=some out)(R:CB h c)
 (H:∀x∈o.op.operands,V c (evs x) (ev x)):DT P ev o h k c out:=by
 rw[M]at g H;simp only[C0]at g;have hm:=H m (by simp[Op.operands]);have Q:=H y (by simp[Op.operands]);split at g<;>try cases g
 rename_i kt e ht;split at g<;>try cases g
 rename_i n;simp only[vV,qS,not_or,vI]at n;obtain⟨n,N⟩:=n;obtain⟨d,hd,A⟩:=J8 n;obtain⟨i,z,hi,K,S⟩:=Cc N;have J:=DX c z;rw[<-S]at J;obtain⟨es,a,f,D,s⟩:∃(es:List (SV×SV))(a:Array MapEntry),
  ME h (evs m)=some es/\
  AU (λ(p:SV×SV)(e:MapEntry)=>V c p.1 e.key/\V c p.2 e.val) es a.toList/\
  ∀r:Value×Bool,(match Instr.findNow d (ev y) a.toList 0 with|some (some (_,v))=>r=(v,true)|some none=>r=(z,false)|none=>False)->
   (Instr.lookup t (ev m) (ev y) ok).run P c.w=.ok (if ok then .tuple #[r.1,.bool r.2]else r.1) c.w:=by
  split at g<;>try cases g
  rename_i es f;cases L:evs m<;>rw[L]at f hm<;>simp only[ME]at f<;>try cases f
  rw[V]at hm;refine⟨[],#[],rfl,trivial,λr hr=>?_⟩;have l:=λb w=>GO (P:=P) (b:=b) hd A Q w;simp[Instr.findNow]at hr;subst hr;cases ok<;>simp[Instr.lookup,AM (Ea ht),hm,l,Instr.findKey,AM hd,Instr.findNow,FP hi K]
  . rename_i o';split at f<;>try cases f
    rename_i I;rw[V]at hm;obtain⟨b,hρ,G⟩:=hm;obtain⟨b',a,u,g1,T,g3,_⟩:=R.obj _ _ I;rw[hρ]at g1;cases g1;refine⟨es,a,by simp only[ME,I],g3,λr hr=>?_⟩;have l:=λb w=>GO (P:=P) (b:=b) hd A Q w;have F:(getObj b).run P c.w=.ok (.map a u) c.w:=by simp[getObj,Sem.run,T]
    cases B:Instr.findNow d (ev y) a.toList 0 with
    | none=>rw[B]at hr;exact hr.elim
    | some q =>
     have E:=λw=>F7 (P:=P) hd B w;rw[B]at hr;cases q with
     | none=>
      simp only at hr;subst hr;cases ok<;>simp[Instr.lookup,AM (Ea ht),G,F,l,E,FP hi K]
     | some q=>
      obtain⟨q1,q2⟩:=q;simp only at hr;subst hr;cases ok<;>simp[Instr.lookup,AM (Ea ht),G,F,l,E]
 rw[f]at g;simp only at g;cases C:CY (evs y) es 0 with
 | none=>simp[C]at g
 | some r=>
  simp only[C,C9,qm]at g;subst g;rcases GX A Q es a.toList 0 r D C with⟨rfl,B⟩|⟨j,x2,U,e2,rfl,B,O,_,_⟩
  have hr:=s (z,false) (by rw[B]);refine A8 R _ (by simp only[execOp,M,Sem.run_bind,hr,Result.andThen_ok,Sem.run_pure];rfl) ?_;cases ok<;>simp[V,VL,J];have hr:=s (U,true) (by rw[B]);refine A8 R _ (by simp only[execOp,M,Sem.run_bind,hr,Result.andThen_ok,Sem.run_pure];rfl) ?_;cases ok<;>simp[V,VL,O]
end
section
variable{P:Program}{ev:Operand->Value}{o:Oper}{h:Hp}{k:Nat}{c:Cx}
theorem RA{Q:Array TypeId}{args:Array Operand}{out:Cg}{evs:Operand->SV}(ho:o.op=.call { callee:=.builtin .delete,args:=args,argTypes:=Q })
 (m:Ak P h k .delete Q.toList (args.toList.map evs)=some out) (R:CB h c) (H:AU (V c) (args.toList.map evs) (args.map ev).toList):DT P ev o h k c out:=by
 generalize hA:args.toList.map evs=A at m H;generalize W:args.map ev=U at H;have n:=λ(w w':World)(r:Value)=>CS (P:=P) (ev:=ev) ho w w' r;rw[W]at n;simp only[Ak]at m;split at m<;>try (first|contradiction|(cases m;done))
 rename_i t t2 o' y _ T
 match hU':U.toList,H with
 | [um, uy], H =>
  have E:=Je T;have F:=Je hU';subst E;subst F;have hm:=H.1;have M:=H.2.1;split at m<;>try cases m
  rename_i kt e es ht D;split at m<;>try cases m
  rename_i B;simp only[qS,vI]at B;obtain⟨d,hd,s⟩:=J8 B;rw[V]at hm;obtain⟨b,hρ,L⟩:=hm;subst L;obtain⟨b',a,g,g1,G,g3,O⟩:=R.obj _ _ D;rw[hρ]at g1;cases g1;have x:=λb w=>GO (P:=P) (b:=b) hd s M w;have l:∀ob:Obj,(setObj b ob).run P c.w=.ok () { c.w with heap:=c.w.heap.setIfInBounds b ob }:=λob=>by
   simp[setObj,Sem.run,G]
  have z:(getObj b).run P c.w=.ok (.map a g) c.w:=by simp[getObj,Sem.run,G]
  have fin:∀(q:List (SV×SV))(f:Array MapEntry)(clock':Nat),AU (λ(p:SV×SV)(e:MapEntry)=>V c p.1 e.key/\V c p.2 e.val) q f.toList->Hb f.toList clock'->
   (Builtin.delete_ #[t,t2] o.type #[.map (some b),uy]).run P c.w=.ok (.tuple #[]) { c.w with heap:=c.w.heap.setIfInBounds b (.map f clock') }->
   DT P ev o h k c { val:=.tup [],upd:=some (o',some (.map q)) }:=λq f clock' Y I hr=>by
   obtain⟨S,E'⟩:=JN (clock':=clock') R D hρ G Y I;exact⟨.tuple #[],_,.inl (n _ _ _ λcs=>by simp only[builtin,Sem.run_bind,hr,Result.andThen_ok,Sem.run_pure]),by simp[V,VL],S,E',λ_ _=>rfl⟩
  split at m<;>try cases m
  rename_i i x' v;rcases GX s M es a.toList 0 _ g3 v with⟨X,_⟩|⟨j,x2,y2,N,hr,J,hxy,Z,hsame⟩
  cases X;simp only[qZ,qm,Prod.mk.injEq]at hr;obtain⟨rfl,rfl⟩:=hr;have K:a[i]? = some N:=by simpa using Z
  have C:=(qh.1 K).1;refine fin _ (a.eraseIdxIfInBounds i) g (by simpa[Array.eraseIdxIfInBounds,C]using AU.eraseIdx i g3) (O.sub (by simp[Array.eraseIdxIfInBounds,C];exact List.eraseIdx_sublist _ _)) ?_;have u:=λw=>F7 (P:=P) hd J w;simp[Builtin.delete_,AM (Ea ht),z,x,u,l];rename_i v;rcases GX s M es a.toList 0 _ g3 v with⟨_,J⟩|⟨j,x2,y2,N,hr,_⟩
  refine fin _ a g g3 O ?_;have u:=λw=>F7 (P:=P) hd J w;simp[Builtin.delete_,AM (Ea ht),z,x,u,l];cases hr
 | [],H=>exact H.elim
 | [_],H=>exact H.2.elim
 | _::_::_::_,H=>exact H.2.2.elim
theorem Lv{out:Cg}{evs:Operand->SV}(j:C0 P evs h k o.op=some out)(R:CB h c)(hk:c.ρ k=none)(H:∀x∈o.op.operands,V c (evs x) (ev x)):DT P ev o h k c out:=by
 cases g:o.op with
 | move x=>exact R7 (.inl g) j R H
 | assign x=>exact R7 (.inr g) j R H
 | pick a b d=>exact Yb g j R H
 | alloc e=>exact Vh g j R hk
 | box e x=>exact aZ g j R hk H
 | build t ps=>exact Vj g j R H
 | buildSlice t l ps=>exact N6 g j R hk H
 | load t a=>exact Ya g j R H
 | store t a x=>exact Vn g j R H
 | nilCheck x=>exact QL g j R H
 | binOp op t x y t2=>exact Vi g j R H
 | unOp op t x=>exact Yc g j R H
 | convert a b x=>exact Ry g j R H
 | makeFunc f a b=>exact QK g j R H
 | makeMap t r=>exact R6 g j R hk
 | makeSlice t l c=>exact OW g j R hk H
 | slice t x lo hi mx=>exact Vm g j R H
 | fieldAddr t x i=>exact OU g j R H
 | field t x i=>exact Vk g j R H
 | indexAddr t x i=>exact OV g j R H
 | index t x i=>exact Vl g j R H
 | lookup t m y ok=>exact Tb g j R H
 | mapUpdate t m y x=>exact Jo (.inl g) j R H
 | insert t m y x=>exact Jo (.inr g) j R H
 | extract x i=>exact Rz g j R H
 | call cl =>
  obtain⟨callee,args,q⟩:=cl;cases callee with
  | value f=>rw[g]at j;simp[C0]at j
  | invoke r m=>rw[g]at j;simp[C0]at j
  | builtin b=>
   have hb:Ak P h k b q.toList (args.toList.map evs)=some out:=by rw[g]at j;simpa only[C0]using j
   have n:AU (V c) (args.toList.map evs) (args.map ev).toList:=GN args λx p=>H x (by rw[g];simp[Op.operands,Call.operands];simpa using p);cases b with
   | len=>exact XG g hb R n
   | cap=>exact XE g hb R n
   | append=>exact Q9 g hb R hk n
   | copy=>exact VM g hb R n
   | clear=>exact Sv g hb R n
   | min=>exact XI g hb R n
   | max=>exact XH g hb R n
   | delete=>exact RA g hb R n
   | _=>unfold Ak at hb;split at hb<;>first|contradiction|cases hb
 | _=>rw[g]at j;simp[C0]at j
end
structure BZ where
 ro:Option Nat
 mks:Bool
 base:Nat
 inv:Cx->Prop
 ext:∀{c c':Cx},DV c c'->inv c->inv c'
def BZ.plain:BZ:=⟨none,false,0,λ_=>True,λ_ _=>trivial⟩
def BZ.fc(E:BZ):Fence:={ Fence.wide with round:=E.ro }
def Xe(D:Nat):Deferred:={ target:=.collected D,args:=#[] }
structure Qd(E:BZ)(c:Cx)(ds:List Deferred):Prop where
 base:E.base<=c.w.heap.size
 none:E.mks=false->ds=[]
 nodup:ds.Nodup
 ok:∀d∈ds,∃D,E.base<=D/\d=Xe D/\c.w.heap[D]? = some (.deferred (some []))/\¬c.own D
theorem Qd.mono{E:BZ}{c a:Cx}{b:List Deferred}(x:DV c a)(H:Qd E c b):Qd E a b:=
 ⟨qC H.base x.size,H.none,H.nodup,λd hd=>by
  obtain⟨D,h1,h2,e,f⟩:=H.ok d hd;have hb:=(qh.1 e).1;exact⟨D,h1,h2,by rw[(x.keep D hb f).2];exact e,(x.keep D hb f).1⟩⟩
structure FR(E:BZ)(N:Nat)(sa:SA)(c:Cx)(a:Act):Prop where
 size:a.tmps.size=N
 defers:Qd E c a.defers
 val:∀t,V c (look sa t) (a.tmps.getD t undef)
def Fr(n:Nat)(c:Cx):Prop:=∀j,n<=j->c.ρ j=none
theorem FR.ext{E:BZ}{N:Nat}{sa:SA}{c b:Cx}{a:Act}(h:FR E N sa c a)(x:DV c b):FR E N sa b a:=⟨h.size,h.defers.mono x,λt=>wK x (h.val t)⟩
theorem FR.ev{E:BZ}{N:Nat}{sa:SA}{c:Cx}{a:Act}(h:FR E N sa c a)(x:Operand):V c (EV sa x) (a.eval x):=by
 cases x with
 | tmp t=>exact h.val t
 | const v=>exact DX c v
 | global g=>simp[EV,V]
 | func f=>simp[EV,Act.eval,V,VL]
theorem FR.put{E:BZ}{N:Nat}{sa:SA}{c:Cx}{a:Act}(h:FR E N sa c a){dst:Option Tmp}(hd:∀d,dst=some d->d<N){s:SV}{u:Value}(hv:V c s u):FR E N (C1 sa dst s) c (a.put dst u):=by
 cases dst with
 | none=>exact h
 | some d=>
  refine⟨by simpa[Act.put]using h.size,h.defers,λt=>?_⟩;simp only[C1,look,Act.put];by_cases e:d=t;subst e;have:=hd d rfl;have b:=h.size;simp[b,this,hv];simp only[e,if_false];have:=h.val t;simpa[vM e]using this
theorem Hz{c:Cx}:V c (.tup []) undef:=by rw[V];exact⟨[],rfl,by simp[VL]⟩
theorem FR.weaken{E:BZ}{N:Nat}{sa sb:SA}{c:Cx}{a:Act}(h:FR E N sa c a)(hw:∀p∈sb,look sa p.1=p.2):FR E N sb c a:=by
 refine⟨h.size,h.defers,λt=>?_⟩;have key:∀l:SA,(∀p∈l,look sa p.1=p.2)->look l t=.junk\/look l t=look sa t:=by
  intro l
  induction l with
  | nil=>intro _;exact .inl rfl
  | cons p l ih=>
   intro b;obtain⟨k,x⟩:=p;simp only[look];by_cases e:k=t;subst e;simp only[if_true];exact .inr (b (k,x) mr).symm;simp only[e,if_false];exact ih λq d=>b q (by simp[d])
 rcases key sb hw with e|e;rw[e];simp[V];rw[e];exact h.val t
structure Fo(n:Nat)(c:Cx)(n':Nat)(c':Cx):Prop where
 ext:DV c c'
 le:n<=n'
 same:∀j,j<n->c'.ρ j=c.ρ j
theorem Fo.refl(n:Nat)(c:Cx):Fo n c n c:=⟨wT c,IO _,λ_ _=>rfl⟩
theorem Fo.trans{n1 e f:Nat}{a b c:Cx}(h:Fo n1 a e b)(g:Fo e b f c):Fo n1 a f c:=
 ⟨h.ext.trans g.ext,qC h.le g.le,λj d=>(g.same j (wC d h.le)).trans (h.same j d)⟩
abbrev CT:=Exit->SA->Hp->Nat->Prop
def ZL(E:BZ)(N n:Nat)(c:Cx)(Q:CT):Exit->Act->World->Prop:=λe a' w'=>
 ∃sa' h' n' c',Q e sa' h' n'/\c'.w=w'/\CB h' c'/\Fr n' c'/\FR E N sa' c' a'/\Fo n c n' c'
def Code.dok(N:Nat):Code->Bool
 | .region _ ops _=>ops.toList.all λo=>o.dst.all (· < N)
 | .seq a b=>Code.dok N a&&Code.dok N b
 | .cond _ a b=>Code.dok N a&&Code.dok N b
 | .block _ b=>Code.dok N b
 | .loop b=>Code.dok N b
 | .rangeFunc _ ps a b=>ps.toList.all (· < N)&&(Code.dok N a&&Code.dok N b)
 | .skip|.exit _|.ret=>true
 | _=>false
def GU(E:BZ)(P:Program)(N:Nat)(code:Code)(Q:CT)(sa:SA)(h:Hp)(n:Nat):Prop:=
 Code.dok N code=true->∀c a,E.inv c->CB h c->Fr n c->FR E N sa c a->code.wpIn E.fc 0 P (ZL E N n c Q) a c.w
def K4(P:Program)(f:FuncId):Bool:=
 match P.funcs[f]? with
 | some fn=>fn.body.isSome&&fn.name != "runtime.NumGoroutine"
 | none=>false
def Ab(E:BZ)(P:Program)(f:FuncId)(args:List SV)(h:Hp)(n:Nat)(Q:SV->Hp->Nat->Prop):Prop:=
 K4 P f=true/\∀c vs,E.inv c->CB h c->Fr n c->AU (V c) args vs->Calls P f vs.toArray c.w (λe w'=>
  ∃u v h' n' c',e=.returned u/\Q v h' n'/\c'.w=w'/\V c' v u/\CB h' c'/\Fr n' c'/\Fo n c n' c')
theorem Ab.mono{E:BZ}{P:Program}{f:FuncId}{args:List SV}{h:Hp}{n:Nat}{Q a:SV->Hp->Nat->Prop}(H:Ab E P f args h n Q)(d:∀v h' n',Q v h' n'->a v h' n'):Ab E P f args h n a:=
 ⟨H.1,λc vs I R F A=>(H.2 c vs I R F A).mono λ_ _ ⟨u,v,h',n',b,e,q,r⟩=>⟨u,v,h',n',b,e,d _ _ _ q,r⟩⟩
def callee:SV->List SV->Option (FuncId×List SV)
 | .fn (.func f) a b,args=>some (f,a++args++b)
 | _,_=>none
def Fb(E:BZ)(P:Program)(l:Nat)(args:List SV)(h:Hp)(n:Nat)(Q:SV->Hp->Nat->Prop):Prop:=
 ∀c vs,E.inv c->CB h c->Fr n c->AU (V c) args vs->YieldAt Fence.wide 0 P l vs.toArray c.w (λe w'=>
  ∃u v h' n' c',e=.returned u/\Q v h' n'/\c'.w=w'/\V c' v u/\CB h' c'/\Fr n' c'/\Fo n c n' c')
def Mc:SV->Option Nat
 | .fn (.yield l) [] []=>some l
 | _=>none
def Jw(E:BZ)(P:Program)(o:Nat)(args:List SV)(h:Hp)(n:Nat)(Q:SV->Hp->Nat->Prop):Prop:=
 ∀c vs l,c.ρ o=some (l,0)->E.inv c->CB h c->Fr n c->AU (V c) args vs->YieldAt Fence.wide 0 P l vs.toArray c.w (λe w'=>
  ∃u v h' n' c',e=.returned u/\Q v h' n'/\c'.w=w'/\V c' v u/\CB h' c'/\Fr n' c'/\Fo n c n' c')
def Mb:SV->Option Nat
 | .yl o=>some o
 | _=>none
def FV(E:BZ)(P:Program)(evs:Operand->SV)(o:Oper)(h:Hp)(n:Nat)(K:SV->Hp->Nat->Prop):Prop:=
 (∀c,o.op≠.defer c)/\∀(c:Cx)(ev:Operand->Value),(∀v,ev (.const v)=v)->E.inv c->CB h c->Fr n c->(∀x,V c (evs x) (ev x))->
   ∃u v h' n' c',(execOp ev o).run P c.w=.ok (.value u) c'.w/\V c' v u/\CB h' c'/\Fr n' c'/\Fo n c n' c'/\K v h' n'
def cC(E:BZ)(P:Program)(evs:Operand->SV)(o:Oper)(h:Hp)(n:Nat)(K:SV->Hp->Nat->Prop):Prop:=
 (∀c,o.op≠.defer c)/\∀(c:Cx)(ev:Operand->Value),(∀v,ev (.const v)=v)->E.inv c->CB h c->Fr n c->(∀x,V c (evs x) (ev x))->
   ∃h' n' c',(execOp ev o).run P c.w=.ok .skip c'.w/\CB h' c'/\Fr n' c'/\Fo n c n' c'/\K (.tup []) h' n'
def LN(P:Program)(evs:Operand->SV)(o:Oper)(v:SV):Prop:=
 (∀c,o.op≠.defer c)/\∀(c:Cx)(ev:Operand->Value),(∀v,ev (.const v)=v)->(∀x∈o.op.operands,V c (evs x) (ev x))->∃u,(execOp ev o).run P c.w=.ok (.value u) c.w/\V c v u
theorem LN.op{E:BZ}{P:Program}{evs:Operand->SV}{o:Oper}{v:SV}(H:LN P evs o v){h:Hp}{n:Nat}{K:SV->Hp->Nat->Prop}(hk:K v h n):FV E P evs o h n K:=
 ⟨H.1,λc ev a _ R F hv=>let⟨u,h1,h2⟩:=H.2 c ev a λx _=>hv x;⟨u,v,h,n,c,h1,h2,R,F,Fo.refl n c,hk⟩⟩
def Fa(E:BZ)(P:Program)(o:Oper)(sa:SA)(h:Hp)(n:Nat)(K:SV->Hp->Nat->Prop):Prop:=
 match o.op with
 | .call { callee := .value f, args, .. } =>
  match callee (EV sa f) (args.toList.map (EV sa))with
  | some (g,aS)=>Ab E P g aS h n K
  | none=>match Mc (EV sa f)with
   | some l=>Fb E P l (args.toList.map (EV sa)) h n K
   | none=>match Mb (EV sa f)with|some o=>Jw E P o (args.toList.map (EV sa)) h n K|none=>False
 | op=>
  match C0 P (EV sa) h n op with
  | some out=>K out.val (out.app h n) (if out.new.isSome then n+1 else n)
  | none=>match op with|.mapUpdate ..=>cC E P (EV sa) o h n K|_=>FV E P (EV sa) o h n K
def Cz(ops:Array Oper)(sa:SA)(o:Oper):Option Bool:=
 match o.guard with
 | none=>some true
 | some (j,want)=>
  match(ops[j]?).bind (·.dst)with
  | some d=>match look sa d with|.bool b=>some (b==want)|.tup []=>some false|_=>none
  | none=>none
def Ht(E:BZ)(P:Program)(ops:Array Oper)(Q:SA->Hp->Nat->Prop):List Oper->SA->Hp->Nat->Prop
 | [],sa,h,n=>Q sa h n
 | o::rest,sa,h,n=>
  match Cz ops sa o with
  | some b=>if b=true then Fa E P o sa h n λv h' n'=>Ht E P ops Q rest (C1 sa o.dst v) h' n' else Ht E P ops Q rest (C1 sa o.dst (.tup [])) h n
  | none=>False
section
variable{E:BZ}{P:Program}{N:Nat}{ops:Array Oper}
theorem Ga{sa:SA}{c:Cx}{a:Act}{o:Oper}{b:Bool}(F:FR E N sa c a)(hg:Cz ops sa o=some b):Region.wanted o (yielded ops a.tmps)=b:=by
 unfold Cz at hg;unfold Region.wanted;split at hg;rename_i e;rw[e];simpa using hg
 . rename_i j want e;rw[e];split at hg<;>try cases hg
   rename_i d hd;split at hg<;>try cases hg
   rename_i h hb;have hv:=F.val d;rw[hb]at hv;have:=HU hv;simp only[yielded,hd,qN];have g:a.tmps[d]? = some (.bool h):=by
    rcases vq d a.tmps.size with f|f;rw[qO,vj f]at this;rw[vj f];simpa using this;rw[qO,vt f]at this;cases this
   rw[g];simp;rename_i hb;have hv:=F.val d;rw[hb,V]at hv;obtain⟨vs,hv,_⟩:=hv;simp only[yielded,hd,qN];rcases vq d a.tmps.size with f|f;rw[qO,vj f]at hv;rw[vj f];simp only[Option.getD_some]at hv;rw[hv];rfl;rw[vt f];rfl
theorem I2{ev:Operand->SV}{h:Hp}{k:Nat}{op:Op}{out:Cg}(a:C0 P ev h k op=some out):∀c,op≠.defer c:=by
 rintro c rfl;simp[C0]at a
theorem I4{o:Oper}{sa:SA}{h:Hp}{n:Nat}{K:SV->Hp->Nat->Prop}{Y:Act->World->Prop}{Qr:Exit->Act->World->Prop}{c:Cx}{a:Act}
 (H:Fa E P o sa h n K) (I:E.inv c) (R:CB h c) (F:Fr n c) (A:FR E N sa c a)
 (J:∀v h' n' d u,K v h' n'->V d v u->CB h' d->Fr n' d->Fo n c n' d->Y (a.put o.dst u) d.w):o.wpIn E.fc 0 P a c.w Y Qr:=by
 refine⟨λ_ _=>trivial,?_⟩;have plain:∀out,C0 P (EV sa) h n o.op=some out->K out.val (out.app h n) (if out.new.isSome then n+1 else n)->o.uponIn E.fc 0 P a Y Qr ((o.semAt E.fc.round a.eval).run P c.w):=λout W hk=>by
  obtain⟨u,d,hr,hv,m,X,hρ⟩:=Lv (ev:=a.eval) W R (F n (IO _)) λx _=>A.ev x;have k:Fr (if out.new.isSome then n+1 else n) d:=λj hj=>by
   have:d.ρ j=c.ρ j:=hρ j (by cases hn:out.new<;>simp[hn]at hj ⊢;omega);rw[this];exact F j (by cases hn:out.new<;>simp[hn]at hj<;>omega)
  have A':Fo n c (if out.new.isSome then n+1 else n) d:=⟨X,by split<;>omega,λj hj=>hρ j (.inr mq)⟩
  have:=J _ _ _ d u hk hv m k A';rw[Oper.semAt_eq _ _ _ (I2 W)];rcases hr with hr|⟨rfl,hr⟩
  rw[hr];exact this;rw[hr];exact this
 unfold Fa at H;split at H
 . rename_i f args ts U;rw[Oper.semAt_eq _ _ _ (by rw[U];simp)];split at H
   . rename_i g aS O;have t:=A.ev f;unfold callee at O;split at O<;>try cases O
     rename_i s args' g' x y L;rw[L,V]at t;obtain⟨xs,T,p,h1,h2⟩:=t;have B:AU (V c) (x++args.toList.map (EV sa)++y) (xs++(args.map a.eval).toList++T):=
      wo (wo (BE.1 h1) (GN args λz _=>A.ev z)) (BE.1 h2)
     obtain⟨r,C⟩:=H;have O:=C c _ I R F B;unfold K4 at r;cases D:P.funcs[g]? with
     | none=>simp[D]at r
     | some fn =>
      simp only[D,qg,bne_iff_ne,ne_eq]at r;have i:(execOp a.eval o).run P c.w=.ok (.enter g (xs.toArray++args.map a.eval++T.toArray)) c.w:=by
       have hb:fn.body≠none:=by intro e;simp[e]at r
       simp[execOp,U,resolve,Deferred.ofValue,p,invoke,callFunc,D,r.2,hb]
      have M:xs.toArray++args.map a.eval++T.toArray=(xs++(args.map a.eval).toList++T).toArray:=by
       apply wG;simp
      rw[i,Oper.uponIn_enter,M];refine⟨λh=>by simp[BZ.fc,Fence.wide]at h,(callsIn_wide.2 (O.mono λe w' ⟨u,v,h',n',d,Q,q,hw,hv,m,k,X⟩=>?_):CallsIn Fence.wide _ P g _ c.w _)⟩;subst Q;subst hw;exact J v h' n' d u q hv m k X
   . split at H
     . rename_i l G;have t:=A.ev f;unfold Mc at G;split at G<;>try cases G
       rename_i L;rw[L,V]at t;obtain⟨xs,T,p,h1,h2⟩:=t;simp only[VL]at h1 h2;subst h1;subst h2;obtain⟨fn,tm,aS,Z,S,hr⟩:=H c _ I R F (GN args λz _=>A.ev z);have i:(execOp a.eval o).run P c.w=.ok (.round l fn tm aS Z) c.w:=by
        have e:(args.map a.eval)=(args.map a.eval).toList.toArray:=by apply wG;simp
        rw[<-e]at S;simp[execOp,U,resolve,Deferred.ofValue,p,invoke];simpa using S
       rw[i,Oper.uponIn_round];refine⟨λh=>by simp[BZ.fc,Fence.wide]at h,(hr.mono λe w' ⟨u,v,h',n',d,Q,q,hw,hv,m,k,X⟩=>?_:RoundIn Fence.wide _ P l _ _ _ _ c.w _)⟩;subst Q;subst hw;exact J v h' n' d u q hv m k X
     . split at H
       . rename_i l G;have t:=A.ev f;unfold Mb at G;split at G<;>try cases G
         rename_i L;rw[L,V]at t;obtain⟨b,hρ,p⟩:=t;obtain⟨fn,tm,aS,Z,S,hr⟩:=H c _ b hρ I R F (GN args λz _=>A.ev z);have i:(execOp a.eval o).run P c.w=.ok (.round b fn tm aS Z) c.w:=by
          have e:(args.map a.eval)=(args.map a.eval).toList.toArray:=by apply wG;simp
          rw[<-e]at S;simp[execOp,U,resolve,Deferred.ofValue,p,invoke];simpa using S
         rw[i,Oper.uponIn_round];refine⟨λh=>by simp[BZ.fc,Fence.wide]at h,(hr.mono λe w' ⟨u,v,h',n',d,Q,q,hw,hv,m,k,X⟩=>?_:RoundIn Fence.wide _ P b _ _ _ _ c.w _)⟩;subst Q;subst hw;exact J v h' n' d u q hv m k X
       exact H.elim
 split at H;rename_i out W;exact plain out W H;split at H;obtain⟨hd,H⟩:=H;rw[Oper.semAt_eq _ _ _ hd];obtain⟨h',n',d,hr,m,k,X,hk⟩:=H c a.eval (λ_=>rfl) I R F A.ev;rw[hr];exact J (.tup []) h' n' d undef hk (by simp[V,undef,VL]) m k X;obtain⟨hd,H⟩:=H;rw[Oper.semAt_eq _ _ _ hd];obtain⟨u,v,h',n',d,hr,hv,m,k,X,hk⟩:=H c a.eval (λ_=>rfl) I R F A.ev;rw[hr];exact J v h' n' d u hk hv m k X
theorem I3{Q:SA->Hp->Nat->Prop}(Qp:CT)(hQ:∀sa h n,Q sa h n->Qp .normal sa h n):∀(l:List Oper)(sa:SA)(h:Hp)(n n0:Nat)(c0 c:Cx)(a:Act),(∀o∈l,o.dst.all (· < N)=true)->
 Ht E P ops Q l sa h n->E.inv c->CB h c->Fr n c->FR E N sa c a->Fo n0 c0 n c->wpListIn E.fc 0 P ops (ZL E N n0 c0 Qp) l a c.w
 | [],sa,h,n,n0,c0,c,a,_,H,I,R,F,A,X=>⟨sa,h,n,c,hQ _ _ _ H,rfl,R,F,A,X⟩
 | o :: rest, sa, h, n, n0, c0, c, a, hd, H, I, R, F, A, X => by
  have hdo:∀d,o.dst=some d->d<N:=λd e=>by have:=hd o mr;rw[e]at this;simpa using this
  simp only[Ht]at H;simp only[wpListIn];split at H
  case h_2=>exact H.elim
  rename_i b hg;cases b
  case true=>
   rw[my rfl]at H;rw[Ga A hg,my rfl];refine I4 H I R F A λv h' n' c' u hk hv R' F' X'=>?_;exact I3 Qp hQ rest _ h' n' n0 c0 c' _ (λo ho=>hd o (by simp[ho])) hk (E.ext X'.ext I) R' F' ((A.ext X'.ext).put hdo hv) (X.trans X')
  case false=>
   rw[Ga A hg];simp only[qt,if_false]at H ⊢;exact⟨λ_ _=>trivial,I3 Qp hQ rest _ h n n0 c0 c _ (λo ho=>hd o (by simp[ho])) H I R F (A.put hdo Hz) X⟩
theorem M5{id:Nat}{Q:CT}{sa:SA}{h:Hp}{n:Nat}(H:Ht E P ops (Q .normal) ops.toList sa h n):GU E P N (.region id ops false) Q sa h n:=by
 intro hd c a I R F A;simp only[Code.dok,qG]at hd;exact wpIn_region_list (I3 Q (λ_ _ _ h=>h) _ sa h n n c c a hd H I R F A (Fo.refl n c))
theorem Gd{code:Code}{Q d:CT}{sa:SA}{h:Hp}{n:Nat}(H:GU E P N code Q sa h n)(g:∀e sa h n,Q e sa h n->d e sa h n):GU E P N code d sa h n:=
 λhd c a I R F A=>wpIn_mono (H hd c a I R F A) λ_ _ _ ⟨b,h',n',f,q,r⟩=>⟨b,h',n',f,g _ _ _ _ q,r⟩
theorem M6{Q:CT}{sa:SA}{h:Hp}{n:Nat}(H:Q .normal sa h n):GU E P N .skip Q sa h n:=
 λ_ c _ _I R F A=>wpIn_skip ⟨sa,h,n,c,H,rfl,R,F,A,Fo.refl n c⟩
theorem Qg{id:Nat}{Q:CT}{sa:SA}{h:Hp}{n:Nat}(H:Q (.exit id) sa h n):GU E P N (.exit id) Q sa h n:=
 λ_ c _ _I R F A=>wpIn_exit ⟨sa,h,n,c,H,rfl,R,F,A,Fo.refl n c⟩
theorem Tq{Q:CT}{sa:SA}{h:Hp}{n:Nat}(H:Q .ret sa h n):GU E P N .ret Q sa h n:=
 λ_ c _ _I R F A=>wpIn_ret ⟨sa,h,n,c,H,rfl,R,F,A,Fo.refl n c⟩
def Dh(K:SA->Hp->Nat->Prop)(Q:CT):CT
 | .normal=>K
 | e=>Q e
theorem I9{x y:Code}{Q:CT}{sa:SA}{h:Hp}{n:Nat}(H:GU E P N x (Dh (GU E P N y Q) Q) sa h n):GU E P N (.seq x y) Q sa h n:=by
 intro hd c a I R F A;simp only[Code.dok,qg]at hd;refine wpIn_seq (wpIn_mono (H hd.1 c a I R F A) ?_);rintro e a' w' ⟨d,h',n',k,q,rfl,j,i,g,X⟩;cases e with
 | normal=>
  refine wpIn_mono (q hd.2 k a' (E.ext X.ext I) j i g) ?_;rintro e2 a2 w2 ⟨f,h2,s,r,t,b,p,o,l,m⟩;exact⟨f,h2,s,r,t,b,p,o,l,X.trans m⟩
 | _=>exact⟨d,h',n',k,q,rfl,j,i,g,X⟩
theorem BD{x:Operand}{y z:Code}{b:Bool}{Q:CT}{sa:SA}{h:Hp}{n:Nat}(hb:EV sa x=.bool b)(H:GU E P N (if b then y else z) Q sa h n):GU E P N (.cond x y z) Q sa h n:=by
 intro hd c a I R F A;simp only[Code.dok,qg]at hd;have hv:=A.ev x;rw[hb]at hv;refine wpIn_cond (HU hv) ?_;cases b;exact H hd.2 c a I R F A;exact H hd.1 c a I R F A
def FH(id:Nat)(Q:CT):CT
 | .exit id'=>λsa h n=>if id'=id then Q .normal sa h n else Q (.exit id') sa h n
 | e=>Q e
theorem LM{id:Nat}{x:Code}{Q:CT}{sa:SA}{h:Hp}{n:Nat}(H:GU E P N x (FH id Q) sa h n):GU E P N (.block id x) Q sa h n:=by
 intro hd c a I R F A;simp only[Code.dok]at hd;refine wpIn_block (wpIn_mono (H hd c a I R F A) ?_);rintro e a' w' ⟨b,h',n',i,q,hw,g,f,d,X⟩;cases e with
 | exit id'=>
  simp only[FH]at q;simp only[Exit.inBlock];split;rename_i e;rw[my e]at q;exact⟨b,h',n',i,q,hw,g,f,d,X⟩;rename_i e;rw[mw e]at q;exact⟨b,h',n',i,q,hw,g,f,d,X⟩
 | _=>exact⟨b,h',n',i,q,hw,g,f,d,X⟩
theorem ST{code:Code}{Q:CT}{sa sb:SA}{h:Hp}{n:Nat}(H:GU E P N code Q sb h n)(hw:∀p∈sb,look sa p.1=p.2):GU E P N code Q sa h n:=
 λhd c a I R F A=>H hd c a I R F (A.weaken hw)
theorem M3{x:Code}{Q:CT}{sa:SA}{h:Hp}{n:Nat}(μ:Nat)(J:Nat->SA->Hp->Nat->Prop)(h0:J μ sa h n)
 (g:∀m sa h n,J m sa h n->GU E P N x (Dh (λb h' n'=>∃m',m'<m/\J m' b h' n') Q) sa h n):GU E P N (.loop x) Q sa h n:=by
 intro hd c a I R F A;have p:Code.dok N x=true:=by simpa[Code.dok]using hd
 classical
 let L:Nat->Act->World->Prop:=λm a' w'=>∃b h' n' c',J m b h' n'/\c'.w=w'/\CB h' c'/\Fr n' c'/\FR E N b c' a'/\Fo n c n' c';have d:∀(a':Act)(w':World),(∃m,L m a' w')->∃m,L m a' w'/\∀k,k<m->¬L k a' w':=by
  intro a' w' ⟨m,hm⟩
  induction m using Nat.strongRecOn with
  | _ m ih=>
   by_cases hk:∃k,k<m/\L k a' w';obtain⟨k,hk,s⟩:=hk;exact ih k hk s;exact⟨m,hm,λk r s=>hk ⟨k,r,s⟩⟩
 let μ':Act->World->Nat:=λa' w'=>if j:∃m,L m a' w' then(d a' w' j).choose else 0
 have D:∀a' w' m,L m a' w'->L (μ' a' w') a' w'/\μ' a' w'<=m:=by
  intro a' w' m hm;have j:∃m,L m a' w':=⟨m,hm⟩
  have:=(d a' w' j).choose_spec;have e:μ' a' w'=(d a' w' j).choose:=by simp only[μ',j,dif_pos]
  rw[e];exact⟨this.1,Nat.le_of_not_lt λf=>this.2 m f hm⟩
 refine wpIn_loop (I:=λa' w'=>∃m,L m a' w') (μ:=μ') ⟨μ,sa,h,n,c,h0,rfl,R,F,A,Fo.refl n c⟩ ?_;intro a1 T ⟨m,hm⟩;obtain⟨⟨t,h1,n1,c1,S,hw,O,M,K,E1⟩,hle⟩:=D a1 T m hm;subst hw;refine wpIn_mono (g _ t h1 n1 S p c1 a1 (E.ext E1.ext I) O M K) ?_;rintro e a2 H ⟨l,h2,G,B,q,i,z,y,u,v⟩;cases e with
 | normal=>
  obtain⟨m',f,o⟩:=q;have C:L m' a2 H:=⟨l,h2,G,B,o,i,z,y,u,E1.trans v⟩
  exact⟨⟨m',C⟩,Nat.lt_of_le_of_lt (D a2 H m' C).2 f⟩
 | _=>exact⟨l,h2,G,B,q,i,z,y,u,E1.trans v⟩
end
abbrev BP:=Ab BZ.plain
theorem Ab.lift{E:BZ}{P:Program}{f:FuncId}{args:List SV}{h:Hp}{n:Nat}{Q:SV->Hp->Nat->Prop}(H:Ab BZ.plain P f args h n Q):Ab E P f args h n Q:=
 ⟨H.1,λc vs _ R F A=>H.2 c vs trivial R F A⟩
mutual
def C_(n:Nat):SV->Bool
 | .agg cs=>c_ n cs
 | .tup cs=>c_ n cs
 | .fn _ a b=>c_ n a&&c_ n b
 | .ptr o _=>decide (o<n)
 | .q cs=>c_ n cs
 | .sl o _ _ _ _=>decide (o<n)
 | .slc o _ _ _ _=>decide (o<n)
 | .y _ es _=>c_ n es
 | .map o=>decide (o<n)
 | .yl o=>decide (o<n)
 | _=>true
def c_(n:Nat):List SV->Bool
 | []=>true
 | s::ss=>C_ n s&&c_ n ss
end
def BH(n:Nat):A9->Bool
 | .cells cs _=>c_ n cs
 | .map es=>es.all λp=>C_ n p.1&&C_ n p.2
 | .loop _=>true
 | .sit _ _=>true
 | .iter left last=>(left.all λp=>C_ n p.1&&C_ n p.2)&&last.all λp=>C_ n p.1&&C_ n p.2
 | .list _ es=>c_ n (es.flatMap SV.cells)
theorem EJ{n:Nat}:∀{l:List SV},c_ n l=true↔∀s∈l,C_ n s=true
 | []=>by simp[c_]
 | s::ss=>by simp[c_,EJ (l:=ss)]
mutual
theorem DK{c:Cx}{n:Nat}(F:Fr n c):∀{s:SV} {v:Value},V c s v->C_ n s=true
 | .agg cs,v,h=>by rw[V]at h;obtain⟨vs,_,d,_⟩:=h;rw[C_];exact DL F d
 | .tup cs,v,h=>by rw[V]at h;obtain⟨vs,_,d⟩:=h;rw[C_];exact DL F d
 | .fn f a b,v,h=>by rw[V]at h;obtain⟨xs,ys,_,h1,h2⟩:=h;rw[C_,DL F h1,DL F h2];rfl
 | .ptr o off,v,h=>by
  rw[V]at h;obtain⟨b,st,h1,_⟩:=h;rw[C_];exact decide_eq_true (wp λd=>by rw[F o d]at h1;cases h1)
 | .q cs,v,h=>by rw[V]at h;obtain⟨a,vs,_,_,d,_⟩:=h;rw[C_];exact DL F d
 | .sl o _ _ _ _,v,h=>by
  rw[V]at h;obtain⟨b,st,cap,h1,_⟩:=h;rw[C_];exact decide_eq_true (wp λd=>by rw[F o d]at h1;cases h1)
 | .slc o _ _ _ _,v,h=>by
  rw[V]at h;obtain⟨b,st,h1,_⟩:=h;rw[C_];exact decide_eq_true (wp λd=>by rw[F o d]at h1;cases h1)
 | .y z es full,v,h=>by
  rw[V]at h;rw[C_];rcases h with⟨rfl,_⟩|⟨a,cap,vs,_,_,_,_,e⟩
  rfl;exact Kg F e
 | .map o,v,h=>by
  rw[V]at h;obtain⟨b,h1,_⟩:=h;rw[C_];exact decide_eq_true (wp λd=>by rw[F o d]at h1;cases h1)
 | .yl o,v,h=>by
  rw[V]at h;obtain⟨b,h1,_⟩:=h;rw[C_];exact decide_eq_true (wp λd=>by rw[F o d]at h1;cases h1)
 | .bool _,_,_=>rfl
 | .int _ _,_,_=>rfl
 | .str _,_,_=>rfl
 | .nilp,_,_=>rfl
 | .nilf,_,_=>rfl
 | .nilm,_,_=>rfl
 | .nils,_,_=>rfl
 | .junk,_,_=>rfl
theorem DL{c:Cx}{n:Nat}(F:Fr n c):∀{s:List SV} {v:List Value},VL c s v->c_ n s=true
 | [],_,_=>rfl
 | s::ss,v,h=>by rw[VL]at h;obtain⟨u,r,_,h1,h2⟩:=h;rw[c_,DK F h1,DL F h2];rfl
theorem Kg{c:Cx}{n z:Nat}(F:Fr n c):∀{s:List SV} {v:List Value},VE c z s v->c_ n s=true
 | [],_,_=>rfl
 | s::ss,v,h=>by rw[VE]at h;obtain⟨u,r,_,_,_,h1,h2⟩:=h;rw[c_,DK F h1,Kg F h2];rfl
end
theorem Gk{c:Cx}{n o:Nat}{x:A9}(F:Fr n c)(h:EF c o x):o<n/\BH n x=true:=by
 refine⟨?_,?_⟩;obtain⟨b,st,h1,_⟩:=h.block;exact wp λm=>by rw[F o m]at h1;cases h1
 cases x with
 | cells cs ty=>obtain⟨b,st,arr,e,vs,_,_,_,d,_⟩:=h;exact DL F (BE.2 d)
 | map es=>
  obtain⟨b,f,a,_,_,j,_⟩:=h;simp only[BH,qG,qg];intro p hp;obtain⟨i,hi⟩:=List.getElem?_of_mem hp;obtain⟨e,_,d,g⟩:=j.get hi;exact⟨DK F d,DK F g⟩
 | loop r=>rfl
 | sit s pos=>rfl
 | iter left last=>
  obtain⟨b,bm,f,a,seen,_,_,_,_,_,j,k⟩:=h;simp only[BH,qG,qg,Option.all_eq_true];refine⟨λp hp=>?_,λp hp=>?_⟩;obtain⟨i,hi⟩:=List.getElem?_of_mem hp;obtain⟨e,_,d,g⟩:=j.get hi;exact⟨DK F d,DK F g⟩;obtain⟨e,_,_,d,g⟩:=k p hp;exact⟨DK F d,DK F g⟩
 | list z es=>
  obtain⟨b,Tf,arr,e,v,_,_,_,_,⟨rfl,_,_⟩|⟨B,st,arr2,e2,vs,cap,_,_,_,_,_,_,_,_,l,_⟩⟩:=h;rfl;exact DL F (BE.2 l)
def Cx.cut(c:Cx)(h:Hp)(n:Nat):Cx:=
 { ρ:=λj=>if j<n then c.ρ j else none,own:=λb=>∃o x,h o=some x/\o<n/\BA c o x b,w:=c.w,bk:=c.bk }
section
variable{c:Cx}{h h2:Hp}{n:Nat}
theorem Ph(R:CB h c)(e:∀o x,h2 o=some x->h o=some x){b:Nat}(hb:(c.cut h2 n).own b):c.own b:=by
 obtain⟨o,x,a,_,d⟩:=hb;exact(R.own2 b).2 ⟨o,x,e o x a,d⟩
theorem HI.cut(R:CB h c)(b:∀o x,h2 o=some x->h o=some x){a:Addr}{vs:List Value}(g:HI c a vs):HI (c.cut h2 n) a vs:=
 ⟨g.spot,λhv hb=>g.free hv (Ph R b hb),g.cell,g.one⟩
mutual
theorem V.cut(R:CB h c)(d:∀o x,h2 o=some x->h o=some x):∀{s:SV} {v:Value},C_ n s=true->V c s v->V (c.cut h2 n) s v
 | .agg cs,v,hc,g=>by rw[V]at *;rw[C_]at hc;obtain⟨vs,e,j,l⟩:=g;exact⟨vs,e,VL.cut R d hc j,l⟩
 | .tup cs,v,hc,g=>by rw[V]at *;rw[C_]at hc;obtain⟨vs,e,j⟩:=g;exact⟨vs,e,VL.cut R d hc j⟩
 | .fn f a b,v,hc,g=>by rw[V]at *;rw[C_,qg]at hc;obtain⟨xs,m,e,h1,h2⟩:=g;exact⟨xs,m,e,VL.cut R d hc.1 h1,VL.cut R d hc.2 h2⟩
 | .ptr o off,v,hc,g=>by rw[V]at *;rw[C_]at hc;obtain⟨b,st,h1,h2⟩:=g;exact⟨b,st,by simp[Cx.cut,of_decide_eq_true hc,h1],h2⟩
 | .q cs,v,hc,g=>by rw[V]at *;rw[C_]at hc;obtain⟨a,vs,e,h1,h2,i⟩:=g;exact⟨a,vs,e,h1.cut R d,VL.cut R d hc h2,i⟩
 | .sl o off z len full,v,hc,g=>by rw[V]at *;rw[C_]at hc;obtain⟨b,st,cap,h1,h2⟩:=g;exact⟨b,st,cap,by simp[Cx.cut,of_decide_eq_true hc,h1],h2⟩
 | .slc o off z len cap,v,hc,g=>by rw[V]at *;rw[C_]at hc;obtain⟨b,st,h1,h2⟩:=g;exact⟨b,st,by simp[Cx.cut,of_decide_eq_true hc,h1],h2⟩
 | .y z es full,v,hc,g=>by
  rw[V]at *;rw[C_]at hc;rcases g with g|⟨a,cap,vs,e,h1,h2,i,k⟩
  exact .inl g;exact .inr ⟨a,cap,vs,e,h1,h2,i.cut R d,VE.cut R d hc k⟩
 | .map o,v,hc,g=>by rw[V]at *;rw[C_]at hc;obtain⟨b,h1,h2⟩:=g;exact⟨b,by simp[Cx.cut,of_decide_eq_true hc,h1],h2⟩
 | .yl o,v,hc,g=>by rw[V]at *;rw[C_]at hc;obtain⟨b,h1,h2⟩:=g;exact⟨b,by simp[Cx.cut,of_decide_eq_true hc,h1],h2⟩
 | .bool _,_,_,g=>g
 | .int _ _,_,_,g=>g
 | .str _,_,_,g=>g
 | .nilp,_,_,g=>g
 | .nilf,_,_,g=>g
 | .nilm,_,_,g=>g
 | .nils,_,_,g=>g
 | .junk,_,_,_=>trivial
theorem VL.cut(R:CB h c)(a:∀o x,h2 o=some x->h o=some x):∀{s:List SV} {v:List Value},c_ n s=true->VL c s v->VL (c.cut h2 n) s v
 | [],_,_,g=>by rw[VL]at *;exact g
 | s::ss,v,hc,g=>by rw[VL]at *;rw[c_,qg]at hc;obtain⟨u,r,e,h1,h2⟩:=g;exact⟨u,r,e,V.cut R a hc.1 h1,VL.cut R a hc.2 h2⟩
theorem VE.cut(R:CB h c)(b:∀o x,h2 o=some x->h o=some x){z:Nat}:∀{s:List SV} {v:List Value},c_ n s=true->VE c z s v->VE (c.cut h2 n) z s v
 | [],_,_,g=>by rw[VE]at *;exact g
 | s::ss,v,hc,g=>by rw[VE]at *;rw[c_,qg]at hc;obtain⟨u,r,e,d,a,h1,h2⟩:=g;exact⟨u,r,e,d,a,V.cut R b hc.1 h1,VE.cut R b hc.2 h2⟩
end
theorem CB.cut(R:CB h c)(F:∀o x,h2 o=some x->h o=some x/\o<n/\BH n x=true):CB h2 (c.cut h2 n):=by
 have a:∀o x,h2 o=some x->h o=some x:=λo x e=>(F o x e).1;have hh:∀o x b,o<n->(BA (c.cut h2 n) o x b↔BA c o x b):=λo x b Q=>by simp[BA,Cx.cut,Q]
 refine⟨λo x e=>?_,λi j x y b u k l K=>?_,λb=>?_⟩;obtain⟨u,k,l⟩:=F o x e;have g:=R.obj o x u;cases x with
 | cells cs ty=>
  obtain⟨b,st,arr,el,vs,h1,d,C,w,A⟩:=g;exact⟨b,st,arr,el,vs,by simp[Cx.cut,k,h1],d,C,BE.1 (VL.cut R a l (BE.2 w)),A⟩
 | map es=>
  obtain⟨b,m,f,h1,d,C,P⟩:=g;simp only[BH,qG,qg]at l;refine⟨b,m,f,by simp[Cx.cut,k,h1],d,wY C.length λi p q hp I=>?_,P⟩;obtain⟨S,t,w,A⟩:=C.get hp;rw[I]at t;cases t;have:=l p (vJ hp);exact⟨V.cut R a this.1 w,V.cut R a this.2 A⟩
 | iter left last=>
  obtain⟨b,bm,m,f,G,h1,d,C,w,A,J,O⟩:=g;simp only[BH,qG,qg,Option.all_eq_true]at l;refine⟨b,bm,m,f,G,by simp[Cx.cut,k,h1],d,C,?_,A,wY J.length λi p q hp I=>?_,λp hp=>?_⟩;exact λhb=>w (Ph R a hb);obtain⟨S,t,w,A⟩:=J.get hp;rw[I]at t;cases t;have:=l.1 p (vJ hp);exact⟨V.cut R a this.1 w,V.cut R a this.2 A⟩;obtain⟨e,g1,E,g3,H⟩:=O p hp;have:=l.2 p hp;exact⟨e,g1,E,V.cut R a this.1 g3,V.cut R a this.2 H⟩
 | loop r=>
  obtain⟨b,h1,d⟩:=g;exact⟨b,by simp[Cx.cut,k,h1],d⟩
 | sit s pos=>
  obtain⟨b,h1,d⟩:=g;exact⟨b,by simp[Cx.cut,k,h1],d⟩
 | list z es=>
  obtain⟨b,Tf,arr,e,v,h1,d,C,w,A⟩:=g;refine⟨b,Tf,arr,e,v,by simp[Cx.cut,k,h1],d,C,w,?_⟩;rcases A with⟨g1,E,g3⟩|⟨B,st,D,k,vs,cap,g1,N,E,g3,H,L,g6,g7,g8,M⟩
  exact .inl ⟨g1,E,V.cut R a (by rfl) g3⟩;exact .inr ⟨B,st,D,k,vs,cap,g1,N,E,g3,H,L,g6,g7,BE.1 (VL.cut R a l (BE.2 g8)),M⟩
 exact R.inj2 i j x y b (a _ _ u) (a _ _ k) ((hh i x b (F i x u).2.1).1 l) ((hh j y b (F j y k).2.1).1 K);constructor;rintro⟨o,x,u,k,l⟩;exact⟨o,x,u,(hh o x b k).2 l⟩;rintro⟨o,x,u,k⟩;have:=(F o x u).2.1;exact⟨o,x,u,this,(hh o x b this).1 k⟩
theorem Sj:Fr n (c.cut h2 n):=λj a=>by simp[Cx.cut,Nat.not_lt.2 a]
theorem T8{c0:Cx}{n0:Nat}(R:CB h c)(i:∀o x,h2 o=some x->h o=some x)(d:Fr n0 c0)(hn:n0<=n)(E:DV c0 c):DV c0 (c.cut h2 n):=by
 refine⟨λo p e=>?_,E.size,λb hb a=>⟨λg=>(E.keep b hb a).1 (Ph R i g),(E.keep b hb a).2⟩,E.room,E.os,E.out,E.td⟩;have:o<n0:=wp λf=>by rw[d o f]at e;cases e
 simp only[Cx.cut,show o<n by omega,if_true];exact E.ρ o p e
end
def Cx.less(c:Cx)(h:Hp):Cx:={ c with own:=λb=>∃o x,h o=some x/\BA c o x b }
section
variable{c:Cx}{h h2:Hp}
theorem DN(R:CB h c)(f:∀o x,h2 o=some x->h o=some x):DV c (c.less h2):=
 ⟨λ_ _ e=>e,IO _,λb _ hb=>⟨λ⟨o,x,a,d⟩=>hb ((R.own2 b).2 ⟨o,x,f o x a,d⟩),rfl⟩,λ_=>IO _,rfl,rfl,⟨rfl,IO _⟩⟩
theorem CB.less(R:CB h c)(a:∀o x,h2 o=some x->h o=some x):CB h2 (c.less h2):=
 ⟨λo x e=>(R.obj o x (a o x e)).mono (DN R a) λ_ _=>rfl,λi j x y b d f g k=>R.inj2 i j x y b (a _ _ d) (a _ _ f) g k,λ_=>Iff.rfl⟩
end
def Fz(h h2:Hp):Nat->SV->SV->Prop
 | 0,v,r=>v=r
 | k + 1, v, r => v = r ∨
  match v,r with
  | _,.junk=>True
  | .sl o off z len full,.y z' es full'=>h2 o=none/\(full'=true->full=true)/\es.length=len/\z'=z/\∃cs xs,h o=some (.cells cs)/\Cb cs off (len*z)=some xs/\
   (∀e∈es,e.B=true/\e.cells.length=z)/\AU (Fz h h2 k) xs (es.flatMap SV.cells)
  | .ptr o off,.q ds=>h2 o=none/\∃cs,h o=some (.cells cs)/\off<=cs.length/\AU (Fz h h2 k) (cs.drop off) ds
  | .agg cs,.agg ds=>AU (Fz h h2 k) cs ds
  | .tup cs,.tup ds=>AU (Fz h h2 k) cs ds
  | .fn f a b,.fn f' a' b'=>f=f'/\AU (Fz h h2 k) a a'/\AU (Fz h h2 k) b b'
  | .q cs,.q ds=>AU (Fz h h2 k) cs ds
  | .y z es full,.y z' es' full'=>(full'=true->full=true)/\(es=[]\/z'=z)/\AU (Fz h h2 k) es es'/\∀e∈es',e.B=true
  | .slc o off z len cap,.sl o' off' z' len' full'=>o'=o/\off'=off/\z'=z/\len'=len/\(full'=true->cap=len)
  | _,_=>False
theorem Fz.same{h h2:Hp}:∀{k:Nat} {v:SV},Fz h h2 k v v
 | 0,_=>Eq.refl _
 | _+1,_=>.inl (Eq.refl _)
theorem AU.trans3{α β γ:Type}{R:α->β->Prop}{S:α->γ->Prop}{T:γ->β->Prop}(c:∀a b g,R a b->S a g->T g b):∀{aS:List α} {bs:List β} {d:List γ},AU R aS bs->AU S aS d->AU T d bs
 | [],[],[],_,_=>trivial
 | _::_,_::_,_::_,h,g=>⟨c _ _ _ h.1 g.1,AU.trans3 c h.2 g.2⟩
 | [],_::_,_,h,_=>h.elim
 | _::_,[],_,h,_=>h.elim
 | [],[],_::_,_,g=>g.elim
 | _::_,_::_,[],_,g=>g.elim
theorem Wg{c:Cx}{z:Nat}:∀{es:List SV} {vs:List Value},(∀e∈es,e.B=true/\e.cells.length=z)->AU (V c) (es.flatMap SV.cells) vs->(∀x∈vs,x.oneCell'=true)->VE c z es vs
 | [],vs,_,h,_=>by rw[VE];exact h.nil_left
 | e :: es, vs, he, h, h1 => by
  rw[VE];simp only[va]at h;have hl:=h.length;obtain⟨j,g⟩:=he e mr;have i:AU (V c) e.cells (vs.take z):=by have:=h.take z;rwa [List.take_left' g]at this
  have r:AU (V c) (es.flatMap SV.cells) (vs.drop z):=by have:=h.drop z;rwa [List.drop_left' g]at this
  have a:∀x∈vs.take z,x.oneCell'=true:=λx f=>h1 x (vA f);have n:(vs.take z).length=z:=by rw[<-i.length];exact g
  obtain⟨u,k,l,m⟩:∃u:Value,u.cells.toList=vs.take z/\u.cells.size=z/\V c e u:=by
   by_cases b:∃o,e=.agg o;obtain⟨o,rfl⟩:=b;exact⟨.agg (vs.take z).toArray,by simp[Value.cells],by simp only[Value.cells,List.size_toArray];exact n,by rw[V];exact⟨_,rfl,BE.2 i,a⟩⟩;have p:e.cells=[e]:=by cases e<;>simp[SV.cells]at b ⊢
   rw[p]at i;obtain⟨u,q,hv⟩:=i.single;have s:=a u (by rw[q];simp);have d:u.cells = #[u]:=by cases u<;>simp[Value.oneCell']at s<;>rfl
   rw[p]at g;exact⟨u,by rw[d,q],by rw[d];simpa using g,hv⟩
  exact⟨u,vs.drop z,by rw[k,vY],l,j,m,Wg (λx f=>he x (by simp[f])) r λx f=>h1 x (vB f)⟩
theorem Fz.sound{c:Cx}{h h2:Hp}(R:CB h c)(y:∀o x,h2 o=some x->h o=some x):∀(k:Nat) {v r:SV} {u:Value},Fz h h2 k v r->V c v u->V (c.less h2) r u
 | 0,v,r,u,f,hv=>by cases f;exact hv.mono (DN R y)
 | k + 1, v, r, u, f, hv => by
  have ih:∀{v r:SV} {u:Value},Fz h h2 k v r->V c v u->V (c.less h2) r u:=λf hv=>Fz.sound R y k f hv;have l:∀{aS bs:List SV} {us:List Value},AU (Fz h h2 k) aS bs->AU (V c) aS us->AU (V (c.less h2)) bs us:=λf hv=>AU.trans3 (R:=V c) (S:=Fz h h2 k) (T:=V (c.less h2)) (λa b g h1 h2=>ih h2 h1) hv f;have n:∀o b st x,h2 o=none->h o=some x->c.ρ o=some (b,st)->¬(c.less h2).own b:=λo b st x C w hρ=>by
   rintro⟨o',x',G,Z⟩;have:=R.inj2 o o' x x' b w (y _ _ G) (.inl ⟨st,hρ⟩) Z;subst this;rw[C]at G;cases G
  rcases f with rfl|f;exact hv.mono (DN R y);split at f;simp[V];rename_i o off z len full F es full';obtain⟨C,q,d,rfl,Y,xs,w,Q,K,j⟩:=f;rw[V]at hv;obtain⟨b,st,cap,hρ,rfl,B,s,_⟩:=hv;obtain⟨X,U,vs,hρ',J,h1,m⟩:=(R.obj _ _ w).cell;rw[hρ]at hρ';cases hρ';obtain⟨N,rfl⟩:=E4 Q;have A:∀x∈(vs.drop off).take (len*F),x.oneCell'=true:=λx p=>h1 x (vB (vA p));have L:=l j ((J.drop off).take (len*F));rw[V];refine .inr ⟨⟨b,st+off,none⟩,cap,(vs.drop off).take (len*F),by rw[d],by rw[d];exact B,λf=>by rw[d];exact s (q f),⟨λ_=>rfl,λ_=>n o b st _ C w hρ,λi x p=>?_,A⟩,Wg K L A⟩;rw[vK]at p;split at p;rw[vw]at p;simp only[qq];exact m _ _ p;cases p;rename_i o off ds;obtain⟨C,Y,w,N,j⟩:=f;rw[V]at hv;obtain⟨b,st,hρ,rfl⟩:=hv;obtain⟨X,U,vs,hρ',J,h1,m⟩:=(R.obj _ _ w).cell;rw[hρ]at hρ';cases hρ';rw[V];refine⟨⟨b,st+off,none⟩,vs.drop off,rfl,⟨λ_=>rfl,λ_=>n o b st _ C w hρ,λi x p=>?_,λx p=>h1 x (vB p)⟩,BE.2 (l j (J.drop off)),rfl⟩;rw[vw]at p;simp only[qq];exact m _ _ p;rw[V]at hv ⊢;obtain⟨vs,e,t,h1⟩:=hv;exact⟨vs,e,BE.2 (l f (BE.1 t)),h1⟩;rw[V]at hv ⊢;obtain⟨vs,e,t⟩:=hv;exact⟨vs,e,BE.2 (l f (BE.1 t))⟩;obtain⟨rfl,h1,h2⟩:=f;rw[V]at hv ⊢;obtain⟨xs,ys,e,t,M⟩:=hv;exact⟨xs,ys,e,BE.2 (l h1 (BE.1 t)),BE.2 (l h2 (BE.1 M))⟩;rw[V]at hv ⊢;obtain⟨a,vs,e,P,t,O⟩:=hv;exact⟨a,vs,e,P.mono (DN R y),BE.2 (l f (BE.1 t)),O⟩;rename_i z es full F es' full';obtain⟨q,hz,j,D⟩:=f;rw[V]at hv ⊢;have d:=j.length;rcases hv with⟨rfl,e⟩|⟨a,cap,vs,e,h1,h2,H,I⟩
  exact .inl ⟨by simpa using d.symm,e⟩;obtain⟨us,g1,g2,g3,g4⟩:=Ju.1 I;refine .inr ⟨a,cap,vs,by rw[e,d],by omega,λf=>by rw[h2 (q f),d],H.mono (DN R y),Ju.2 ⟨us,l j g1,?_,D,g4⟩⟩;rcases hz with rfl|rfl;intro u W;rw[g1.nil_left]at W;cases W;exact g2;obtain⟨rfl,rfl,rfl,rfl,q⟩:=f;have E:=hv.mono (DN R y);simp only[V]at E ⊢;obtain⟨b,st,h1,h2,H,I⟩:=E;exact⟨b,st,_,h1,h2,H,q,I⟩;exact f.elim
def Lg(P:Program)(sa:SA)(h:Hp):List ResultVar->Option (List SV)
 | []=>some []
 | .tmp t::r=>(Lg P sa h r).map (look sa t :: ·)
 | .cell a t::r=>match HL P h t (look sa a),Lg P sa h r with|some v,some vs=>some (v::vs)|_,_=>none
def Jl:List SV->SV
 | [v]=>v
 | vs=>.tup vs
def D7:Nat->List SV->SA
 | _,[]=>[]
 | i,a::aS=>(i,a)::D7 (i+1) aS
def Ce(n:Nat)(h':Hp)(n':Nat)(v:SV)(K:SV->Hp->Nat->Prop):Prop:=
 K v h' n'\/∃k r h2,Fz h' h2 k v r/\C_ n r=true/\(∀o x,h2 o=some x->h' o=some x/\o<n/\BH n x=true)/\K r h2 n
def OT(P:Program)(fn:Func)(n:Nat)(K:SV->Hp->Nat->Prop):CT:=λe sa' h' n'=>
 (e=.normal\/e=.ret)/\∃rs,Lg P sa' h' fn.results.toList=some rs/\Ce n h' n' (Jl rs) K
section
variable{P:Program}
theorem Ox:∀(args:List SV)(i t:Nat),look (D7 i args) t=if i<=t then(args[t-i]?).getD .junk else .junk
 | [],i,t=>by simp[D7,look]
 | a::aS,i,t=>by
  simp only[D7,look];by_cases h:i=t;subst h;simp;rw[mw h,Ox aS (i+1) t];by_cases h2:i<=t;rw[my h2,my mq,show t-i=(t-(i+1))+1 by omega];simp;rw[mw h2,mw mq]
theorem Tn{E:BZ}{N:Nat}{c:Cx}{args:List SV}{vs:List Value}(d:E.base<=c.w.heap.size)(h:AU (V c) args vs)(hl:args.length<=N):
 FR E N (D7 0 args) c { tmps:=vs.toArray++Array.replicate (N-vs.toArray.size) undef,defers:=[] }:=by
 have hlen:=h.length;refine⟨by simp;omega,⟨d,λ_=>rfl,by simp,by simp⟩,λt=>?_⟩;rw[Ox,my (qj _),wy];cases e:args[t]? with
 | none=>simp[V]
 | some s=>
  obtain⟨u,b,hv⟩:=h.get e;have a:=(qv.1 b).1;simp only[Option.getD_some,qO];rw[vS (by simpa using a)];simpa[b]using hv
def P7(tmps:Array Value):ResultVar->Sem Value
 | .tmp t=>pure (tmps.getD t undef)
 | .cell x t=>do loadVar t (<-asAddr (tmps.getD x undef))
theorem Iy{E:BZ}{N:Nat}{sa:SA}{c:Cx}{h:Hp}{a:Act}(R:CB h c)(A:FR E N sa c a):∀(l:List ResultVar)(rs:List SV),Lg P sa h l=some rs->
 ∃us,(l.mapM (P7 a.tmps)).run P c.w=.ok us c.w/\AU (V c) rs us
 | [],rs,hr=>by
  simp only[Lg,qm]at hr;subst hr;exact⟨[],by simp,trivial⟩
 | .tmp t::l,rs,hr=>by
  simp only[Lg,qT]at hr;obtain⟨d,h1,rfl⟩:=hr;obtain⟨us,g1,b⟩:=Iy R A l d h1;exact⟨a.tmps.getD t undef::us,by simp only[List.mapM_cons,P7,Sem.run_bind,Sem.run_pure,Result.andThen_ok,g1],A.val t,b⟩
 | .cell x t::l,rs,hr0=>by
  simp only[Lg]at hr0;split at hr0<;>try cases hr0
  rename_i v vs h1 h2;obtain⟨us,g1,b⟩:=Iy R A l vs h2;obtain⟨ad,r,e,hr,hv⟩:=Ov R h1 (A.val x);exact⟨r::us,by simp only[List.mapM_cons,P7,Sem.run_bind,Sem.run_pure,Result.andThen_ok,e,asAddr,hr,g1],hv,b⟩
theorem Xv{c:Cx}{rs:List SV}{us:List Value}(h:AU (V c) rs us):V c (Jl rs) (if hs:us.toArray.size=1 then us.toArray[0]else .tuple us.toArray):=by
 match rs,us,h with
 | [],[],_=>simp[Jl,V,VL]
 | [r],[u],h=>simpa[Jl]using h.1
 | r::r2::rs,u::u2::us,h=>
  rw[dif_neg mr];simp only[Jl];rw[V];exact⟨_,rfl,BE.2 h⟩
 | [_],[],h=>exact h.elim
 | [],_::_,h=>exact h.elim
 | [_],_::_::_,h=>exact h.2.elim
 | _::_::_,[],h=>exact h.elim
 | _::_::_,[_],h=>exact h.2.elim
def BZ.call(E:BZ)(m:Bool)(B:Nat):BZ:={ ro:=none,mks:=m,base:=B,inv:=E.inv,ext:=E.ext }
theorem Rf{E':BZ}{fn:Func}{c a:Cx}{a':Act}{h':Hp}{n n':Nat}{h:SA}{K:SV->Hp->Nat->Prop}{rs:List SV}(F:Fr n c)
 (q:Lg P h h' fn.results.toList=some rs) (g:Ce n h' n' (Jl rs) K) (f:CB h' a) (z:Fr n' a) (y:FR E' fn.ntmps h a a') (X:Fo n c n' a):
 ∃u v h2 n2 c2,(results fn a'.tmps).run P a.w=.ok u a.w/\K v h2 n2/\c2.w=a.w/\V c2 v u/\CB h2 c2/\Fr n2 c2/\Fo n c n2 c2:=by
 obtain⟨us,g1,A⟩:=Iy (P:=P) f y _ rs q;have b:(results fn a'.tmps).run P a.w=.ok (if i:us.toArray.size=1 then us.toArray[0]else .tuple us.toArray) a.w:=by
  have e:results fn a'.tmps=(do let vs <-fn.results.mapM (P7 a'.tmps);pure (if i:vs.size=1 then vs[0]else .tuple vs)):=by
   unfold results;congr 2
  rw[e,Array.mapM_eq_mapM_toList];simp only[Sem.run_bind,Sem.run_map,g1,Result.andThen_ok,Sem.run_pure]
 have hv:=Xv A;rcases g with hk|⟨k,r,h2,p,m,i,hk⟩
 exact⟨_,_,h',n',a,b,hk,rfl,hv,f,z,X⟩;have d:∀o x,h2 o=some x->h' o=some x:=λo x e=>(i o x e).1;have l:=f.less d;have s:V ((a.less h2).cut h2 n) r _:=(p.sound f d k hv).cut l (λ_ _ e=>e) m;refine⟨_,r,h2,n,(a.less h2).cut h2 n,b,hk,rfl,s,l.cut (λo x e=>⟨e,(i o x e).2⟩),Sj,⟨T8 l (λ_ _ e=>e) F (IO _) (X.ext.trans (DN f d)),IO _,λj t=>?_⟩⟩;simp only[Cx.cut,t,if_true];exact X.same j t
theorem L5{c:Cx}{n:Nat}{args:List SV}{vs:List Value}(F:Fr n c)(A:AU (V c) args vs):∀a∈args,C_ n a=true:=λa b=>by
 obtain⟨i,hi⟩:=List.getElem?_of_mem b;obtain⟨u,_,hv⟩:=A.get hi;exact DK F hv
theorem Oa{E:BZ}{f:FuncId}{fn:Func}{code:Code}{args:List SV}{h:Hp}{n:Nat}{K:SV->Hp->Nat->Prop}(m:P.funcs[f]? = some fn)(hb:fn.body=some code)
 (C:(fn.name != "runtime.NumGoroutine")=true) (hd:Code.dok fn.ntmps code=true) (B:args.length<=fn.ntmps)
 (H:(∀a∈args,C_ n a=true)->(∀o x,h o=some x->o<n/\BH n x=true)->GU (E.call false 0) P fn.ntmps code (OT P fn n K) (D7 0 args) h n):Ab E P f args h n K:=by
 refine⟨by simp[K4,m,hb];simpa using C,λc vs I R F A=>?_⟩;refine calls_of_wp m hb (wp_mono (wpIn_wide.1 (H (L5 F A) (λo x e=>Gk F (R.obj o x e)) hd c _ I R F (Tn (qj _) A B))) ?_);rintro e a' w' ⟨sa',h',n',i,⟨z,rs,j,d⟩,rfl,s,q,l,X⟩;obtain⟨u,v,h2,D,y,g,hk,hw,k,t,r,p⟩:=Rf F j d s q l X;have b:a'.defers=[]/\∃u,(results fn a'.tmps).run P i.w=.ok u i.w/\∃u' v h' n' c'',Ending.returned u=.returned u'/\K v h' n'/\c''.w=i.w/\V c'' v u'/\CB h' c''/\Fr n' c''/\Fo n c n' c'':=
  ⟨l.defers.none rfl,_,g,_,v,h2,D,y,rfl,hk,hw,k,t,r,p⟩
 rcases z with rfl|rfl<;>exact b
def Cx.shut(c:Cx)(D:Nat):Cx:={ c with w:=c.w.putObj D (.deferred none) }
theorem Hs{c:Cx}{D b:Nat}(h:b≠D):(c.shut D).w.heap[b]? = c.w.heap[b]?:=World.putObj_heap_other h
theorem Lu{c:Cx}{D:Nat}(a:c.w.heap[D]? = some (.deferred (some []))):Qc c (c.shut D):=by
 refine⟨λ_ _ e=>e,λb d ⟨x,hb,f⟩=>⟨d,?_⟩,λb=>?_⟩;have:b≠D:=by rintro rfl;rw[a]at hb;cases hb;exact f _ rfl
 exact Hs this;by_cases e:b=D;subst e;simp[rm,a];simp[rm,Hs e]
theorem YY{h:Hp}{c:Cx}{D:Nat}(a:c.w.heap[D]? = some (.deferred (some [])))(R:CB h c):CB h (c.shut D):=by
 refine⟨λo x e=>?_,R.inj2,R.own2⟩;refine(R.obj o x e).mono0 (Lu a) λb l=>Hs ?_;rintro rfl;have g:=R.obj o x e;rcases l with⟨st,hb⟩|⟨k,hb⟩
 rotate_left
 cases x with
 | list z es=>
  obtain⟨f,Tf,arr,el,v,h1,h2,h3,h4,⟨_,j,_⟩|⟨B,st,arr2,e2,vs,cap,_,_,j,m,_⟩⟩:=g;rw[hb]at j;cases j;rw[hb]at j;cases j;rw[a]at m;cases m
 | cells cs ty=>cases k
 | map es=>cases k
 | loop r=>cases k
 | sit s pos=>cases k
 | iter left last=>cases k
 cases x with
 | cells cs ty=>obtain⟨f,st',arr,el,vs,h1,h2,_⟩:=g;rw[hb]at h1;cases h1;rw[a]at h2;cases h2
 | map es=>obtain⟨f,i,d,h1,h2,_⟩:=g;rw[hb]at h1;cases h1;rw[a]at h2;cases h2
 | loop r=>obtain⟨f,h1,h2⟩:=g;rw[hb]at h1;cases h1;rw[a]at h2;cases h2
 | sit s pos=>obtain⟨f,h1,h2⟩:=g;rw[hb]at h1;cases h1;rw[a]at h2;cases h2
 | iter left last=>obtain⟨f,bm,i,d,seen,h1,h2,_⟩:=g;rw[hb]at h1;cases h1;rw[a]at h2;cases h2
 | list z es=>obtain⟨f,Tf,arr,el,v,h1,h2,_⟩:=g;rw[hb]at h1;cases h1;rw[a]at h2;cases h2
theorem TX{c0 c:Cx}{D:Nat}(X:DV c0 c)(h:c0.w.heap.size<=D)(d:c.w.heap[D]? = some (.deferred (some []))):DV c0 (c.shut D):=by
 refine⟨X.ρ,by simpa[Cx.shut]using X.size,λb hb a=>⟨(X.keep b hb a).1,?_⟩,λb=>qC (X.room b) ((Lu d).room b),X.os,X.out,X.td⟩;rw[Hs mq];exact(X.keep b hb a).2
theorem Ku{fn:Func}{E':BZ}{c:Cx}{tmps:Array Value}{R:Ending->World->Prop}(z:c.w.heap.size<=E'.base){n n':Nat}{h':Hp}{j:SA}{K:SV->Hp->Nat->Prop}{rs:List SV}(F:Fr n c)
 (g:Lg P j h' fn.results.toList=some rs) (b:Ce n h' n' (Jl rs) K)
 (q:∀u v h2 i e,K v h2 i->V e v u->CB h2 e->Fr i e->Fo n c i e->R (.returned u) e.w):
 ∀(f:List Deferred)(a:Cx),(∀d∈f,∃D,E'.base<=D/\d=Xe D/\a.w.heap[D]? = some (.deferred (some []))/\¬a.own D)->f.Nodup->CB h' a->Fr n' a->tmps.size=fn.ntmps->(∀t,V a (look j t) (tmps.getD t undef))->Fo n c n' a->LeavesInM Fence.wide 0 P fn tmps R f .returning a.w
 | [],a,_,_,R',F',hs,hv,X=>by
  obtain⟨u,v,h2,i,e,h,hk,hw,m,x,s,r⟩:=Rf (E':=BZ.plain) (a':={ tmps:=tmps,defers:=[] }) F g b R' F' ⟨hs,⟨qj _,λ_=>rfl,by simp,by simp⟩,hv⟩ X;exact⟨u,h,hw▸q u v h2 i e hk m x s r⟩
 | d::f,a,hm,hnd,R',F',hs,hv,X=>by
  obtain⟨D,h1,l,k,h4⟩:=hm d mr;subst l;refine⟨by simp,.inl ⟨D,(a.shut D).w,rfl,run_takeDeferred k,?_⟩⟩;refine Ku z F g b q f (a.shut D) (λd hd=>?_) (qU.1 hnd).2 (YY k R') F' hs (λt=>wR (Lu k) (hv t)) ⟨TX X.ext mq k,X.le,X.same⟩;obtain⟨o,g1,p,g3,y⟩:=hm d (by simp[hd]);have:o≠D:=by rintro rfl;exact(qU.1 hnd).1 (p▸hd)
  exact⟨o,g1,p,by rw[Hs this];exact g3,y⟩
theorem Jt{E:BZ}{f:FuncId}{fn:Func}{code:Code}{args:List SV}{h:Hp}{n:Nat}{K:SV->Hp->Nat->Prop}(k:P.funcs[f]? = some fn)(hb:fn.body=some code)
 (z:(fn.name != "runtime.NumGoroutine")=true) (hd:Code.dok fn.ntmps code=true) (y:args.length<=fn.ntmps)
 (H:(∀a∈args,C_ n a=true)->(∀o x,h o=some x->o<n/\BH n x=true)->∀B,GU (E.call true B) P fn.ntmps code (OT P fn n K) (D7 0 args) h n):Ab E P f args h n K:=by
 refine⟨by simp[K4,k,hb];simpa using z,λc vs I R F A=>?_⟩;refine(callsIn_wide (n:=0)).1 (callsIn_of_wp_marks k hb trivial (wpIn_mono (H (L5 F A) (λo x e=>Gk F (R.obj o x e)) c.w.heap.size hd c _ I R F (Tn (IO _) A y)) ?_));rintro e a' w' ⟨sa',h',n',b,⟨t,rs,i,d⟩,rfl,q,m,g,X⟩;have:=Ku (P:=P) (E':=E.call true c.w.heap.size) (R:=λe w'=>∃u v h' n' b,e=.returned u/\K v h' n'/\b.w=w'/\V b v u/\CB h' b/\Fr n' b/\Fo n c n' b) (IO _) F i d
  (λu v h2 C s hk j r p l=>⟨u,v,h2,C,s,rfl,hk,rfl,j,r,p,l⟩) a'.defers b g.defers.ok g.defers.nodup q m g.size g.val X
 rcases t with rfl|rfl<;>exact this
end
section plain
variable{α:Type}
def Vv(f:Nat->α)(p:Nat×α):Nat->α:=λk=>if k=p.1 then p.2 else f k
def CU(f:Nat->α)(w:List (Nat×α)):Nat->α:=w.foldl Vv f
def Aj(w:List (Nat×α)):List Nat:=w.map (·.1)
theorem Gh{w:List (Nat×α)}{k:Nat}:∀{f:Nat->α},k∉Aj w->CU f w k=f k:=by
 induction w with
 | nil=>intro f _;rfl
 | cons p w ih=>
  intro f hk;simp only[Aj,qi,qe,not_or]at hk;show CU (Vv f p) w k=f k;rw[ih (by simpa[Aj]using hk.2)];simp[Vv,hk.1]
theorem NG{w:List (Nat×α)}{k:Nat}:∀{f g:Nat->α},f k=g k->CU f w k=CU g w k:=by
 induction w with
 | nil=>intro f g h;exact h
 | cons p w ih=>
  intro f g h;exact ih (f:=Vv f p) (g:=Vv g p) (by simp only[Vv];rw[h])
theorem ZW{w:List (Nat×α)}{k:Nat}:∀{f g:Nat->α},k∈Aj w->CU f w k=CU g w k:=by
 induction w with
 | nil=>intro f g h;simp[Aj]at h
 | cons p w ih=>
  intro f g h;by_cases hk:k∈Aj w;exact ih (f:=Vv f p) (g:=Vv g p) hk;have:k=p.1:=by simp only[Aj,qi,qe]at h;rcases h with h|h;exact h;exact absurd (by simpa[Aj]using h) hk
  show CU (Vv f p) w k=CU (Vv g p) w k;rw[Gh hk,Gh hk];simp[Vv,this]
theorem U8{w v:List (Nat×α)}(hd:∀k,k∈Aj w->k∉Aj v)(f:Nat->α)(k:Nat):CU (CU f w) v k=CU (CU f v) w k:=by
 by_cases h1:k∈Aj w;rw[Gh (hd k h1)];exact ZW h1;rw[Gh h1 (f:=CU f v)];exact NG (Gh h1)
def Dj:List (List (Nat×α))->(Nat->Bool)->Nat->(Nat->α)->(Nat->α)
 | [],_,_,f=>f
 | w::l,D,i,f=>Dj l D (i+1) (if D i then CU f w else f)
theorem Lp{D:Nat->Bool}{k:Nat}:∀{l:List (List (Nat×α))} {i:Nat} {f g:Nat->α},f k=g k->Dj l D i f k=Dj l D i g k
 | [],_,_,_,h=>h
 | w::l,i,f,g,h=>by
  simp only[Dj];refine Lp ?_;split;exact NG h;exact h
theorem Mu{D:Nat->Bool}{k:Nat}:∀{l:List (List (Nat×α))} {i:Nat} {f:Nat->α},(∀q w,l[q]? = some w->D (i+q)=true->k∉Aj w)->Dj l D i f k=f k
 | [],_,_,_=>rfl
 | w::l,i,f,h=>by
  simp only[Dj];rw[Mu λq v b a=>h (q+1) v (by simpa using b) (by rw[show i+(q+1)=i+1+q by omega];exact a)];split;rename_i a;exact Gh (h 0 w rfl a);rfl
theorem Uu{D:Nat->Bool}{v:List (Nat×α)}:∀{l:List (List (Nat×α))} {i:Nat} {f:Nat->α},(∀q w,l[q]? = some w->D (i+q)=true->∀k,k∈Aj v->k∉Aj w)->
 ∀k,Dj l D i (CU f v) k=CU (Dj l D i f) v k
 | [],_,_,_,_=>rfl
 | w::l,i,f,h,k=>by
  simp only[Dj];have b:=λg=>Uu (D:=D) (v:=v) (l:=l) (i:=i+1) (f:=g) λq w c a=>h (q+1) w (by simpa using c) (by rw[show i+(q+1)=i+1+q by omega];exact a);by_cases a:D i=true;rw[my a,my a,<-b];exact Lp (U8 (h 0 w rfl a) f k);rw[mw a,mw a,b]
theorem IG{D:Nat->Bool}{p:Nat}{v:List (Nat×α)}(hp:D p=false):∀{l:List (List (Nat×α))} {i:Nat} {f:Nat->α},i<=p->l[p-i]? = some v->
 (∀q w,p<q->i<=q->l[q-i]? = some w->D q=true->∀k,k∈Aj v->k∉Aj w)->∀k,Dj l (λq=>D q||q==p) i f k=CU (Dj l D i f) v k
 | [],_,_,_,h,_,_=>by simp at h
 | w::l,i,f,hi,hv,h,k=>by
  simp only[Dj];by_cases e:i=p;subst e;simp only[Nat.sub_self,we,qm]at hv;subst hv;have c:∀g:Nat->α,∀k,Dj l (λq=>D q||q==i) (i+1) g k=Dj l D (i+1) g k:=by
   intro g;have a:∀(l:List (List (Nat×α)))(j:Nat)(g:Nat->α),i<j->∀k,Dj l (λq=>D q||q==i) j g k=Dj l D j g k:=by
    intro l
    induction l with
    | nil=>intros;rfl
    | cons u l ih=>
     intro j g hj k;simp only[Dj];have:(j==i)=false:=by simp;omega
     simp only[this,Bool.or_false];exact ih (j+1) _ mq k
   exact a l (i+1) g mq
  simp only[beq_self_eq_true,Bool.or_true,if_true,hp,qt,if_false];rw[c];exact Uu (λq u o n k hk=>h (i+1+q) u mq mq (by rw[show i+1+q-i=q+1 by omega];simpa using o) n k hk) k;have b:(i==p)=false:=by simp;exact e
  simp only[b,Bool.or_false];refine IG hp mq ?_ ?_ k;rw[show p-i=(p-(i+1))+1 by omega]at hv;simpa using hv;intro q u h1 h2 d m;exact h q u h1 mq (by rw[show q-i=(q-(i+1))+1 by omega];simpa using d) m
theorem Fj{D E:Nat->Bool}{k:Nat}:∀{l:List (List (Nat×α))} {i:Nat} {f:Nat->α},(∀q w,i<=q->l[q-i]? = some w->D q≠E q->k∉Aj w)->Dj l D i f k=Dj l E i f k
 | [],_,_,_=>rfl
 | w::l,i,f,h=>by
  simp only[Dj];have c:=λg=>Fj (D:=D) (E:=E) (k:=k) (l:=l) (i:=i+1) (f:=g) λq u hq d a=>h q u mq (by rw[show q-i=(q-(i+1))+1 by omega];simpa using d) a;by_cases e:D i=E i;rw[e];exact c _;have hw:=h i w (IO _) mr e;rw[c];refine Lp ?_;have a1:∀b:Bool,(if b=true then CU f w else f) k=f k:=λb=>by cases b;rfl;exact Gh hw
  rw[a1,a1]
end plain
theorem PF{P:Program}{ev ev':Operand->SV}{h h':Hp}{k:Nat}{op:Op}(g:∀x∈op.operands,ev x=ev' x)(hh:∀j∈Cs ev op,h j=h' j):C0 P ev h k op=C0 P ev' h' k op:=by
 have w:∀s:SV,(∀j∈s.ids,h j=h' j)->flat h s=flat h' s:=λs C=>by
  cases s<;>simp only[flat];rw[C _ (by simp[SV.ids])]
 have E:∀(t:TypeId)(s:SV),(∀j∈s.ids,h j=h' j)->HL P h t s=HL P h' t s:=λt s C=>by
  cases s<;>simp only[HL];rw[C _ (by simp[SV.ids])]
 have H:∀s:SV,(∀j∈s.ids,h j=h' j)->ME h s=ME h' s:=λs C=>by
  cases s<;>simp only[ME];rw[C _ (by simp[SV.ids])]
 cases op with
 | move x|assign x=>simp only[C0];rw[g x (by simp[Op.operands])]
 | pick a b d=>simp only[C0];rw[g a (by simp[Op.operands]),g b (by simp[Op.operands]),g d (by simp[Op.operands])]
 | alloc e=>rfl
 | box e x=>simp only[C0];rw[g x (by simp[Op.operands])]
 | build t ps=>
  have:(ps.toList.map λp=>(p.1,ev p.2))=ps.toList.map λp=>(p.1,ev' p.2):=qF λp hp=>by rw[g p.2 (O6 hp)]
  simp only[C0,this]
 | buildSlice t l ps=>
  have:(ps.toList.map λp=>(p.1,ev p.2))=ps.toList.map λp=>(p.1,ev' p.2):=qF λp hp=>by rw[g p.2 (Iv hp)]
  simp only[C0,this]
 | load t a=>
  simp only[C0];rw[E t _ (λj B=>hh j (by simpa only[Cs]using B)),g a (by simp[Op.operands])]
 | store t a x=>
  simp only[C0];have h1:∀j∈(ev a).ids,h j=h' j:=λj B=>hh j (by simpa only[Cs]using B);rw[<-g a (by simp[Op.operands]),<-g x (by simp[Op.operands])];cases G:ev a<;>simp only[OD];rw[G]at h1;rw[h1 _ (by simp[SV.ids])]
 | nilCheck x=>simp only[C0];rw[g x (by simp[Op.operands])]
 | binOp op t x y t2=>simp only[C0];rw[g x (by simp[Op.operands]),g y (by simp[Op.operands])]
 | unOp op t x=>simp only[C0];rw[g x (by simp[Op.operands])]
 | convert a b x=>simp only[C0];rw[g x (by simp[Op.operands])]
 | makeFunc f a b=>
  have F:a.toList.map ev=a.toList.map ev':=qF λx D=>g x (by simp[Op.operands]at D ⊢;exact .inl D);have I:b.toList.map ev=b.toList.map ev':=qF λx D=>g x (by simp[Op.operands]at D ⊢;exact .inr D);simp only[C0,F,I]
 | makeMap t r=>rfl
 | makeSlice t l c=>simp only[C0];rw[g l (by simp[Op.operands]),g c (by simp[Op.operands])]
 | slice t x lo hi mx=>
  have F:lo.map ev=lo.map ev':=by cases lo with|none=>rfl|some y=>simp[g y (by simp[Op.operands])]
  have I:hi.map ev=hi.map ev':=by cases hi with|none=>rfl|some y=>simp[g y (by simp[Op.operands])]
  have J:mx.map ev=mx.map ev':=by cases mx with|none=>rfl|some y=>simp[g y (by simp[Op.operands])]
  simp only[C0,F,I,J];rw[g x (by simp[Op.operands])]
 | fieldAddr t x i=>simp only[C0];rw[g x (by simp[Op.operands])]
 | field t x i=>simp only[C0];rw[g x (by simp[Op.operands])]
 | indexAddr t x i=>simp only[C0];rw[g x (by simp[Op.operands]),g i (by simp[Op.operands])]
 | index t x i=>simp only[C0];rw[g x (by simp[Op.operands]),g i (by simp[Op.operands])]
 | lookup t m y ok=>
  simp only[C0];rw[H _ (λj B=>hh j (by simpa only[Cs]using B)),g m (by simp[Op.operands]),g y (by simp[Op.operands])]
 | mapUpdate t m y x =>
  simp only[C0];have h1:∀j∈(ev m).ids,h j=h' j:=λj B=>hh j (by simpa only[Cs]using B);rw[<-g m (by simp[Op.operands]),<-g y (by simp[Op.operands]),<-g x (by simp[Op.operands])];cases I6 P t with
  | none=>rfl
  | some q=>
   obtain⟨N,K⟩:=q;cases G:ev m<;>try rfl
   rw[G]at h1;simp only;rw[h1 _ (by simp[SV.ids])]
 | insert t m y x =>
  simp only[C0];have h1:∀j∈(ev m).ids,h j=h' j:=λj B=>hh j (by simpa only[Cs]using B);rw[<-g m (by simp[Op.operands]),<-g y (by simp[Op.operands]),<-g x (by simp[Op.operands])];cases I6 P t with
  | none=>rfl
  | some q=>
   obtain⟨N,K⟩:=q;cases G:ev m<;>try rfl
   rw[G]at h1;simp only;rw[h1 _ (by simp[SV.ids])]
 | extract x i=>simp only[C0];rw[g x (by simp[Op.operands])]
 | call cl =>
  obtain⟨callee,args,O⟩:=cl;cases callee with
  | value f=>rfl
  | invoke r m=>rfl
  | builtin b =>
   have F:args.toList.map ev=args.toList.map ev':=qF λx D=>g x (by simp[Op.operands,Call.operands];simpa using D);simp only[C0];rw[<-F];have u:∀s∈args.toList.map ev,∀j∈(match b,s with|.len,.sl ..=>[]|_,v=>v.ids),h j=h' j:=λs C j B=>by
    simp only[qa]at C;obtain⟨x,D,rfl⟩:=C;exact hh j (by simp only[Cs,qE];exact⟨x,D,B⟩)
   generalize args.toList.map ev=A at u;by_cases hb:b=.len
   . subst hb;generalize hts:O.toList=T
     match T,A,u with
     | [t],[x],u=>
      simp only[Ak];cases x<;>try rfl
      rename_i o;simp only;rw[u (.map o) mr o (by simp[SV.ids])]
     | [],_,_=>rfl
     | _::_::_,_,_=>rfl
     | [_],[],_=>rfl
     | [_],_::_::_,_=>rfl
   have n:∀s∈A,∀j∈s.ids,h j=h' j:=λs C j B=>u s C j (by cases b<;>first|exact absurd rfl hb|(cases s<;>exact B));unfold Ak;split
   . rename_i t x _;have h1:=n x mr;cases x<;>try rfl
     simp only;rw[h1 _ (by simp[SV.ids])]
   rfl;rename_i t t2 s x _;have h1:=w s (n s mr);have h2:=w x (n x mr);simp only[Fq,Hg,WH,h2];cases s with
   | y z es full=>cases full<;>rfl
   | sl o off z len full=>
    have L:h o=h' o:=n (.sl o off z len full) mr o (by simp[SV.ids]);have M:∀e,IV h e o off=IV h' e o off:=λe=>by unfold IV;rw[L]
    simp only[h1,M]
   | _=>rfl
   . rename_i t t2 d x _;have h1:=n d mr;have h2:=w x (n x mr);simp only[Qx,h2];cases d<;>try rfl
     simp only;rw[h1 _ (by simp[SV.ids])]
   . rename_i t d _;have h1:=n d mr;simp only[NQ];cases d<;>try rfl
     simp only;rw[h1 _ (by simp[SV.ids])]
   rfl;rfl;rename_i t t2 o y _;have h1:=n (.map o) mr;rw[h1 _ (by simp[SV.ids])];rfl
 | _=>rfl
end Go.Proofs.YthinbkgpjmjfeaaGreatDoor.Sh
