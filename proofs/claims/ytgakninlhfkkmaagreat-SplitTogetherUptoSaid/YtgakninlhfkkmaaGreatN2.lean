/- A part of the proof (part 2 of 18). -/
import Derived.Test.YtgakninlhfkkmaaGreatN1
import Derived.ArgAppend
import Derived.Tactics
import Derived.TacticsIn
import Derived.OrdersIn
import Derived.RangeFuncSeq
import Derived.RangeFuncLeaves
import Derived.Orders
namespace Go.Proofs.YtgakninlhfkkmaaGreat.Sh
abbrev vh:=@Ag.append
abbrev wa:=@V2.mono
abbrev wc:=@V.mono
abbrev wh:=@V.mono0
abbrev wp:=@EH.refl
abbrev ws:=@VL.mono0
abbrev wv:=@Ag.mono
section
variable{P:Program}{ev:Operand->Value}{o:Oper}{h:Hp}{k:Nat}{c:Cx}
theorem Gt(w:World):w.drew.heap=w.heap:=rfl
def Cx.drew(c:Cx):Cx:={ c with w:=c.w.drew }
theorem Cx.c_(c:Cx):EH c c.drew:=⟨λ_ _ e=>e,qa _,λ_ _ h=>⟨h,rfl⟩,λ_=>qa _,rfl,rfl,⟨rfl,Zc _⟩⟩
theorem CF.drew(R:CF h c):CF h c.drew:=
 ⟨λo x e=>(R.obj o x e).mono c.c_ λ_ _=>rfl,R.inj2,R.own2⟩
def Cx.kill(c:Cx)(o:Nat):Cx:={ c with own:=λb=>c.own b/\∀st,c.ρ o≠some (b,st) }
theorem Cx.kill_ext(c:Cx)(o:Nat):EH c (c.kill o):=⟨λ_ _ e=>e,qa _,λ_ _ h=>⟨λg=>h g.1,rfl⟩,λ_=>qa _,rfl,rfl,⟨rfl,qa _⟩⟩
theorem CF.kill(R:CF h c)(o:Nat){x:Bb}(l:h o=some x)(g:x.lst=false:=by rfl):CF (h_ h o none) (c.kill o):=by
 have get:∀j y,h_ h o none j=some y->j≠o/\h j=some y:=λj y e=>by
  simp only[h_]at e;split at e;cases e;exact⟨by assumption,e⟩
 refine⟨λj y e=>?_,λi j y m b d a n p=>?_,λb=>?_⟩;exact(R.obj j y (get j y e).2).mono (c.kill_ext o) λ_ _=>rfl;exact R.inj2 i j y m b (get i y d).2 (get j m a).2 n p;constructor;rintro⟨q,r⟩;obtain⟨j,y,d,a⟩:=(R.own2 b).1 q;have f:j≠o:=by
  rintro rfl;rw[l]at d;cases d;rcases a with⟨st,a⟩|⟨a,_⟩
  exact r st a;rw[g]at a;cases a
 exact⟨j,y,by simp[h_,f,d],a⟩;rintro⟨j,y,d,a⟩;obtain⟨f,d⟩:=get j y d;exact⟨(R.own2 b).2 ⟨j,y,d,a⟩,λk e'=>f (R.inj2 j o y x b d l a (.inl ⟨k,e'⟩))⟩
theorem Lq{cs:List SV}{ty:Option TypeId}{vs:List Value}{arr:Array Value}{e:TypeId}(R:CF h c)(b:c.ρ k=none)(hc:Ag (V c) cs vs)(h1:∀x∈vs,x.oneCell'=true)
 (d:∀(i:Nat)(x:Value),vs[i]? = some x->arr[i]? = some x) (a:Ty ty 0 e):CF (h_ h k (some (.cells cs ty))) (c.alloc k (.cells arr e)):=
 R.alloc b ⟨c.w.heap.size,0,arr,e,vs,by simp[Cx.alloc],by simp[Cx.alloc,Bu],λi x f=>by simpa using d i x f,wa (c.CZ k _ b) hc,h1,a⟩
theorem XT{t2 d:TypeId}{z m:Nat}{u:Value}{a:Option Addr}{cap:Nat}{vs:List Value}(h2:P.underlying t2=some (.slice d))(f:u=.slice a m cap)(hl:vs.length=m*z)
 (h1:∀x∈vs,x.oneCell'=true) (w:World)
 (hc:match a with|some a=>(vs≠[]->a.spot=none)/\∀(i:Nat)(x:Value),vs[i]? = some x->w.cell? ⟨a.block,a.off+i,none⟩=some x|none=>m=0/\cap=0/\vs=[]):Src P z t2 u m vs w:=by
 subst f;have c:∀w':World,(∀b,w'.cell? b=w.cell? b)->(Builtin.firstCells z m (.slice a m cap)).run P w'=.ok vs.toArray w':=λw' hw=>by
  cases a with
  | none=>obtain⟨_,_,rfl⟩:=hc;simp[Builtin.firstCells]
  | some a=>
   have:=run_loadCells_list (P:=P) w' a vs (λj v e=>by rw[C4 (hc.1 (by rintro rfl;simp at e)),hw];exact hc.2 j v e);rw[hl]at this;simpa[Builtin.firstCells]using this
 exact⟨.inl ⟨d,h2⟩,λw'=>by simp[Builtin.lenOf],c w λ_=>rfl,c w.drew λ_=>rfl,hl,h1⟩
theorem W7{r off:Nat}{cs xs ys:List SV}{ty ty':Option TypeId}{d:List Value}{b st n:Nat}(R:CF h c)(M:c.ρ k=none)(G:h r=some (.cells cs ty))(W:∀t,ty'=some t->off=0/\ty=some t)(D:c.ρ r=some (b,st))
 (l:Bz cs off n=some xs) (I:st+off+n+d.length<=rm c.w b) (hy:Ag (V c) ys d) (h1:∀x∈d,x.oneCell'=true):
 ∃c':Cx,c'.w=c.w.setCells b (st+off+n) d/\c'.ρ=(λj=>if j=k then some (b,st+off)else c.ρ j)/\CF (h_ (h_ h r none) k (some (.cells (xs++ys) ty'))) c'/\EH c c'/\
  (∀j,j<d.length->(c.w.cell? ⟨b,st+off+n+j,none⟩).isSome=true)/\(∀j,j<d.length->c.w.frozen? ⟨b,st+off+n+j,none⟩=false):=by
 have hne:r≠k:=by rintro rfl;rw[D]at M;cases M
 have hn:=R.none_of M;obtain⟨a,Y,arr,e,vs,g1,J,g3,g4,g5,g6⟩:=R.obj _ _ G;rw[D]at g1;cases g1;obtain⟨hle,rfl⟩:=FH l;have T:rm c.w b=arr.size:=by simp[rm,J]
 rw[T]at I;have hlen:=g4.length;have g:∀j,j<d.length->(c.w.cell? ⟨b,st+off+n+j,none⟩).isSome=true:=λj z=>by
  simp only[World.cell?,J];rw[KN (by omega)];rfl
 have C:∀j,c.w.frozen? ⟨b,st+off+n+j,none⟩=false:=λj=>by simp[World.frozen?,J]
 have r1:=run_storeCells_cells (P:=default) b (st+off+n) d 0 c.w (by simpa using g) (by simpa using λj _=>C j) h1;have F:=run_storeCells_at (P:=default) b (st+off+n) e d 0 arr c.w J (by omega) h1;rw[r1]at F;simp only[UO,Result.ok.injEq,true_and]at F;have A:=setRow_heap c.w b arr (arr.toList.take (st+off+n)++d++arr.toList.drop (st+off+n+d.length)).toArray e (0,0) J;rw[<-F]at A;have B:∀a,a≠b->(c.w.setCells b (st+off+n) d).heap[a]? = c.w.heap[a]?:=λa hb=>by rw[F];exact Fi _ _ _ hb
 have U:(c.w.setCells b (st+off+n) d).heap.size=c.w.heap.size:=by rw[F];exact GN _ _ _
 refine⟨{ ρ:=λj=>if j=k then some (b,st+off)else c.ρ j,own:=c.own,w:=c.w.setCells b (st+off+n) d,bk:=c.bk },rfl,rfl,?_⟩;have E:EH c { ρ:=λj=>if j=k then some (b,st+off)else c.ρ j,own:=c.own,w:=c.w.setCells b (st+off+n) d,bk:=c.bk }:=by
  refine⟨λj p u=>?_,by simp[U],λa hb' L=>⟨L,B a ?_⟩,λa=>?_,by rw[F];rfl,by rw[F];rfl,by rw[F];exact⟨rfl,qa _⟩⟩;simp only;split;subst_vars;rw[M]at u;cases u;exact u;rintro rfl;exact L (R.ownI ⟨r,_,st,G,D⟩);by_cases eb:a=b;subst eb;simp only[rm,J,A];simp;omega;simp[rm,B a eb]
 have get:∀j y,h_ (h_ h r none) k (some (.cells ((cs.drop off).take n++ys) ty')) j=some y->(j=k/\y=.cells ((cs.drop off).take n++ys) ty')\/(j≠k/\j≠r/\h j=some y):=λj y e=>by
  simp only[h_]at e;split at e;cases e;exact .inl ⟨by assumption,rfl⟩;split at e;cases e;exact .inr ⟨by assumption,by assumption,e⟩
 have f:∀j y a,j≠k->BV { ρ:=λj=>if j=k then some (b,st+off)else c.ρ j,own:=c.own,w:=c.w.setCells b (st+off+n) d,bk:=c.bk } j y a->BV c j y a:=λj y a z H=>by
  simp only[BV,z,if_false]at H;exact H
 have v:∀a,BV { ρ:=λj=>if j=k then some (b,st+off)else c.ρ j,own:=c.own,w:=c.w.setCells b (st+off+n) d,bk:=c.bk } k (.cells ((cs.drop off).take n++ys) ty') a->a=b:=λa H=>by
  rcases H with⟨Y,H⟩|⟨H,_⟩
  simp only[if_true]at H;cases H;rfl;cases H
 refine⟨⟨λj y u=>?_,λi j y K b1 m o N O=>?_,λa=>?_⟩,E,g,λj _=>C j⟩;simp only[h_]at u;split at u;subst_vars;cases u;refine⟨b,st+off,_,e,(vs.drop off).take n++d,by simp,A,λi x l=>?_,vh (wa E ((g4.drop off).take n)) (wa E hy),λx l=>?_,λt m=>?_⟩;have X:((vs.drop off).take n).length=n:=by simp;omega
 simp only[List.getElem?_toArray,qj];have eA:(arr.toList.take (st+off+n)).length=st+off+n:=by simp;omega
 by_cases hi:i<n;rw[qZ (by omega)]at l ⊢;rw[JY,if_pos hi,Km]at l;rw[JY,if_pos (by omega)];have:=g3 _ _ l;rw[qu];simpa using this;rw[qT (by omega),X]at l;have hi2:=(qh.1 l).1;rw[qT (by omega),eA,qZ (by omega),show st+off+i-(st+off+n)=i-n by omega];exact l;rcases qd.1 l with l|l;exact g5 x (JJ (qS l));exact h1 x l;obtain⟨q1,q2⟩:=W t m;obtain⟨q3,q4⟩:=g6 t q2;exact⟨by omega,q4⟩;split at u;cases u;rename_i hj1 S;refine(R.obj j y u).mono E λZ e'=>B Z ?_;rintro rfl;exact S (R.inj2 j r y _ Z u G e' (.inl ⟨st,D⟩));rcases get i y m with⟨rfl,rfl⟩|⟨hi,Q,f1⟩
 rcases get j K o with⟨rfl,rfl⟩|⟨z,q,f2⟩
 rfl;have:=v _ N;subst this;exact absurd (R.inj2 j r K _ b1 f2 G (f j K b1 z O) (.inl ⟨st,D⟩)) q;rcases get j K o with⟨rfl,rfl⟩|⟨z,q,f2⟩
 have:=v _ O;subst this;exact absurd (R.inj2 i r y _ b1 f1 G (f i y b1 hi N) (.inl ⟨st,D⟩)) Q;exact R.inj2 i j y K b1 f1 f2 (f i y b1 hi N) (f j K b1 z O);rw[R.own2 a];constructor;rintro⟨j,y,m,o⟩;have z:j≠k:=by rintro rfl;rw[hn]at m;cases m
 by_cases q:j=r;subst q;rw[G]at m;cases m;rcases o with⟨s,o⟩|⟨o,_⟩
 rw[D]at o;cases o;exact⟨k,_,by simp[h_];rfl,.inl ⟨st+off,by simp⟩⟩;cases o;exact⟨j,y,by simp[h_,z,q,m],by simpa[BV,z]using o⟩;rintro⟨j,y,m,o⟩;rcases get j y m with⟨rfl,rfl⟩|⟨z,q,m⟩
 rw[v _ o];exact⟨r,_,G,.inl ⟨st,D⟩⟩;exact⟨j,y,m,f j y a z o⟩
theorem Sj{xs ys:List Value}{b:Array Value}(i:Nat)(x:Value)(a:(xs++ys)[i]? = some x):((xs++ys).toArray++b)[i]? = some x:=by
 have hi:=(qh.1 a).1;rw[Uo (by simpa using hi)];simpa using a
theorem Mg(w:World)(t m ty e:TypeId)(r:IntKind)(i:TypeInfo)(z:Value)(ht:P.underlying t=some (.slice e))(l:P.underlying m=some (.int r))(hi:P.info? e=some i)(q:i.zero=some z)
 (base:Option Addr) (n:Nat) (hn:0<n) (p:i.size≠0) (h1:n<=1073741824) (hb:i.bytes<=65536):
 (Builtin.append_ #[t,m] ty #[.slice base 0 0,.int .i64 n]).run P w =
   .ok (.slice (some ⟨w.heap.size,0,none⟩) n (grownCap w n 0 e)) (w.drew.alloc (.cells (Builtin.zeroCells z.cells n++Builtin.zeroCells z.cells (grownCap w n 0 e-n)) e)):=by
 have hw:IntKind.i64.wrap (n:Int)=n:=by rw[IntKind.wrap_i64];omega
 have hmul:n*i.bytes<=1073741824*65536:=Nat.mul_le_mul h1 hb;have b:¬(281474976710656<(n:Int)*(i.bytes:Int)):=by
  have:((n*i.bytes:Nat):Int)<=1073741824*65536:=by omega
  rw[Int.natCast_mul]at this;omega
 have c:Builtin.nextslicecap n 0=n:=by unfold Builtin.nextslicecap;rw[if_pos (by omega)]
 have f:¬(281474976710656<n*i.bytes):=by omega
 have j:¬((n:Int)<0):=by omega
 have h:max (n:Int) 0=n:=by omega
 have d:n≠0:=by omega
 have g:¬(9223372036854775807<(n:Int)):=by omega
 have k:n*i.size≠0:=Nat.mul_ne_zero d p;have o:(Builtin.firstCells i.size 0 (.slice base 0 0)).run P w.drew=.ok #[] w.drew:=by
  cases base with
  | none=>simp[Builtin.firstCells]
  | some a=>
   have:=run_loadCells_list (P:=P) w.drew a [] (by simp);simpa[Builtin.firstCells]using this
 simp[Builtin.append_,run_underlying ht,run_underlying l,sizeOf,typeInfo,zeroValue,hi,q,hw,b,j,d,c,f,g,Question.forced,newRow,grownCap,asInt,asIntOf,o,h,k]
theorem U4{t t2:TypeId}{s x:SV}{us ux:Value}{out:C5}(hrun:∀(w w':World)(r:Value),(∀cs,(builtin Builtin.append #[t,t2] o.type cs #[us,ux]).run P w=.ok (.value r) w')->(execOp ev o).run P w=.ok (.value r) w')
 (hs:Fu P k t t2 s x=some out) (R:CF h c) (hk:c.ρ k=none) (hvs:V c s us) (hvx:V c x ux):DW P ev o h k c out:=by
 unfold Fu at hs;split at hs<;>try cases hs
 rename_i e ik z0 m hte ht2;split at hs<;>try cases hs
 rename_i hc;obtain⟨⟨hm0,hm1⟩,hz0,hby,hst,hzl⟩:=hc;have hu:=Ay hte;obtain⟨ii,hi,hsz⟩:=Dy hz0;obtain⟨i',z,hi',hzz,hze⟩:=CB hst;rw[hi]at hi';cases hi';have hvz:=C3 c z;rw[<-hze]at hvz;have hzsize:z.cells.size=Br P e:=by have:=(hvz.cells hst).1.length;simp at this;omega
 have hbb : ii.bytes ≤ 65536 := by have : Bw P e = ii.bytes := by simp [Bw, Program.bytesOf, hi]
                                   omega
 obtain⟨base,rfl⟩:∃base,us=.slice base 0 0:=by
  rw[V]at hvs;rcases hvs with⟨_,rfl⟩|⟨a2,cap2,vs2,e2,_,hf,_⟩
  exact⟨none,rfl⟩;have:=hf rfl;exact⟨_,by rw[e2,this];rfl⟩
 have hux:ux=.int .i64 m:=by rw[V]at hvx;exact hvx
 subst hux;obtain⟨zr,z1⟩:=Gy hvz hst m.toNat;have hmn:(m.toNat:Int)=m:=by omega
 have hr:=Mg (P:=P) c.w t t2 o.type e ik ii z hu ht2 hi hzz base m.toNat (by omega) (by omega) (by omega) hbb;rw[hmn]at hr;have hcell:=EX z.cells (by omega) m.toNat;have Rn:=Lq (e:=e) (arr:=Builtin.zeroCells z.cells m.toNat++Builtin.zeroCells z.cells (grownCap c.w m.toNat 0 e-m.toNat)) R.drew (by exact hk) (wa c.c_ zr) z1
  (λi x hx=>by
    have:(Builtin.zeroCells z.cells m.toNat).toList=(List.replicate m.toNat z.cells.toList).flatten:=hcell;rw[<-this]at hx;have hlt:=(qh.1 hx).1;rw[Uo (by simpa using hlt)];simpa using hx) Ty.none
 have En:=c.c_.trans (c.drew.CZ k (.cells (Builtin.zeroCells z.cells m.toNat++Builtin.zeroCells z.cells (grownCap c.w m.toNat 0 e-m.toNat)) e) (by exact hk));have hcap:m.toNat<=grownCap c.w m.toNat 0 e:=by unfold grownCap;exact Nat.le_add_right _ _
 refine⟨.slice (some ⟨c.w.heap.size,0,none⟩) m.toNat (grownCap c.w m.toNat 0 e),_,.inl (hrun _ _ _ λcs=>by simp only[builtin,Sem.run_bind,hr,Result.andThen_ok,Sem.run_pure];rfl),?_,Rn,En,λj hj=>?_⟩;rw[V];refine⟨c.w.heap.size,0,grownCap c.w m.toNat 0 e,by simp[Cx.alloc,Cx.drew,Gt],by simp,hcap,by simp,?_⟩;have e6:m.toNat*Br P e+(grownCap c.w m.toNat 0 e-m.toNat)*Br P e=grownCap c.w m.toNat 0 e*Br P e:=by rw[<-UI];congr 1;omega
 have e7:rm (c.drew.alloc k (.cells (Builtin.zeroCells z.cells m.toNat++Builtin.zeroCells z.cells (grownCap c.w m.toNat 0 e-m.toNat)) e)).w c.w.heap.size =
  (Builtin.zeroCells z.cells m.toNat++Builtin.zeroCells z.cells (grownCap c.w m.toNat 0 e-m.toNat)).size:=by
  simp[rm,Cx.alloc,Cx.drew,Bu,Gt]
 rw[e7];simp only[Array.size_append,Builtin.zeroCells,Array.size_map,Array.size_range,hzsize];omega;simp at hj;simp[Cx.alloc,Cx.drew,hj]
theorem RJ{ts:Array TypeId}{args:Array Operand}{out:C5}{evs:Operand->SV}(ho:o.op=.call { callee:=.builtin .append,args:=args,argTypes:=ts })
 (p:Al P h k .append ts.toList (args.toList.map evs)=some out) (R:CF h c) (hk:c.ρ k=none) (H:Ag (V c) (args.toList.map evs) (args.map ev).toList):DW P ev o h k c out:=by
 generalize hA:args.toList.map evs=A at p H;generalize hU:args.map ev=U at H;have y:=λ(w w':World)(r:Value)=>BY (P:=P) (ev:=ev) ho w w' r;rw[hU]at y;simp only[Al]at p;split at p<;>try (first|contradiction|(cases p;done))
 rename_i t t2 s x _ e1
 match hU':U.toList,H with
 | [us, ux], H =>
  have e1':=Jw e1;have e2':=Jw hU';have q:=H.1;have hvx:=H.2.1;subst e1';subst e2';split at p
  rotate_left
  exact U4 (λw w' r h=>y w w' r h) p R hk q hvx;rename_i ht2;obtain⟨et2,ht2⟩:=Ma ht2;unfold Ec at p;split at p<;>try cases p
  rename_i e hte;have hu:=Ay hte;simp only at p;split at p<;>try cases p
  rename_i m ys hm hys;split at p<;>try cases p
  rename_i S;simp only[UW,XH,qo,bne_iff_ne,ne_eq,beq_iff_eq]at S;obtain⟨⟨⟨⟨D,N⟩,hz0⟩,hst⟩,hzl⟩:=S;obtain⟨ii,hi,B⟩:=Dy hz0;obtain⟨i',z,hi',hzz,hze⟩:=CB hst;rw[hi]at hi';cases hi';have hvz:=C3 c z;rw[<-hze]at hvz;have O:z.cells.size=Br P e:=by have:=(hvz.cells hst).1.length;simp at this;omega
  obtain⟨ax,capx,K,hux,hcapx,hxc,hx1,M,I⟩:=Ku R hys hm hvx;have src:∀w:World,w.heap=c.w.heap->Src P (Br P e) t2 ux m K w:=λw hw=>
   XT (Ay ht2) hux (M _ N) hx1 w (by
    revert I;cases ax<;>simp only<;>intro I;exact I;refine⟨I.1,λi x hx=>?_⟩;have:=I.2 i x hx;simp only[World.cell?,hw]at *;exact this)
  have grown:∀(c0:Cx)(h0:Hp)(base:Option Addr)(d f:Nat)(xs:List SV)(vs:List Value),c0.w=c.w->c0.ρ=c.ρ->CF h0 c0->EH c c0->us=.slice base d f->Ag (V c0) xs vs->
   (∀x∈vs,x.oneCell'=true)->vs.length=d*Br P e->
   (match base with|some a=>(vs≠[]->a.spot=none)/\∀(i:Nat)(x:Value),vs[i]? = some x->c.w.cell? ⟨a.block,a.off+i,none⟩=some x|none=>d=0/\f=0/\vs=[])->f<d+m->
   EF (d+m) (Bw P e)=true->∀ty:Option TypeId,Ty ty 0 e->∀upd:Option (Nat×Option Bb),(match upd with|some (j,x)=>h_ h j x|none=>h)=h0->
   DW P ev o h k c { val:=.sl k 0 (Br P e) (d+m) false,upd:=upd,new:=some (.cells (xs++ys) ty) }:=by
   intro c0 h0 base d f xs vs hw hρ R0 E0 u hc h1 hl Q hlt l ty hty upd hupd;simp only[EF,qo,decide_eq_true_eq]at l;have hby:Bw P e=ii.bytes:=by simp[Bw,Program.bytesOf,hi]
   have hmul:(d+m)*ii.bytes<=1073741824*65536:=Nat.mul_le_mul l.1 (by omega);have BV:(Builtin.firstCells ii.size d (.slice base d f)).run P c.w.drew=.ok vs.toArray c.w.drew:=by
    cases base with
    | none=>obtain⟨_,_,rfl⟩:=Q;simp[Builtin.firstCells]
    | some a=>
     have:=run_loadCells_list (P:=P) c.w.drew a vs (λj v hv=>by rw[C4 (Q.1 (by rintro rfl;simp at hv))];exact Q.2 j v hv);rw[hl,B]at this;simpa[Builtin.firstCells]using this
   have Z:=run_append_grow_src (P:=P) c.w t t2 o.type e ii z hu hi hzz base d f vs BV ux m K (by rw[<-B];exact src c.w rfl) hlt (by omega) (growslice_fits hlt (by omega));rw[<-u]at Z;have hk0:c0.drew.ρ k=none:=by show c0.ρ k=none;rw[hρ];exact hk
   have Rn:=Lq (e:=e) (arr:=(vs++K).toArray++Builtin.zeroCells z.cells (grownCap c.w (d+m) f e-(d+m))) R0.drew hk0 (vh (wa c0.c_ hc) (wa (E0.trans c0.c_) hxc))
    (λx hx=>by rcases qd.1 hx with hx|hx;exact h1 x hx;exact hx1 x hx) Sj hty
   have En:=E0.trans (c0.c_.trans (c0.drew.CZ k (.cells ((vs++K).toArray++Builtin.zeroCells z.cells (grownCap c.w (d+m) f e-(d+m))) e) hk0));have L:(c0.drew.alloc k (.cells ((vs++K).toArray++Builtin.zeroCells z.cells (grownCap c.w (d+m) f e-(d+m))) e)).w =
    c.w.drew.alloc (.cells ((vs++K).toArray++Builtin.zeroCells z.cells (grownCap c.w (d+m) f e-(d+m))) e):=by
    show(c0.w.drew.alloc _)=_;rw[hw]
   have E:d+m<=grownCap c.w (d+m) f e:=by unfold grownCap;exact Nat.le_add_right _ _
   subst hupd;refine⟨.slice (some ⟨c.w.heap.size,0,none⟩) (d+m) (grownCap c.w (d+m) f e),_,.inl (by rw[L];exact y _ _ _ λcs=>by simp only[builtin,Sem.run_bind,Z,Result.andThen_ok,Sem.run_pure]),?_,Rn,En,λj hj=>?_⟩;rw[V];refine⟨c.w.heap.size,0,grownCap c.w (d+m) f e,by simp[Cx.alloc,Cx.drew,hw],rfl,E,by simp,?_⟩;have hx2:=M _ N;have e5:(vs++K).length=(d+m)*Br P e:=by simp[hl,hx2,UI]
   have e6:(d+m)*Br P e+(grownCap c.w (d+m) f e-(d+m))*Br P e=grownCap c.w (d+m) f e*Br P e:=by rw[<-UI];congr 1;omega
   have e7:rm (c0.drew.alloc k (.cells ((vs++K).toArray++Builtin.zeroCells z.cells (grownCap c.w (d+m) f e-(d+m))) e)).w c.w.heap.size =
    ((vs++K).toArray++Builtin.zeroCells z.cells (grownCap c.w (d+m) f e-(d+m))).size:=by
    rw[L];simp[rm,Bu,Gt]
   rw[e7];simp only[Array.size_append,List.size_toArray,e5,Builtin.zeroCells,Array.size_map,Array.size_range,O];omega;simp at hj;simp[Cx.alloc,Cx.drew,hρ,hj]
  by_cases hm0:m=0
  . subst hm0;simp only[if_true,E8,qk]at p;subst p;have hx0:K=[]:=by have:=M _ N;simpa using this
    subst hx0;obtain⟨base,d,f,rfl,hle⟩:∃base d f,us=.slice base d f/\d<=f:=by
     cases s<;>simp only[LT]at D<;>try cases D
     rw[V]at q;obtain⟨b,st,cap,_,rfl,h1,_⟩:=q;exact⟨_,_,_,rfl,h1⟩;rw[V]at q;rcases q with⟨_,rfl⟩|⟨a,cap,vs,rfl,h1,_⟩
     exact⟨none,0,0,rfl,qa _⟩;exact⟨_,_,_,rfl,h1⟩
    have Z:=run_append_nothing (P:=P) c.w t t2 o.type e ii hu hi base d f hle ux (by rw[<-B];exact src c.w rfl);exact BG R _ (y _ _ _ λcs=>by simp[builtin,Z]) q
  . rw[if_neg hm0]at p;split at p
    . rename_i z' es _;split at p<;>try cases p
      rename_i l;obtain⟨a,cap,vs,u,E,hc,h1,C,Q⟩:=Ku (n:=es.length) R (by rfl:flat h (.i z' es true)=some (es.flatMap SV.cells)) rfl q;have hcl:cap=es.length:=by
       rw[V]at q;rcases q with⟨rfl,e2⟩|⟨a2,cap2,vs2,e2,_,hf,_⟩
       rw[u]at e2;cases e2;rfl;rw[u]at e2;cases e2;exact hf rfl
      exact grown c h a es.length cap _ vs rfl rfl R (wp c) u hc h1 (C _ D) Q (by omega) l _ Ty.row none rfl
    . rename_i X off z' len full _;split at p<;>try cases p
      rename_i xs J;split at p<;>try cases p
      rename_i l;obtain⟨a,cap,vs,u,E,hc,h1,C,Q⟩:=Ku (n:=len) R J rfl q;have W:=q;rw[V]at W;obtain⟨b,st,cap',hρ,T,hcap',Y,hrm⟩:=W;rw[u]at T;cases T;obtain⟨cs,ty,G,hxs'⟩:∃cs ty,h X=some (.cells cs ty)/\Bz cs off (len*z')=some xs:=by
       simp only[flat]at J;split at J;rename_i cs ty G;exact⟨cs,ty,G,J⟩;cases J
      have hzz':z'=Br P e:=by simpa[LT]using D
      subst hzz';cases full with
      | true=>exact grown c h _ len cap _ vs rfl rfl R (wp c) u hc h1 (C _ D) Q (by have:=Y rfl;omega) l _ (λt g=>⟨rfl,(Ty.app g).2.2⟩) none rfl
      | false=>
       by_cases F:len+m<=cap;have hx2:=M _ N;have e6:len*Br P e+m*Br P e<=cap*Br P e:=by rw[<-UI];exact YR _ F
       obtain⟨c',L,hρ',R',E',hcl,hfr⟩:=W7 (k:=k) (ty':=Hz h e X off) R hk G (λt g=>⟨(Ty.app g).1,by have:=(Ty.app g).2.1;rw[G]at this;exact this⟩) hρ hxs' (by omega) hxc hx1;have Z:=run_append_room_src (P:=P) c.w t t2 o.type e ii hu hi b (st+off) len cap ux m K (by rw[<-B];exact src c.w rfl) F (by rw[<-B];exact hcl) (by rw[<-B];exact hfr);rw[<-u,<-B,<-L]at Z;refine⟨.slice (some ⟨b,st+off,none⟩) (len+m) cap,c',.inl (y _ _ _ λcs=>by simp only[builtin,Sem.run_bind,Z,Result.andThen_ok,Sem.run_pure]),?_,by simpa[C5.app]using R',E',λj hj=>?_⟩;rw[V];exact⟨b,st+off,cap,by rw[hρ'];simp,by simp,F,by simp,qI hrm (E'.room b)⟩;simp at hj;rw[hρ'];simp[hj];exact grown (c.kill X) (h_ h X none) _ len cap _ vs rfl rfl (R.kill X G) (c.kill_ext X) u (wa (c.kill_ext X) hc) h1 (C _ D) Q (by omega) l _ (λt g=>⟨rfl,(Ty.app g).2.2⟩) (some (X,none)) rfl
    cases p
 | [],H=>exact H.elim
 | [_],H=>exact H.2.elim
 | _::_::_::_,H=>exact H.2.2.elim
end
section
variable{P:Program}{ev:Operand->Value}{o:Oper}{h:Hp}{k:Nat}{c:Cx}
theorem VI{z n m cap:Nat}{a:Option Addr}{vs:List Value}(c:m<=n)(hl:vs.length=n*z)(w:World)
 (hc:match a with|some a=>(vs≠[]->a.spot=none)/\∀(i:Nat)(x:Value),vs[i]? = some x->w.cell? ⟨a.block,a.off+i,none⟩=some x|none=>n=0/\cap=0/\vs=[]):
 (Builtin.firstCells z m (.slice a n cap)).run P w=.ok (vs.take (m*z)).toArray w:=by
 cases a with
 | none=>obtain⟨_,_,rfl⟩:=hc;simp[Builtin.firstCells]
 | some a =>
  have hmz:m*z<=n*z:=YR _ c;have:=run_loadCells_list (P:=P) w a (vs.take (m*z)) (λj v b=>by
   rw[C4 (hc.1 (by rintro rfl;simp at b))];rw[JY]at b;split at b;exact hc.2 j v b;cases b)
  rw[vD,Ut (by omega)]at this;simpa[Builtin.firstCells]using this
theorem UH{s:SV}{u:Value}{n:Nat}(hn:GW s=some n)(e:∀x,s≠.str x)(d:V c s u):∃a cap,u=.slice a n cap/\n<=cap:=by
 cases s<;>simp only[GW]at hn<;>try cases hn
 exact absurd rfl (e _);rw[V]at d;obtain⟨b,st,cap,_,rfl,h1,_⟩:=d;exact⟨_,_,rfl,h1⟩;rw[V]at d;rcases d with⟨rfl,rfl⟩|⟨a,cap,vs,rfl,h1,_⟩
 exact⟨_,_,rfl,qa _⟩;exact⟨_,_,rfl,h1⟩
theorem U3{ts:Array TypeId}{args:Array Operand}{out:C5}{evs:Operand->SV}(ho:o.op=.call { callee:=.builtin .copy,args:=args,argTypes:=ts })
 (a:Al P h k .copy ts.toList (args.toList.map evs)=some out) (R:CF h c) (H:Ag (V c) (args.toList.map evs) (args.map ev).toList):DW P ev o h k c out:=by
 generalize hA:args.toList.map evs=A at a H;generalize hU:args.map ev=U at H;have i:=λ(w w':World)(r:Value)=>BY (P:=P) (ev:=ev) ho w w' r;rw[hU]at i;simp only[Al]at a;split at a<;>try (first|contradiction|(cases a;done))
 rename_i t t2 s x _ e1
 match hU':U.toList,H with
 | [us, ux], H =>
  have J:=Jw e1;have K:=Jw hU';subst J;subst K;have C:=H.1;have S:=H.2.1;unfold Q2 at a;split at a<;>try cases a
  rename_i e u m ys Q p hm X;have hu:=Ay Q;simp only at a;split at a<;>try cases a
  rename_i l;simp only[UW,XH,qo,bne_iff_ne,ne_eq]at l;obtain⟨⟨Y,G⟩,F⟩:=l;obtain⟨ii,hi,v⟩:=Dy F;obtain⟨Z,g,vx,rfl,hcapx,D,T,E,W⟩:=Ku R X hm S;obtain⟨I,j,rfl,hcapd⟩:=UH p (by rintro y rfl;simp[LT]at Y) C;have d:=VI (P:=P) (z:=Br P e) (m:=Nat.min m u) (cap:=g) (Nat.min_le_left _ _) (E _ G) c.w W;have hn:∀w':World,∀a',I=some a'->(storeCells a' (vx.take (Nat.min m u*Br P e))).run P c.w=.ok () w'->(Builtin.copy_ #[t,t2] o.type #[.slice I u j,.slice Z m g]).run P c.w=.ok (.int .i64 (Nat.min m u)) w':=λw' a' ha q=>by
   subst ha;simp[Builtin.copy_,AN hu,sizeOf,typeInfo,hi,<-v,Builtin.lenOf,d,q,goInt]
  by_cases f:Nat.min m u=0;rw[if_pos f]at a;simp only[E8,qk]at a;subst a;have h0:(Builtin.copy_ #[t,t2] o.type #[.slice I u j,.slice Z m g]).run P c.w=.ok (.int .i64 0) c.w:=by
   cases I with
   | none=>
    rw[f]at d;have:=d;simp[Builtin.copy_,AN hu,sizeOf,typeInfo,hi,<-v,Builtin.lenOf,goInt,f]at this ⊢;simp[this]
   | some a'=>
    have:=hn c.w a' rfl (by rw[f];simp[storeCells]);rw[f]at this;exact this
  exact BG R (.int .i64 0) (i _ _ _ λcs=>by simp only[builtin,Sem.run_bind,h0,Result.andThen_ok,Sem.run_pure]) (by rw[V])
  . rw[if_neg f]at a;split at a<;>try cases a
    rename_i o' off z' len full _;simp only[GW,qk]at p;subst p;split at a<;>try cases a
    rename_i cs ty N;split at a<;>try cases a
    rename_i cs' O;obtain⟨L,rfl⟩:=Gk O;have n:=C;rw[V]at n;obtain⟨b,st,cap',hρ,B,_⟩:=n;cases B;have hx2:=E _ G;have hmul:Nat.min m len*Br P e<=m*Br P e:=YR _ (Nat.min_le_left _ _);have M:(ys.take (Nat.min m len*Br P e)).length≠0:=by
     have:=D.length;simp only[vD];have:Nat.min m len*Br P e≠0:=Nat.mul_ne_zero f F;omega
    obtain⟨w',q,R',E'⟩:=Ja (P:=P) R N hρ L M (D.take _) (λx hx=>T x (qS hx));have:=hn w' _ rfl q;exact⟨.int .i64 (Nat.min m len),{ c with w:=w' },.inl (i _ _ _ λcs=>by simp only[builtin,Sem.run_bind,this,Result.andThen_ok,Sem.run_pure]),by rw[V],R',E',λ_ _=>rfl⟩
 | [],H=>exact H.elim
 | [_],H=>exact H.2.elim
 | _::_::_::_,H=>exact H.2.2.elim
theorem TA{W:Array TypeId}{args:Array Operand}{out:C5}{evs:Operand->SV}(ho:o.op=.call { callee:=.builtin .clear,args:=args,argTypes:=W })
 (a:Al P h k .clear W.toList (args.toList.map evs)=some out) (R:CF h c) (H:Ag (V c) (args.toList.map evs) (args.map ev).toList):DW P ev o h k c out:=by
 generalize hA:args.toList.map evs=A at a H;generalize hU:args.map ev=U at H;have d:=λ(w w':World)(r:Value)=>BY (P:=P) (ev:=ev) ho w w' r;rw[hU]at d;simp only[Al]at a;split at a<;>try (first|contradiction|(cases a;done))
 rename_i t x _ Z;obtain⟨u,I,T⟩:=H.single;have C:=MD Z;have e2:=MD I;subst C;subst e2;unfold NS at a;split at a<;>try cases a
 rename_i e Y J m;have S:=Ay J;split at a<;>try cases a
 rename_i j;simp only[UW,XH,qo,bne_iff_ne,ne_eq,beq_iff_eq]at j;obtain⟨⟨⟨L,K⟩,p⟩,N⟩:=j;obtain⟨i,z,hi,O,M⟩:=CB p;have q:=C3 c z;rw[<-M]at q;have hzsize:z.cells.size=Br P e:=by have:=(q.cells p).1.length;simp at this;omega
 obtain⟨Q,g,rfl,hcapd⟩:=UH m (by rintro y rfl;simp[LT]at L) T;by_cases f:Y=0;subst f;simp only[if_true,E8,qk]at a;subst a;have h0:(Builtin.clear_ #[t] o.type #[.slice Q 0 g]).run P c.w=.ok (.tuple #[]) c.w:=by
  cases Q<;>simp[Builtin.clear_,AN S]
 exact BG R (.tuple #[]) (d _ _ _ λcs=>by simp only[builtin,Sem.run_bind,h0,Result.andThen_ok,Sem.run_pure]) (by simp[V,VL])
 . rw[if_neg f]at a;split at a<;>try cases a
   rename_i o' off z' len full;simp only[GW,qk]at m;subst m;split at a<;>try cases a
   rename_i cs ty F;split at a<;>try cases a
   rename_i cs' G;obtain⟨D,rfl⟩:=Gk G;have B:=T;rw[V]at B;obtain⟨b,st,cap',hρ,v,_⟩:=B;cases v;obtain⟨zr,z1⟩:=Gy q p len;have E:(List.replicate len (BK P e).cells).flatten.length≠0:=by
    rw[List.length_flatten,List.map_replicate,List.sum_replicate_nat,N];exact Nat.mul_ne_zero f K
   obtain⟨w',s,X,E'⟩:=Ja (P:=P) R F hρ D E zr z1;have l:=EX z.cells (by omega) len;have h0:(Builtin.clear_ #[t] o.type #[.slice (some ⟨b,st+off,none⟩) len g]).run P c.w=.ok (.tuple #[]) w':=by
    simp only[Builtin.clear_];cases len with
    | zero=>exact absurd rfl f
    | succ n=>
     simp[AN S,zeroValue,typeInfo,hi,O,Builtin.zeroCells]at *;simp[l,s]
   exact⟨.tuple #[],{ c with w:=w' },.inl (d _ _ _ λcs=>by simp only[builtin,Sem.run_bind,h0,Result.andThen_ok,Sem.run_pure]),by simp[V,VL],X,E',λ_ _=>rfl⟩
def KD(s:SV)(d:TypeDesc):Prop:=match s with|.int _ _=>(∃i,d=.int i)|.str _=>d=.string|.bool _=>d=.bool|_=>False
theorem KR{t:TypeId}{s:SV}(a:Cc P t s=true):∃d,P.underlying t=some d/\KD s d:=by
 unfold Cc at a;split at a;obtain⟨i,hi⟩:=Ma a;exact⟨_,Gw hi,i,rfl⟩;exact⟨_,Fp a,rfl⟩;exact⟨_,IT a,rfl⟩;cases a
theorem MS{d:TypeDesc}{s l:SV}{v m:Value}{b:Bool}(g:KD s d)
 (k:V c s v) (f:V c l m) (e:Ht s l=some b):Instr.sameNow d v m=some b:=by
 unfold Ht at e;split at e
 . rename_i i a j b';split at e<;>try cases e
   rename_i h;subst h;simp only[KD]at g;obtain⟨x,rfl⟩:=g;rw[DF k,DF f];simp[Instr.sameNow]
 cases e;simp only[KD]at g;subst g;rw[Mm k,Mm f];simp[Instr.sameNow];cases e;simp only[KD]at g;subst g;rw[Hb k,Hb f];simp[Instr.sameNow];cases e
theorem Gq{d:TypeDesc}{s:SV}{v:Value}(b:KD s d)(g:V c s v):
 ∀(es:List (SV×SV))(a:List MapEntry)(i:Nat)(r:Option (Nat×SV)),Ag (λ(p:SV×SV)(e:MapEntry)=>V c p.1 e.key/\V c p.2 e.val) es a->DT s es i=some r->
  (r=none/\Instr.findNow d v a i=some none)\/∃j x y e,r=some (i+j,x)/\Instr.findNow d v a i=some (some (i+j,y))/\V c x y/\a[j]? = some e/\Instr.sameNow d v e.key=some true
 | [],a,i,r,h,hf=>by
  simp only[DT,qk]at hf;subst hf;rw[h.nil_left];exact .inl ⟨rfl,rfl⟩
 | p::es,[],i,r,h,_=>h.elim
 | p::es,e::a,i,r,h,hf=>by
  obtain⟨⟨h1,h2⟩,l⟩:=h;simp only[DT]at hf;split at hf;rename_i f;cases hf;have:=MS b g h1 f;exact .inr ⟨0,p.2,e.val,e,rfl,by simp[Instr.findNow,this],h2,rfl,this⟩;rename_i f;have:=MS b g h1 f;rcases Gq b g es a (i+1) r l hf with⟨rfl,hg⟩|⟨j,x,y,e',rfl,hg,k,m,n⟩
  exact .inl ⟨rfl,by simp[Instr.findNow,this,hg]⟩;exact .inr ⟨j+1,x,y,e',by congr 2;omega,by rw[show i+(j+1)=i+1+j by omega];simp[Instr.findNow,this,hg],k,by simpa using m,n⟩;cases hf
theorem kF{t:TypeId}{d:TypeDesc}{s:SV}{v:Value}{b:Bool}(f:P.underlying t=some d)(a:KD s d)
 (g:V c s v) (w:World):(Instr.checkKey b 10000 t v).run P w=.ok () w:=by
 have e:∀n,(Instr.checkKey b (n+1) t v).run P w=.ok () w:=λn=>by
  cases s<;>simp only[KD]at a;subst a;rw[Hb g];simp[Instr.checkKey,AN f];obtain⟨i,rfl⟩:=a;rw[DF g];simp[Instr.checkKey,AN f];subst a;rw[Mm g];simp[Instr.checkKey,AN f]
 exact e 9999
theorem RE{es:List (SV×SV)}{a:Array MapEntry}(j:Nat){x y:SV}{u v:Value}(b:V c x u)(d:V c y v)
 (h:Ag (λ(p:SV×SV)(e:MapEntry)=>V c p.1 e.key/\V c p.2 e.val) es a.toList):
 Ag (λ(p:SV×SV)(e:MapEntry)=>V c p.1 e.key/\V c p.2 e.val) (JA es j x y) (a.modify j λe=>{ e with key:=u,val:=v }).toList:=by
 rw[Array.toList_modify];exact Ag.modify (R:=λ(p:SV×SV)(e:MapEntry)=>V c p.1 e.key/\V c p.2 e.val) (λ_=>(x,y)) (λe=>{ e with key:=u,val:=v }) (λ_ _ _=>⟨b,d⟩) j h
theorem IZ.modify{a:Array MapEntry}{b:Nat}(H:IZ a.toList b)(i:Nat)(f:MapEntry->MapEntry)(c:∀e,(f e).born=e.born):IZ (a.modify i f).toList b:=by
 have e:(a.modify i f).toList.map (·.born)=a.toList.map (·.born):=by
  rw[Array.toList_modify];apply List.ext_getElem?;intro j;simp only[qX,List.getElem?_modify];cases a.toList[j]? with
  | none=>rfl
  | some x=>simp only[qO];split<;>simp[c]
 refine⟨λx d=>?_,by rw[e];exact H.2⟩;have:x.born∈(a.modify i f).toList.map (·.born):=ql.2 ⟨x,d,rfl⟩;rw[e]at this;obtain⟨y,g,h⟩:=ql.1 this;rw[<-h];exact H.1 y g
theorem IZ.push{d:List MapEntry}{c:Nat}(H:IZ d c)(e:MapEntry)(he:e.born=c):IZ (d++[e]) (c+1):=by
 refine⟨λx f=>?_,?_⟩;rcases qd.1 f with f|f;have:=H.1 x f;omega;rw[qy.1 f];omega;rw[qc,List.nodup_append];refine⟨H.2,by simp,λa g b hb=>?_⟩;obtain⟨x,f,rfl⟩:=ql.1 g;simp at hb;have:=H.1 x f;omega
theorem IZ.sub{c b:List MapEntry}{a:Nat}(H:IZ c a)(h:b.Sublist c):IZ b a:=⟨λx d=>H.1 x (h.subset d),H.2.sublist (h.map _)⟩
theorem Ll{l b:Nat}{es i:List (SV×SV)}{f a:Array MapEntry}{d clock':Nat}(R:CF h c)(q:h l=some (.map es))(m:c.ρ l=some (b,0))
 (hb:c.w.heap[b]? = some (.map f d)) (o:Ag (λ(p:SV×SV)(e:MapEntry)=>V c p.1 e.key/\V c p.2 e.val) i a.toList) (n:IZ a.toList clock'):
 CF (h_ h l (some (.map i))) { c with w:={ c.w with heap:=c.w.heap.setIfInBounds b (.map a clock') } }/\EH c { c with w:={ c.w with heap:=c.w.heap.setIfInBounds b (.map a clock') } }:=by
 have k:b<c.w.heap.size:=(qp.1 hb).1;refine R.write q m (by simp) (λb' j=>by simp[XA (Ne.symm j)]) ?_ rfl rfl (λE=>?_);simp[rm,hb];exact⟨b,a,clock',m,by simp[k],wv (λ_ _ g=>⟨wc E g.1,wc E g.2⟩) o,n⟩
theorem GL{t:TypeId}{d:TypeDesc}{v:Value}{a:List MapEntry}{r:Option (Nat×Value)}(c:P.underlying t=some d)(b:Instr.findNow d v a 0=some r)(w:World):
 (Instr.findKey t v a).run P w=.ok r w:=by
 simp[Instr.findKey,AN c,b]
theorem Sl(a b:ByteArray):(a==b)=true↔a=b:=by
 obtain⟨x⟩:=a;obtain⟨y⟩:=b;have e:((⟨x⟩:ByteArray)==⟨y⟩)=(x==y):=rfl;rw[e,beq_iff_eq,ByteArray.mk.injEq]
theorem Rs{d:TypeDesc}{s:SV}{v b:Value}(e:KD s d)(f:V c s v)
 (a:Instr.sameNow d v b=some true) (n:Nat):Instr.sameBits n b v=true:=by
 cases s<;>simp only[KD]at e;subst e;rw[Hb f]at *;cases b<;>simp[Instr.sameNow]at a;cases n<;>simp[Instr.sameBits,a];obtain⟨i,rfl⟩:=e;rw[DF f]at *;cases b<;>simp[Instr.sameNow]at a;cases n<;>simp[Instr.sameBits,a];subst e;rw[Mm f]at *;cases b<;>simp[Instr.sameNow]at a;have:=(Sl _ _).1 a;subst this;cases n<;>simp only[Instr.sameBits]<;>exact(Sl _ _).2 rfl
theorem Ox{t:TypeId}{m y x:Operand}{out:C5}{evs:Operand->SV}(X:o.op=.mapUpdate t m y x)(n:DB P evs h k o.op=some out)(R:CF h c)
 (H:∀x∈o.op.operands,V c (evs x) (ev x)):DW P ev o h k c out:=by
 rw[X]at n H;simp only[DB]at n;have W:=H m (by simp[Op.operands]);have B:=H y (by simp[Op.operands]);have Y:=H x (by simp[Op.operands]);split at n<;>try cases n
 rename_i kt e o' ht N;split at n<;>try cases n
 rename_i E;simp only[UW,XH]at E;obtain⟨d,K,r⟩:=KR E;split at n<;>try cases n
 rename_i es G;split at n<;>try cases n
 rename_i hst;rw[N,V]at W;obtain⟨b,hρ,F⟩:=W;obtain⟨b',g,a,T,I,g3,U⟩:=R.obj _ _ G;rw[hρ]at T;cases T;have C:=λw=>kF (P:=P) (b:=false) K r B w;have hget:∀(f:Obj->Sem Unit),((getObj b).bind f).run P c.w=(f (.map g a)).run P c.w:=λf=>by
  simp[getObj,Sem.bind,Sem.run,I]
 have fin:∀(s:List (SV×SV))(l:Array MapEntry)(clock':Nat),Ag (λ(p:SV×SV)(e:MapEntry)=>V c p.1 e.key/\V c p.2 e.val) s l.toList->IZ l.toList clock'->
  (Instr.mapUpdate t (ev m) (ev y) (ev x)).run P c.w=.ok () { c.w with heap:=c.w.heap.setIfInBounds b (.map l clock') }->
  DW P ev o h k c { val:=.tup [],upd:=some (o',some (.map s)) }:=λs l clock' he J A=>by
  obtain⟨Z,E'⟩:=Ll (clock':=clock') R G hρ I he J;exact⟨undef,_,.inr ⟨rfl,by simp[execOp,X,A]⟩,by simp[V,undef,VL],Z,E',λ_ _=>rfl⟩
 have q:∀Q:Obj,(setObj b Q).run P c.w=.ok () { c.w with heap:=c.w.heap.setIfInBounds b Q }:=λQ=>by
  simp[setObj,Sem.run,I]
 have D:(getObj b).run P c.w=.ok (.map g a) c.w:=by simp[getObj,Sem.run,I]
 split at n<;>try cases n
 rename_i i x' v;rcases Gq r B es g.toList 0 _ g3 v with⟨hc,_⟩|⟨j,x2,y2,S,A,L,hxy,hj,z⟩
 cases hc;simp only[qU,qk,Prod.mk.injEq]at A;obtain⟨rfl,rfl⟩:=A;refine fin _ _ a (RE i B Y g3) (IZ.modify U i _ λ_=>rfl) ?_;have u:=λw=>GL (P:=P) K L w;have O:=Rs r B z 10000;have M:g[i]? = some S:=by simpa using hj
 simp[Instr.mapUpdate,AN (Ep ht),F,D,C,u,Instr.keyThatStays,M,O,q];rename_i v;rcases Gq r B es g.toList 0 _ g3 v with⟨_,L⟩|⟨j,x2,y2,S,A,_⟩
 refine fin _ (g.push { key:=ev y,val:=ev x,born:=a }) (a+1) (by rw[Array.toList_push];exact vh g3 (as':=[(evs y,evs x)]) ⟨⟨B,Y⟩,trivial⟩) (by rw[Array.toList_push];exact U.push _ rfl) ?_;have u:=λw=>GL (P:=P) K L w;simp[Instr.mapUpdate,AN (Ep ht),F,D,C,u,q];cases A
theorem Tf{t:TypeId}{m y:Operand}{ok:Bool}{out:C5}{evs:Operand->SV}(Q:o.op=.lookup t m y ok)(l:DB P evs h k o.op=some out)(R:CF h c)
 (H:∀x∈o.op.operands,V c (evs x) (ev x)):DW P ev o h k c out:=by
 rw[Q]at l H;simp only[DB]at l;have I:=H m (by simp[Op.operands]);have U:=H y (by simp[Op.operands]);split at l<;>try cases l
 rename_i kt e ht;split at l<;>try cases l
 rename_i s;simp only[vJ,UW,not_or,XH]at s;obtain⟨s,S⟩:=s;obtain⟨d,N,B⟩:=KR s;obtain⟨i,z,hi,M,W⟩:=CB S;have L:=C3 c z;rw[<-W]at L;obtain⟨es,a,f,E,u⟩:∃(es:List (SV×SV))(a:Array MapEntry),
  MO h (evs m)=some es/\
  Ag (λ(p:SV×SV)(e:MapEntry)=>V c p.1 e.key/\V c p.2 e.val) es a.toList/\
  ∀r:Value×Bool,(match Instr.findNow d (ev y) a.toList 0 with|some (some (_,v))=>r=(v,true)|some none=>r=(z,false)|none=>False)->
   (Instr.lookup t (ev m) (ev y) ok).run P c.w=.ok (if ok then .tuple #[r.1,.bool r.2]else r.1) c.w:=by
  split at l<;>try cases l
  rename_i es f;cases O:evs m<;>rw[O]at f I<;>simp only[MO]at f<;>try cases f
  rw[V]at I;refine⟨[],#[],rfl,trivial,λr g=>?_⟩;have n:=λb w=>kF (P:=P) (b:=b) N B U w;simp[Instr.findNow]at g;subst g;cases ok<;>simp[Instr.lookup,AN (Ep ht),I,n,Instr.findKey,AN N,Instr.findNow,Ff hi M]
  . rename_i o';split at f<;>try cases f
    rename_i K;rw[V]at I;obtain⟨b,hρ,J⟩:=I;obtain⟨b',a,A,X,Y,g3,_⟩:=R.obj _ _ K;rw[hρ]at X;cases X;refine⟨es,a,by simp only[MO,K],g3,λr g=>?_⟩;have n:=λb w=>kF (P:=P) (b:=b) N B U w;have G:(getObj b).run P c.w=.ok (.map a A) c.w:=by simp[getObj,Sem.run,Y]
    cases C:Instr.findNow d (ev y) a.toList 0 with
    | none=>rw[C]at g;exact g.elim
    | some q =>
     have F:=λw=>GL (P:=P) N C w;rw[C]at g;cases q with
     | none=>
      simp only at g;subst g;cases ok<;>simp[Instr.lookup,AN (Ep ht),J,G,n,F,Ff hi M]
     | some q=>
      obtain⟨q1,q2⟩:=q;simp only at g;subst g;cases ok<;>simp[Instr.lookup,AN (Ep ht),J,G,n,F]
 rw[f]at l;simp only at l;cases D:DT (evs y) es 0 with
 | none=>simp[D]at l
 | some r=>
  simp only[D,E8,qk]at l;subst l;rcases Gq B U es a.toList 0 r E D with⟨rfl,C⟩|⟨j,x2,Z,e2,rfl,C,T,_,_⟩
  have g:=u (z,false) (by rw[C]);refine BG R _ (by simp only[execOp,Q,Sem.run_bind,g,Result.andThen_ok,Sem.run_pure];rfl) ?_;cases ok<;>simp[V,VL,L];have g:=u (Z,true) (by rw[C]);refine BG R _ (by simp only[execOp,Q,Sem.run_bind,g,Result.andThen_ok,Sem.run_pure];rfl) ?_;cases ok<;>simp[V,VL,T]
end
section
variable{P:Program}{ev:Operand->Value}{o:Oper}{h:Hp}{k:Nat}{c:Cx}
theorem RK{Y:Array TypeId}{args:Array Operand}{out:C5}{evs:Operand->SV}(ho:o.op=.call { callee:=.builtin .delete,args:=args,argTypes:=Y })
 (m:Al P h k .delete Y.toList (args.toList.map evs)=some out) (R:CF h c) (H:Ag (V c) (args.toList.map evs) (args.map ev).toList):DW P ev o h k c out:=by
 generalize hA:args.toList.map evs=A at m H;generalize hU:args.map ev=U at H;have n:=λ(w w':World)(r:Value)=>BY (P:=P) (ev:=ev) ho w w' r;rw[hU]at n;simp only[Al]at m;split at m<;>try (first|contradiction|(cases m;done))
 rename_i t t2 o' y _ e1
 match hU':U.toList,H with
 | [um, uy], H =>
  have F:=Jw e1;have G:=Jw hU';subst F;subst G;have X:=H.1;have O:=H.2.1;split at m<;>try cases m
  rename_i kt e es ht E;split at m<;>try cases m
  rename_i C;simp only[UW,XH]at C;obtain⟨d,K,s⟩:=KR C;rw[V]at X;obtain⟨b,hρ,N⟩:=X;subst N;obtain⟨b',a,g,T,I,g3,W⟩:=R.obj _ _ E;rw[hρ]at T;cases T;have z:=λb w=>kF (P:=P) (b:=b) K s O w;have l:∀Q:Obj,(setObj b Q).run P c.w=.ok () { c.w with heap:=c.w.heap.setIfInBounds b Q }:=λQ=>by
   simp[setObj,Sem.run,I]
  have B:(getObj b).run P c.w=.ok (.map a g) c.w:=by simp[getObj,Sem.run,I]
  have fin:∀(q:List (SV×SV))(f:Array MapEntry)(clock':Nat),Ag (λ(p:SV×SV)(e:MapEntry)=>V c p.1 e.key/\V c p.2 e.val) q f.toList->IZ f.toList clock'->
   (Builtin.delete_ #[t,t2] o.type #[.map (some b),uy]).run P c.w=.ok (.tuple #[]) { c.w with heap:=c.w.heap.setIfInBounds b (.map f clock') }->
   DW P ev o h k c { val:=.tup [],upd:=some (o',some (.map q)) }:=λq f clock' he J x=>by
   obtain⟨Z,E'⟩:=Ll (clock':=clock') R E hρ I he J;exact⟨.tuple #[],_,.inl (n _ _ _ λcs=>by simp only[builtin,Sem.run_bind,x,Result.andThen_ok,Sem.run_pure]),by simp[V,VL],Z,E',λ_ _=>rfl⟩
  split at m<;>try cases m
  rename_i i x' v;rcases Gq s O es a.toList 0 _ g3 v with⟨hc,_⟩|⟨j,x2,y2,S,x,L,hxy,hj,hsame⟩
  cases hc;simp only[qU,qk,Prod.mk.injEq]at x;obtain⟨rfl,rfl⟩:=x;have M:a[i]? = some S:=by simpa using hj
  have D:=(qp.1 M).1;refine fin _ (a.eraseIdxIfInBounds i) g (by simpa[Array.eraseIdxIfInBounds,D]using Ag.eraseIdx i g3) (W.sub (by simp[Array.eraseIdxIfInBounds,D];exact List.eraseIdx_sublist _ _)) ?_;have u:=λw=>GL (P:=P) K L w;simp[Builtin.delete_,AN (Ep ht),B,z,u,l];rename_i v;rcases Gq s O es a.toList 0 _ g3 v with⟨_,L⟩|⟨j,x2,y2,S,x,_⟩
  refine fin _ a g g3 W ?_;have u:=λw=>GL (P:=P) K L w;simp[Builtin.delete_,AN (Ep ht),B,z,u,l];cases x
 | [],H=>exact H.elim
 | [_],H=>exact H.2.elim
 | _::_::_::_,H=>exact H.2.2.elim
theorem Lz{out:C5}{evs:Operand->SV}(j:DB P evs h k o.op=some out)(R:CF h c)(p:c.ρ k=none)(H:∀x∈o.op.operands,V c (evs x) (ev x)):DW P ev o h k c out:=by
 cases g:o.op with
 | move x=>exact R7 (.inl g) j R H
 | assign x=>exact R7 (.inr g) j R H
 | pick a b d=>exact XR g j R H
 | alloc e=>exact VP g j R p
 | box e x=>exact Yu g j R p H
 | build t ps=>exact VR g j R H
 | buildSlice t l ps=>exact OM g j R p H
 | load t a=>exact XQ g j R H
 | store t a x=>exact VW g j R H
 | nilCheck x=>exact QR g j R H
 | binOp op t x y t2=>exact VQ g j R H
 | unOp op t x=>exact XS g j R H
 | convert a b x=>exact Ry g j R H
 | makeFunc f a b=>exact QQ g j R H
 | makeMap t r=>exact R6 g j R p
 | slice t x lo hi mx=>exact VV g j R H
 | fieldAddr t x i=>exact Ou g j R H
 | indexAddr t x i=>exact Ov g j R H
 | index t x i=>exact VT g j R H
 | lookup t m y ok=>exact Tf g j R H
 | mapUpdate t m y x=>exact Ox g j R H
 | extract x i=>exact Rz g j R H
 | call cl =>
  obtain⟨callee,args,s⟩:=cl;cases callee with
  | value f=>rw[g]at j;simp[DB]at j
  | invoke r m=>rw[g]at j;simp[DB]at j
  | builtin b=>
   have hb:Al P h k b s.toList (args.toList.map evs)=some out:=by rw[g]at j;simpa only[DB]using j
   have n:Ag (V c) (args.toList.map evs) (args.map ev).toList:=HX args λx q=>H x (by rw[g];simp[Op.operands,Call.operands];simpa using q);cases b with
   | len=>exact Wg g hb R n
   | cap=>exact We g hb R n
   | append=>exact RJ g hb R p n
   | copy=>exact U3 g hb R n
   | clear=>exact TA g hb R n
   | min=>exact Wi g hb R n
   | max=>exact Wh g hb R n
   | delete=>exact RK g hb R n
   | _=>unfold Al at hb;split at hb<;>first|contradiction|cases hb
 | _=>rw[g]at j;simp[DB]at j
end
structure CC where
 ro:Option Nat
 mks:Bool
 base:Nat
 inv:Cx->Prop
 ext:∀{c c':Cx},EH c c'->inv c->inv c'
def CC.plain:CC:=⟨none,false,0,λ_=>True,λ_ _=>trivial⟩
def CC.fc(E:CC):Fence:={ Fence.wide with round:=E.ro }
def Wx(D:Nat):Deferred:={ target:=.collected D,args:=#[] }
structure Qn(E:CC)(c:Cx)(ds:List Deferred):Prop where
 base:E.base<=c.w.heap.size
 none:E.mks=false->ds=[]
 nodup:ds.Nodup
 ok:∀d∈ds,∃D,E.base<=D/\d=Wx D/\c.w.heap[D]? = some (.deferred (some []))/\¬c.own D
theorem Qn.mono{E:CC}{c a:Cx}{b:List Deferred}(x:EH c a)(H:Qn E c b):Qn E a b:=
 ⟨qI H.base x.size,H.none,H.nodup,λd g=>by
  obtain⟨D,h1,h2,e,f⟩:=H.ok d g;have hb:=(qp.1 e).1;exact⟨D,h1,h2,by rw[(x.keep D hb f).2];exact e,(x.keep D hb f).1⟩⟩
structure FR(E:CC)(N:Nat)(sa:SA)(c:Cx)(a:Act):Prop where
 size:a.tmps.size=N
 defers:Qn E c a.defers
 val:∀t,V c (Ao sa t) (a.tmps.getD t undef)
def Fr(n:Nat)(c:Cx):Prop:=∀j,n<=j->c.ρ j=none
theorem FR.ext{E:CC}{N:Nat}{sa:SA}{c b:Cx}{a:Act}(h:FR E N sa c a)(x:EH c b):FR E N sa b a:=⟨h.size,h.defers.mono x,λt=>wc x (h.val t)⟩
theorem FR.ev{E:CC}{N:Nat}{sa:SA}{c:Cx}{a:Act}(h:FR E N sa c a)(x:Operand):V c (Hc sa x) (a.eval x):=by
 cases x with
 | tmp t=>exact h.val t
 | const v=>exact C3 c v
 | global g=>simp[Hc,V]
 | func f=>simp[Hc,Act.eval,V,VL]
theorem FR.put{E:CC}{N:Nat}{sa:SA}{c:Cx}{a:Act}(h:FR E N sa c a){dst:Option Tmp}(b:∀d,dst=some d->d<N){s:SV}{u:Value}(g:V c s u):FR E N (Ek sa dst s) c (a.put dst u):=by
 cases dst with
 | none=>exact h
 | some d=>
  refine⟨by simpa[Act.put]using h.size,h.defers,λt=>?_⟩;simp only[Ek,Ao,Act.put];by_cases e:d=t;subst e;have:=b d rfl;have f:=h.size;simp[f,this,g];simp only[e,if_false];have:=h.val t;simpa[XA e]using this
theorem Mn{c:Cx}:V c (.tup []) undef:=by rw[V];exact⟨[],rfl,by simp[VL]⟩
theorem FR.weaken{E:CC}{N:Nat}{sa b:SA}{c:Cx}{a:Act}(h:FR E N sa c a)(hw:∀p∈b,Ao sa p.1=p.2):FR E N b c a:=by
 refine⟨h.size,h.defers,λt=>?_⟩;have key:∀l:SA,(∀p∈l,Ao sa p.1=p.2)->Ao l t=.junk\/Ao l t=Ao sa t:=by
  intro l
  induction l with
  | nil=>intro _;exact .inl rfl
  | cons p l ih=>
   intro hl;obtain⟨k,x⟩:=p;simp only[Ao];by_cases e:k=t;subst e;simp only[if_true];exact .inr (hl (k,x) (by simp)).symm;simp only[e,if_false];exact ih λq d=>hl q (by simp[d])
 rcases key b hw with e|e;rw[e];simp[V];rw[e];exact h.val t
structure GB(n:Nat)(c:Cx)(n':Nat)(c':Cx):Prop where
 ext:EH c c'
 le:n<=n'
 same:∀j,j<n->c'.ρ j=c.ρ j
theorem GB.refl(n:Nat)(c:Cx):GB n c n c:=⟨wp c,qa _,λ_ _=>rfl⟩
theorem GB.trans{e f n3:Nat}{a b c:Cx}(h:GB e a f b)(g:GB f b n3 c):GB e a n3 c:=
 ⟨h.ext.trans g.ext,qI h.le g.le,λj d=>(g.same j (Wm d h.le)).trans (h.same j d)⟩
abbrev Cu:=Exit->SA->Hp->Nat->Prop
def Vr(E:CC)(N n:Nat)(c:Cx)(Q:Cu):Exit->Act->World->Prop:=λe a' w'=>
 ∃sa' h' n' c',Q e sa' h' n'/\c'.w=w'/\CF h' c'/\Fr n' c'/\FR E N sa' c' a'/\GB n c n' c'
def Code.dok(N:Nat):Code->Bool
 | .region _ ops _=>ops.toList.all λo=>o.dst.all (· < N)
 | .seq a b=>Code.dok N a&&Code.dok N b
 | .cond _ a b=>Code.dok N a&&Code.dok N b
 | .block _ b=>Code.dok N b
 | .loop b=>Code.dok N b
 | .rangeFunc _ ps a b=>ps.toList.all (· < N)&&(Code.dok N a&&Code.dok N b)
 | .skip|.exit _|.ret=>true
 | _=>false
def Ic(E:CC)(P:Program)(N:Nat)(code:Code)(Q:Cu)(sa:SA)(h:Hp)(n:Nat):Prop:=
 Code.dok N code=true->∀c a,E.inv c->CF h c->Fr n c->FR E N sa c a->code.wpIn E.fc 0 P (Vr E N n c Q) a c.w
def Ok(P:Program)(f:FuncId):Bool:=
 match P.funcs[f]? with
 | some fn=>fn.body.isSome&&fn.name != "runtime.NumGoroutine"
 | none=>false
def Ap(E:CC)(P:Program)(f:FuncId)(args:List SV)(h:Hp)(n:Nat)(Q:SV->Hp->Nat->Prop):Prop:=
 Ok P f=true/\∀c vs,E.inv c->CF h c->Fr n c->Ag (V c) args vs->Calls P f vs.toArray c.w (λe w'=>
  ∃u v h' n' c',e=.returned u/\Q v h' n'/\c'.w=w'/\V c' v u/\CF h' c'/\Fr n' c'/\GB n c n' c')
theorem Ap.mono{E:CC}{P:Program}{f:FuncId}{args:List SV}{h:Hp}{n:Nat}{Q a:SV->Hp->Nat->Prop}(H:Ap E P f args h n Q)(d:∀v h' n',Q v h' n'->a v h' n'):Ap E P f args h n a:=
 ⟨H.1,λc vs I R F A=>(H.2 c vs I R F A).mono λ_ _ ⟨u,v,h',n',b,e,q,r⟩=>⟨u,v,h',n',b,e,d _ _ _ q,r⟩⟩
def callee:SV->List SV->Option (FuncId×List SV)
 | .fn (.func f) a b,args=>some (f,a++args++b)
 | _,_=>none
def FV(E:CC)(P:Program)(l:Nat)(args:List SV)(h:Hp)(n:Nat)(Q:SV->Hp->Nat->Prop):Prop:=
 ∀c vs,E.inv c->CF h c->Fr n c->Ag (V c) args vs->YieldAt Fence.wide 0 P l vs.toArray c.w (λe w'=>
  ∃u v h' n' c',e=.returned u/\Q v h' n'/\c'.w=w'/\V c' v u/\CF h' c'/\Fr n' c'/\GB n c n' c')
def Pv:SV->Option Nat
 | .fn (.yield l) [] []=>some l
 | _=>none
def DS(E:CC)(P:Program)(evs:Operand->SV)(o:Oper)(h:Hp)(n:Nat)(K:SV->Hp->Nat->Prop):Prop:=
 (∀c,o.op≠.defer c)/\∀(c:Cx)(ev:Operand->Value),(∀v,ev (.const v)=v)->E.inv c->CF h c->Fr n c->(∀x,V c (evs x) (ev x))->
   ∃u v h' n' c',(execOp ev o).run P c.w=.ok (.value u) c'.w/\V c' v u/\CF h' c'/\Fr n' c'/\GB n c n' c'/\K v h' n'
def bL(E:CC)(P:Program)(evs:Operand->SV)(o:Oper)(h:Hp)(n:Nat)(K:SV->Hp->Nat->Prop):Prop:=
 (∀c,o.op≠.defer c)/\∀(c:Cx)(ev:Operand->Value),(∀v,ev (.const v)=v)->E.inv c->CF h c->Fr n c->(∀x,V c (evs x) (ev x))->
   ∃h' n' c',(execOp ev o).run P c.w=.ok .skip c'.w/\CF h' c'/\Fr n' c'/\GB n c n' c'/\K (.tup []) h' n'
def Xw(P:Program)(evs:Operand->SV)(o:Oper)(v:SV):Prop:=
 (∀c,o.op≠.defer c)/\∀(c:Cx)(ev:Operand->Value),(∀v,ev (.const v)=v)->(∀x∈o.op.operands,V c (evs x) (ev x))->∃u,(execOp ev o).run P c.w=.ok (.value u) c.w/\V c v u
def MY(E:CC)(P:Program)(o:Oper)(sa:SA)(h:Hp)(n:Nat)(K:SV->Hp->Nat->Prop):Prop:=
 match o.op with
 | .call { callee:=.value f,args,.. }=>
  match callee (Hc sa f) (args.toList.map (Hc sa))with
  | some (g,aS)=>Ap E P g aS h n K
  | none=>match Pv (Hc sa f)with|some l=>FV E P l (args.toList.map (Hc sa)) h n K|none=>False
 | op=>
  match DB P (Hc sa) h n op with
  | some out=>K out.val (out.app h n) (if out.new.isSome then n+1 else n)
  | none=>match op with|.mapUpdate ..=>bL E P (Hc sa) o h n K|_=>DS E P (Hc sa) o h n K
def Dv(ops:Array Oper)(sa:SA)(o:Oper):Option Bool:=
 match o.guard with
 | none=>some true
 | some (j,want)=>
  match(ops[j]?).bind (·.dst)with
  | some d=>match Ao sa d with|.bool b=>some (b==want)|.tup []=>some false|_=>none
  | none=>none
def JC(E:CC)(P:Program)(ops:Array Oper)(Q:SA->Hp->Nat->Prop):List Oper->SA->Hp->Nat->Prop
 | [],sa,h,n=>Q sa h n
 | o::rest,sa,h,n=>
  match Dv ops sa o with
  | some b=>if b=true then MY E P o sa h n λv h' n'=>JC E P ops Q rest (Ek sa o.dst v) h' n' else JC E P ops Q rest (Ek sa o.dst (.tup [])) h n
  | none=>False
section
variable{E:CC}{P:Program}{N:Nat}{ops:Array Oper}
theorem Hm{sa:SA}{c:Cx}{a:Act}{o:Oper}{b:Bool}(F:FR E N sa c a)(hg:Dv ops sa o=some b):Region.wanted o (yielded ops a.tmps)=b:=by
 unfold Dv at hg;unfold Region.wanted;split at hg;rename_i e;rw[e];simpa using hg
 . rename_i j want e;rw[e];split at hg<;>try cases hg
   rename_i d h;split at hg<;>try cases hg
   rename_i i hb;have f:=F.val d;rw[hb]at f;have:=Hb f;simp only[yielded,h,qK];have g:a.tmps[d]? = some (.bool i):=by
    rcases YV d a.tmps.size with hl|hl;rw[Ye,KN hl]at this;rw[KN hl];simpa using this;rw[Ye,Yv hl]at this;cases this
   rw[g];simp;rename_i hb;have f:=F.val d;rw[hb,V]at f;obtain⟨vs,f,_⟩:=f;simp only[yielded,h,qK];rcases YV d a.tmps.size with hl|hl;rw[Ye,KN hl]at f;rw[KN hl];simp only[vR]at f;rw[f];rfl;rw[Yv hl];rfl
theorem JB{ev:Operand->SV}{h:Hp}{k:Nat}{a:Op}{out:C5}(b:DB P ev h k a=some out):∀c,a≠.defer c:=by
 rintro c rfl;simp[DB]at b
theorem JE{o:Oper}{sa:SA}{h:Hp}{n:Nat}{K:SV->Hp->Nat->Prop}{Q:Act->World->Prop}{Qr:Exit->Act->World->Prop}{c:Cx}{a:Act}
 (H:MY E P o sa h n K) (I:E.inv c) (R:CF h c) (F:Fr n c) (A:FR E N sa c a)
 (J:∀v h' n' b u,K v h' n'->V b v u->CF h' b->Fr n' b->GB n c n' b->Q (a.put o.dst u) b.w):o.wpIn E.fc 0 P a c.w Q Qr:=by
 refine⟨λ_ _=>trivial,?_⟩;have plain:∀out,DB P (Hc sa) h n o.op=some out->K out.val (out.app h n) (if out.new.isSome then n+1 else n)->o.uponIn E.fc 0 P a Q Qr ((o.semAt E.fc.round a.eval).run P c.w):=λout O M=>by
  obtain⟨u,b,i,D,p,X,hρ⟩:=Lz (ev:=a.eval) O R (F n (qa _)) λx _=>A.ev x;have m:Fr (if out.new.isSome then n+1 else n) b:=λj W=>by
   have:b.ρ j=c.ρ j:=hρ j (by cases hn:out.new<;>simp[hn]at W ⊢;omega);rw[this];exact F j (by cases hn:out.new<;>simp[hn]at W<;>omega)
  have A':GB n c (if out.new.isSome then n+1 else n) b:=⟨X,by split<;>omega,λj W=>hρ j (.inr (by omega))⟩
  have:=J _ _ _ b u M D p m A';rw[Oper.semAt_eq _ _ _ (JB O)];rcases i with i|⟨rfl,i⟩
  rw[i];exact this;rw[i];exact this
 unfold MY at H;split at H
 . rename_i f args ts Y;rw[Oper.semAt_eq _ _ _ (by rw[Y];simp)];split at H
   . rename_i g aS hc;have L:=A.ev f;unfold callee at hc;split at hc<;>try cases hc
     rename_i s args' g' x y S;rw[S,V]at L;obtain⟨xs,ys,C,h1,h2⟩:=L;have r:Ag (V c) (x++args.toList.map (Hc sa)++y) (xs++(args.map a.eval).toList++ys):=
      vh (vh (BP.1 h1) (HX args λz _=>A.ev z)) (BP.1 h2)
     obtain⟨d,t⟩:=H;have hc:=t c _ I R F r;unfold Ok at d;cases B:P.funcs[g]? with
     | none=>simp[B]at d
     | some fn =>
      simp only[B,qo,bne_iff_ne,ne_eq]at d;have k:(execOp a.eval o).run P c.w=.ok (.enter g (xs.toArray++args.map a.eval++ys.toArray)) c.w:=by
       have hb:fn.body≠none:=by intro e;simp[e]at d
       simp[execOp,Y,resolve,Deferred.ofValue,C,invoke,callFunc,B,d.2,hb]
      have G:xs.toArray++args.map a.eval++ys.toArray=(xs++(args.map a.eval).toList++ys).toArray:=by
       apply Array.ext';simp
      rw[k,Oper.uponIn_enter,G];refine⟨λh=>by simp[CC.fc,Fence.wide]at h,(callsIn_wide.2 (hc.mono λe w' ⟨u,v,h',n',b,U,q,hw,D,p,m,X⟩=>?_):CallsIn Fence.wide _ P g _ c.w _)⟩;subst U;subst hw;exact J v h' n' b u q D p m X
   . split at H
     . rename_i l hl;have L:=A.ev f;unfold Pv at hl;split at hl<;>try cases hl
       rename_i S;rw[S,V]at L;obtain⟨xs,ys,C,h1,h2⟩:=L;simp only[VL]at h1 h2;subst h1;subst h2;obtain⟨fn,tm,aS,bd,Z,i⟩:=H c _ I R F (HX args λz _=>A.ev z);have k:(execOp a.eval o).run P c.w=.ok (.round l fn tm aS bd) c.w:=by
        have e:(args.map a.eval)=(args.map a.eval).toList.toArray:=by apply Array.ext';simp
        rw[<-e]at Z;simp[execOp,Y,resolve,Deferred.ofValue,C,invoke];simpa using Z
       rw[k,Oper.uponIn_round];refine⟨λh=>by simp[CC.fc,Fence.wide]at h,(i.mono λe w' ⟨u,v,h',n',b,U,q,hw,D,p,m,X⟩=>?_:RoundIn Fence.wide _ P l _ _ _ _ c.w _)⟩;subst U;subst hw;exact J v h' n' b u q D p m X
     exact H.elim
 split at H;rename_i out O;exact plain out O H;split at H;obtain⟨T,H⟩:=H;rw[Oper.semAt_eq _ _ _ T];obtain⟨h',n',b,i,p,m,X,M⟩:=H c a.eval (λ_=>rfl) I R F A.ev;rw[i];exact J (.tup []) h' n' b undef M (by simp[V,undef,VL]) p m X;obtain⟨T,H⟩:=H;rw[Oper.semAt_eq _ _ _ T];obtain⟨u,v,h',n',b,i,D,p,m,X,M⟩:=H c a.eval (λ_=>rfl) I R F A.ev;rw[i];exact J v h' n' b u M D p m X
theorem JD{Q:SA->Hp->Nat->Prop}(Qp:Cu)(hQ:∀sa h n,Q sa h n->Qp .normal sa h n):∀(l:List Oper)(sa:SA)(h:Hp)(n n0:Nat)(c0 c:Cx)(a:Act),(∀o∈l,o.dst.all (· < N)=true)->
 JC E P ops Q l sa h n->E.inv c->CF h c->Fr n c->FR E N sa c a->GB n0 c0 n c->wpListIn E.fc 0 P ops (Vr E N n0 c0 Qp) l a c.w
 | [],sa,h,n,n0,c0,c,a,_,H,I,R,F,A,X=>⟨sa,h,n,c,hQ _ _ _ H,rfl,R,F,A,X⟩
 | o :: rest, sa, h, n, n0, c0, c, a, hd, H, I, R, F, A, X => by
  have hdo:∀d,o.dst=some d->d<N:=λd e=>by have:=hd o (by simp);rw[e]at this;simpa using this
  simp only[JC]at H;simp only[wpListIn];split at H
  case h_2=>exact H.elim
  rename_i b hg;cases b
  case true=>
   rw[if_pos rfl]at H;rw[Hm A hg,if_pos rfl];refine JE H I R F A λv h' n' c' u hk hv R' F' X'=>?_;exact JD Qp hQ rest _ h' n' n0 c0 c' _ (λo ho=>hd o (by simp[ho])) hk (E.ext X'.ext I) R' F' ((A.ext X'.ext).put hdo hv) (X.trans X')
  case false=>
   rw[Hm A hg];simp only[qn,if_false]at H ⊢;exact⟨λ_ _=>trivial,JD Qp hQ rest _ h n n0 c0 c _ (λo ho=>hd o (by simp[ho])) H I R F (A.put hdo Mn) X⟩
theorem Sc{id:Nat}{Q:Cu}{sa:SA}{h:Hp}{n:Nat}(H:JC E P ops (Q .normal) ops.toList sa h n):Ic E P N (.region id ops false) Q sa h n:=by
 intro b c a I R F A;simp only[Code.dok,YO]at b;exact wpIn_region_list (JD Q (λ_ _ _ h=>h) _ sa h n n c c a b H I R F A (GB.refl n c))
theorem GC{code:Code}{Q d:Cu}{sa:SA}{h:Hp}{n:Nat}(H:Ic E P N code Q sa h n)(i:∀e sa h n,Q e sa h n->d e sa h n):Ic E P N code d sa h n:=
 λg c a I R F A=>wpIn_mono (H g c a I R F A) λ_ _ _ ⟨b,h',n',f,q,r⟩=>⟨b,h',n',f,i _ _ _ _ q,r⟩
theorem Hi{Q:Cu}{sa:SA}{h:Hp}{n:Nat}(H:Q .normal sa h n):Ic E P N .skip Q sa h n:=
 λ_ c _ _I R F A=>wpIn_skip ⟨sa,h,n,c,H,rfl,R,F,A,GB.refl n c⟩
theorem Vu{id:Nat}{Q:Cu}{sa:SA}{h:Hp}{n:Nat}(H:Q (.exit id) sa h n):Ic E P N (.exit id) Q sa h n:=
 λ_ c _ _I R F A=>wpIn_exit ⟨sa,h,n,c,H,rfl,R,F,A,GB.refl n c⟩
theorem Xv{Q:Cu}{sa:SA}{h:Hp}{n:Nat}(H:Q .ret sa h n):Ic E P N .ret Q sa h n:=
 λ_ c _ _I R F A=>wpIn_ret ⟨sa,h,n,c,H,rfl,R,F,A,GB.refl n c⟩
def Do(K:SA->Hp->Nat->Prop)(Q:Cu):Cu
 | .normal=>K
 | e=>Q e
theorem Kg{x y:Code}{Q:Cu}{sa:SA}{h:Hp}{n:Nat}(H:Ic E P N x (Do (Ic E P N y Q) Q) sa h n):Ic E P N (.seq x y) Q sa h n:=by
 intro b c a I R F A;simp only[Code.dok,qo]at b;refine wpIn_seq (wpIn_mono (H b.1 c a I R F A) ?_);rintro e a' w' ⟨f,h',n',l,q,rfl,k,j,i,X⟩;cases e with
 | normal=>
  refine wpIn_mono (q b.2 l a' (E.ext X.ext I) k j i) ?_;rintro e2 a2 w2 ⟨g,h2,t,s,u,d,r,p,m,o⟩;exact⟨g,h2,t,s,u,d,r,p,m,X.trans o⟩
 | _=>exact⟨f,h',n',l,q,rfl,k,j,i,X⟩
theorem Au{x:Operand}{y z:Code}{b:Bool}{Q:Cu}{sa:SA}{h:Hp}{n:Nat}(hb:Hc sa x=.bool b)(H:Ic E P N (if b then y else z) Q sa h n):Ic E P N (.cond x y z) Q sa h n:=by
 intro d c a I R F A;simp only[Code.dok,qo]at d;have e:=A.ev x;rw[hb]at e;refine wpIn_cond (Hb e) ?_;cases b;exact H d.2 c a I R F A;exact H d.1 c a I R F A
def Fv(id:Nat)(Q:Cu):Cu
 | .exit id'=>λsa h n=>if id'=id then Q .normal sa h n else Q (.exit id') sa h n
 | e=>Q e
theorem O1{id:Nat}{x:Code}{Q:Cu}{sa:SA}{h:Hp}{n:Nat}(H:Ic E P N x (Fv id Q) sa h n):Ic E P N (.block id x) Q sa h n:=by
 intro j c a I R F A;simp only[Code.dok]at j;refine wpIn_block (wpIn_mono (H j c a I R F A) ?_);rintro e a' w' ⟨b,h',n',i,q,hw,g,f,d,X⟩;cases e with
 | exit id'=>
  simp only[Fv]at q;simp only[Exit.inBlock];split;rename_i e;rw[if_pos e]at q;exact⟨b,h',n',i,q,hw,g,f,d,X⟩;rename_i e;rw[if_neg e]at q;exact⟨b,h',n',i,q,hw,g,f,d,X⟩
 | _=>exact⟨b,h',n',i,q,hw,g,f,d,X⟩
theorem NG{code:Code}{Q:Cu}{sa b:SA}{h:Hp}{n:Nat}(H:Ic E P N code Q b h n)(hw:∀p∈b,Ao sa p.1=p.2):Ic E P N code Q sa h n:=
 λd c a I R F A=>H d c a I R F (A.weaken hw)
theorem Qq{x:Code}{Q:Cu}{sa:SA}{h:Hp}{n:Nat}(μ:Nat)(J:Nat->SA->Hp->Nat->Prop)(h0:J μ sa h n)
 (g:∀m sa h n,J m sa h n->Ic E P N x (Do (λb h' n'=>∃m',m'<m/\J m' b h' n') Q) sa h n):Ic E P N (.loop x) Q sa h n:=by
 intro T c a I R F A;have s:Code.dok N x=true:=by simpa[Code.dok]using T
 classical
 let L:Nat->Act->World->Prop:=λm a' w'=>∃b h' n' c',J m b h' n'/\c'.w=w'/\CF h' c'/\Fr n' c'/\FR E N b c' a'/\GB n c n' c';have d:∀(a':Act)(w':World),(∃m,L m a' w')->∃m,L m a' w'/\∀k,k<m->¬L k a' w':=by
  intro a' w' ⟨m,i⟩
  induction m using Nat.strongRecOn with
  | _ m ih=>
   by_cases p:∃k,k<m/\L k a' w';obtain⟨k,p,hl⟩:=p;exact ih k p hl;exact⟨m,i,λk t hl=>p ⟨k,t,hl⟩⟩
 let μ':Act->World->Nat:=λa' w'=>if l:∃m,L m a' w' then(d a' w' l).choose else 0
 have G:∀a' w' m,L m a' w'->L (μ' a' w') a' w'/\μ' a' w'<=m:=by
  intro a' w' m i;have l:∃m,L m a' w':=⟨m,i⟩
  have:=(d a' w' l).choose_spec;have e:μ' a' w'=(d a' w' l).choose:=by simp only[μ',l,dif_pos]
  rw[e];exact⟨this.1,Nat.le_of_not_lt λf=>this.2 m f i⟩
 refine wpIn_loop (I:=λa' w'=>∃m,L m a' w') (μ:=μ') ⟨μ,sa,h,n,c,h0,rfl,R,F,A,GB.refl n c⟩ ?_;intro a1 w1 ⟨m,i⟩;obtain⟨⟨u,h1,U,c1,S,hw,O,M,K,E1⟩,hle⟩:=G a1 w1 m i;subst hw;refine wpIn_mono (g _ u h1 U S s c1 a1 (E.ext E1.ext I) O M K) ?_;rintro e a2 w2 ⟨o,h2,H,C,q,j,B,z,v,y⟩;cases e with
 | normal=>
  obtain⟨m',f,r⟩:=q;have D:L m' a2 w2:=⟨o,h2,H,C,r,j,B,z,v,E1.trans y⟩
  exact⟨⟨m',D⟩,Nat.lt_of_le_of_lt (G a2 w2 m' D).2 f⟩
 | _=>exact⟨o,h2,H,C,q,j,B,z,v,E1.trans y⟩
end
abbrev BL:=Ap CC.plain
theorem Ap.lift{E:CC}{P:Program}{f:FuncId}{args:List SV}{h:Hp}{n:Nat}{Q:SV->Hp->Nat->Prop}(H:Ap CC.plain P f args h n Q):Ap E P f args h n Q:=
 ⟨H.1,λc vs _ R F A=>H.2 c vs trivial R F A⟩
mutual
def cc(n:Nat):SV->Bool
 | .agg cs=>ca n cs
 | .tup cs=>ca n cs
 | .fn _ a b=>ca n a&&ca n b
 | .ptr o _=>decide (o<n)
 | .q cs=>ca n cs
 | .sl o _ _ _ _=>decide (o<n)
 | .slc o _ _ _ _=>decide (o<n)
 | .i _ es _=>ca n es
 | .map o=>decide (o<n)
 | _=>true
def ca(n:Nat):List SV->Bool
 | []=>true
 | s::ss=>cc n s&&ca n ss
end
def BW(n:Nat):Bb->Bool
 | .cells cs _=>ca n cs
 | .map es=>es.all λp=>cc n p.1&&cc n p.2
 | .loop _=>true
 | .iter left last=>(left.all λp=>cc n p.1&&cc n p.2)&&last.all λp=>cc n p.1&&cc n p.2
 | .list _ es=>ca n (es.flatMap SV.cells)
theorem EO{n:Nat}:∀{l:List SV},ca n l=true↔∀s∈l,cc n s=true
 | []=>by simp[ca]
 | s::ss=>by simp[ca,EO (l:=ss)]
mutual
theorem DI{c:Cx}{n:Nat}(F:Fr n c):∀{s:SV} {v:Value},V c s v->cc n s=true
 | .agg cs,v,h=>by rw[V]at h;obtain⟨vs,_,hl,_⟩:=h;rw[cc];exact DJ F hl
 | .tup cs,v,h=>by rw[V]at h;obtain⟨vs,_,hl⟩:=h;rw[cc];exact DJ F hl
 | .fn f a b,v,h=>by rw[V]at h;obtain⟨xs,ys,_,h1,h2⟩:=h;rw[cc,DJ F h1,DJ F h2];rfl
 | .ptr o off,v,h=>by
  rw[V]at h;obtain⟨b,st,h1,_⟩:=h;rw[cc];exact decide_eq_true (Nat.lt_of_not_le λhl=>by rw[F o hl]at h1;cases h1)
 | .q cs,v,h=>by rw[V]at h;obtain⟨a,vs,_,_,hl,_⟩:=h;rw[cc];exact DJ F hl
 | .sl o _ _ _ _,v,h=>by
  rw[V]at h;obtain⟨b,st,cap,h1,_⟩:=h;rw[cc];exact decide_eq_true (Nat.lt_of_not_le λhl=>by rw[F o hl]at h1;cases h1)
 | .slc o _ _ _ _,v,h=>by
  rw[V]at h;obtain⟨b,st,h1,_⟩:=h;rw[cc];exact decide_eq_true (Nat.lt_of_not_le λhl=>by rw[F o hl]at h1;cases h1)
 | .i z es full,v,h=>by
  rw[V]at h;rw[cc];rcases h with⟨rfl,_⟩|⟨a,cap,vs,_,_,_,_,d⟩
  rfl;exact Kj F d
 | .map o,v,h=>by
  rw[V]at h;obtain⟨b,h1,_⟩:=h;rw[cc];exact decide_eq_true (Nat.lt_of_not_le λhl=>by rw[F o hl]at h1;cases h1)
 | .bool _,_,_=>rfl
 | .int _ _,_,_=>rfl
 | .str _,_,_=>rfl
 | .nilp,_,_=>rfl
 | .nilf,_,_=>rfl
 | .nilm,_,_=>rfl
 | .junk,_,_=>rfl
theorem DJ{c:Cx}{n:Nat}(F:Fr n c):∀{s:List SV} {v:List Value},VL c s v->ca n s=true
 | [],_,_=>rfl
 | s::ss,v,h=>by rw[VL]at h;obtain⟨u,r,_,h1,h2⟩:=h;rw[ca,DI F h1,DJ F h2];rfl
theorem Kj{c:Cx}{n z:Nat}(F:Fr n c):∀{s:List SV} {v:List Value},VE c z s v->ca n s=true
 | [],_,_=>rfl
 | s::ss,v,h=>by rw[VE]at h;obtain⟨u,r,_,_,_,h1,h2⟩:=h;rw[ca,DI F h1,Kj F h2];rfl
end
theorem H9{c:Cx}{n o:Nat}{x:Bb}(F:Fr n c)(h:EJ c o x):o<n/\BW n x=true:=by
 refine⟨?_,?_⟩;obtain⟨b,st,h1,_⟩:=h.block;exact Nat.lt_of_not_le λhl=>by rw[F o hl]at h1;cases h1
 cases x with
 | cells cs ty=>obtain⟨b,st,arr,e,vs,_,_,_,d,_⟩:=h;exact DJ F (BP.2 d)
 | map es=>
  obtain⟨b,f,a,_,_,j,_⟩:=h;simp only[BW,YO,qo];intro p hp;obtain⟨i,hi⟩:=List.getElem?_of_mem hp;obtain⟨e,_,d,g⟩:=j.get hi;exact⟨DI F d,DI F g⟩
 | loop r=>rfl
 | iter left last=>
  obtain⟨b,bm,f,a,seen,_,_,_,_,_,j,k⟩:=h;simp only[BW,YO,qo,Option.all_eq_true];refine⟨λp hp=>?_,λp hp=>?_⟩;obtain⟨i,hi⟩:=List.getElem?_of_mem hp;obtain⟨e,_,d,g⟩:=j.get hi;exact⟨DI F d,DI F g⟩;obtain⟨e,_,_,d,g⟩:=k p hp;exact⟨DI F d,DI F g⟩
 | list z es=>
  obtain⟨b,R9,arr,e,v,_,_,_,_,⟨rfl,_,_⟩|⟨B,st,arr2,e2,vs,cap,_,_,_,_,_,_,_,_,l,_⟩⟩:=h;rfl;exact DJ F (BP.2 l)
def Cx.cut(c:Cx)(h:Hp)(n:Nat):Cx:=
 { ρ:=λj=>if j<n then c.ρ j else none,own:=λb=>∃o x,h o=some x/\o<n/\BV c o x b,w:=c.w,bk:=c.bk }
section
variable{c:Cx}{h h2:Hp}{n:Nat}
theorem Pw(R:CF h c)(e:∀o x,h2 o=some x->h o=some x){b:Nat}(hb:(c.cut h2 n).own b):c.own b:=by
 obtain⟨o,x,a,_,d⟩:=hb;exact(R.own2 b).2 ⟨o,x,e o x a,d⟩
theorem HM.cut(R:CF h c)(b:∀o x,h2 o=some x->h o=some x){a:Addr}{vs:List Value}(g:HM c a vs):HM (c.cut h2 n) a vs:=
 ⟨g.spot,λd hb=>g.free d (Pw R b hb),g.cell,g.one⟩
mutual
theorem V.cut(R:CF h c)(d:∀o x,h2 o=some x->h o=some x):∀{s:SV} {v:Value},cc n s=true->V c s v->V (c.cut h2 n) s v
 | .agg cs,v,hc,g=>by rw[V]at *;rw[cc]at hc;obtain⟨vs,e,hl,k⟩:=g;exact⟨vs,e,VL.cut R d hc hl,k⟩
 | .tup cs,v,hc,g=>by rw[V]at *;rw[cc]at hc;obtain⟨vs,e,hl⟩:=g;exact⟨vs,e,VL.cut R d hc hl⟩
 | .fn f a b,v,hc,g=>by rw[V]at *;rw[cc,qo]at hc;obtain⟨xs,ys,e,h1,h2⟩:=g;exact⟨xs,ys,e,VL.cut R d hc.1 h1,VL.cut R d hc.2 h2⟩
 | .ptr o off,v,hc,g=>by rw[V]at *;rw[cc]at hc;obtain⟨b,st,h1,h2⟩:=g;exact⟨b,st,by simp[Cx.cut,of_decide_eq_true hc,h1],h2⟩
 | .q cs,v,hc,g=>by rw[V]at *;rw[cc]at hc;obtain⟨a,vs,e,h1,h2,i⟩:=g;exact⟨a,vs,e,h1.cut R d,VL.cut R d hc h2,i⟩
 | .sl o off z len full,v,hc,g=>by rw[V]at *;rw[cc]at hc;obtain⟨b,st,cap,h1,h2⟩:=g;exact⟨b,st,cap,by simp[Cx.cut,of_decide_eq_true hc,h1],h2⟩
 | .slc o off z len cap,v,hc,g=>by rw[V]at *;rw[cc]at hc;obtain⟨b,st,h1,h2⟩:=g;exact⟨b,st,by simp[Cx.cut,of_decide_eq_true hc,h1],h2⟩
 | .i z es full,v,hc,g=>by
  rw[V]at *;rw[cc]at hc;rcases g with g|⟨a,cap,vs,e,h1,h2,i,j⟩
  exact .inl g;exact .inr ⟨a,cap,vs,e,h1,h2,i.cut R d,VE.cut R d hc j⟩
 | .map o,v,hc,g=>by rw[V]at *;rw[cc]at hc;obtain⟨b,h1,h2⟩:=g;exact⟨b,by simp[Cx.cut,of_decide_eq_true hc,h1],h2⟩
 | .bool _,_,_,g=>g
 | .int _ _,_,_,g=>g
 | .str _,_,_,g=>g
 | .nilp,_,_,g=>g
 | .nilf,_,_,g=>g
 | .nilm,_,_,g=>g
 | .junk,_,_,_=>trivial
theorem VL.cut(R:CF h c)(a:∀o x,h2 o=some x->h o=some x):∀{s:List SV} {v:List Value},ca n s=true->VL c s v->VL (c.cut h2 n) s v
 | [],_,_,g=>by rw[VL]at *;exact g
 | s::ss,v,hc,g=>by rw[VL]at *;rw[ca,qo]at hc;obtain⟨u,r,e,h1,h2⟩:=g;exact⟨u,r,e,V.cut R a hc.1 h1,VL.cut R a hc.2 h2⟩
theorem VE.cut(R:CF h c)(b:∀o x,h2 o=some x->h o=some x){z:Nat}:∀{s:List SV} {v:List Value},ca n s=true->VE c z s v->VE (c.cut h2 n) z s v
 | [],_,_,g=>by rw[VE]at *;exact g
 | s::ss,v,hc,g=>by rw[VE]at *;rw[ca,qo]at hc;obtain⟨u,r,e,d,a,h1,h2⟩:=g;exact⟨u,r,e,d,a,V.cut R b hc.1 h1,VE.cut R b hc.2 h2⟩
end
theorem CF.cut(R:CF h c)(F:∀o x,h2 o=some x->h o=some x/\o<n/\BW n x=true):CF h2 (c.cut h2 n):=by
 have a:∀o x,h2 o=some x->h o=some x:=λo x e=>(F o x e).1;have H:∀o x b,o<n->(BV (c.cut h2 n) o x b↔BV c o x b):=λo x b T=>by simp[BV,Cx.cut,T]
 refine⟨λo x e=>?_,λi j x y b t k l M=>?_,λb=>?_⟩;obtain⟨t,k,l⟩:=F o x e;have g:=R.obj o x t;cases x with
 | cells cs ty=>
  obtain⟨b,st,arr,el,vs,h1,d,A,u,w⟩:=g;exact⟨b,st,arr,el,vs,by simp[Cx.cut,k,h1],d,A,BP.1 (VL.cut R a l (BP.2 u)),w⟩
 | map es=>
  obtain⟨b,m,f,h1,d,A,S⟩:=g;simp only[BW,YO,qo]at l;refine⟨b,m,f,by simp[Cx.cut,k,h1],d,Ag.of_get A.length λi p q hp J=>?_,S⟩;obtain⟨U,s,u,w⟩:=A.get hp;rw[J]at s;cases s;have:=l p (U1 hp);exact⟨V.cut R a this.1 u,V.cut R a this.2 w⟩
 | iter left last=>
  obtain⟨b,L,m,f,G,h1,d,A,u,w,K,Q⟩:=g;simp only[BW,YO,qo,Option.all_eq_true]at l;refine⟨b,L,m,f,G,by simp[Cx.cut,k,h1],d,A,?_,w,Ag.of_get K.length λi p q hp J=>?_,λp hp=>?_⟩;exact λhb=>u (Pw R a hb);obtain⟨U,s,u,w⟩:=K.get hp;rw[J]at s;cases s;have:=l.1 p (U1 hp);exact⟨V.cut R a this.1 u,V.cut R a this.2 w⟩;obtain⟨e,D,E,g3,I⟩:=Q p hp;have:=l.2 p hp;exact⟨e,D,E,V.cut R a this.1 g3,V.cut R a this.2 I⟩
 | loop r=>
  obtain⟨b,h1,d⟩:=g;exact⟨b,by simp[Cx.cut,k,h1],d⟩
 | list z es=>
  obtain⟨b,R9,arr,e,v,h1,d,A,u,w⟩:=g;refine⟨b,R9,arr,e,v,by simp[Cx.cut,k,h1],d,A,u,?_⟩;rcases w with⟨D,E,g3⟩|⟨B,st,C,k,vs,cap,D,P,E,g3,I,N,g6,g7,g8,O⟩
  exact .inl ⟨D,E,V.cut R a (by rfl) g3⟩;exact .inr ⟨B,st,C,k,vs,cap,D,P,E,g3,I,N,g6,g7,BP.1 (VL.cut R a l (BP.2 g8)),O⟩
 exact R.inj2 i j x y b (a _ _ t) (a _ _ k) ((H i x b (F i x t).2.1).1 l) ((H j y b (F j y k).2.1).1 M);constructor;rintro⟨o,x,t,k,l⟩;exact⟨o,x,t,(H o x b k).2 l⟩;rintro⟨o,x,t,k⟩;have:=(F o x t).2.1;exact⟨o,x,t,this,(H o x b this).1 k⟩
theorem WG:Fr n (c.cut h2 n):=λj a=>by simp[Cx.cut,Nat.not_lt.2 a]
theorem T9{c0:Cx}{n0:Nat}(R:CF h c)(f:∀o x,h2 o=some x->h o=some x)(d:Fr n0 c0)(hn:n0<=n)(E:EH c0 c):EH c0 (c.cut h2 n):=by
 refine⟨λo p e=>?_,E.size,λb hb a=>⟨λg=>(E.keep b hb a).1 (Pw R f g),(E.keep b hb a).2⟩,E.room,E.os,E.out,E.td⟩;have:o<n0:=Nat.lt_of_not_le λhl=>by rw[d o hl]at e;cases e
 simp only[Cx.cut,show o<n by omega,if_true];exact E.ρ o p e
end
def Cx.less(c:Cx)(h:Hp):Cx:={ c with own:=λb=>∃o x,h o=some x/\BV c o x b }
section
variable{c:Cx}{h h2:Hp}
theorem Dd(R:CF h c)(f:∀o x,h2 o=some x->h o=some x):EH c (c.less h2):=
 ⟨λ_ _ e=>e,qa _,λb _ hb=>⟨λ⟨o,x,a,d⟩=>hb ((R.own2 b).2 ⟨o,x,f o x a,d⟩),rfl⟩,λ_=>qa _,rfl,rfl,⟨rfl,qa _⟩⟩
theorem CF.less(R:CF h c)(a:∀o x,h2 o=some x->h o=some x):CF h2 (c.less h2):=
 ⟨λo x e=>(R.obj o x (a o x e)).mono (Dd R a) λ_ _=>rfl,λi j x y b d f g k=>R.inj2 i j x y b (a _ _ d) (a _ _ f) g k,λ_=>Iff.rfl⟩
end
def Fz(h h2:Hp):Nat->SV->SV->Prop
 | 0,v,r=>v=r
 | k + 1, v, r => v = r ∨
  match v,r with
  | _,.junk=>True
  | .sl o off z len full,.i z' es full'=>h2 o=none/\(full'=true->full=true)/\es.length=len/\z'=z/\∃cs xs,h o=some (.cells cs)/\Bz cs off (len*z)=some xs/\
   (∀e∈es,e.B=true/\e.cells.length=z)/\Ag (Fz h h2 k) xs (es.flatMap SV.cells)
  | .ptr o off,.q ds=>h2 o=none/\∃cs,h o=some (.cells cs)/\off<=cs.length/\Ag (Fz h h2 k) (cs.drop off) ds
  | .agg cs,.agg ds=>Ag (Fz h h2 k) cs ds
  | .tup cs,.tup ds=>Ag (Fz h h2 k) cs ds
  | .fn f a b,.fn f' a' b'=>f=f'/\Ag (Fz h h2 k) a a'/\Ag (Fz h h2 k) b b'
  | .q cs,.q ds=>Ag (Fz h h2 k) cs ds
  | .i z es full,.i z' es' full'=>(full'=true->full=true)/\(es=[]\/z'=z)/\Ag (Fz h h2 k) es es'/\∀e∈es',e.B=true
  | .slc o off z len cap,.sl o' off' z' len' full'=>o'=o/\off'=off/\z'=z/\len'=len/\(full'=true->cap=len)
  | _,_=>False
theorem Fz.same{h h2:Hp}:∀{k:Nat} {v:SV},Fz h h2 k v v
 | 0,_=>Eq.refl _
 | _+1,_=>.inl (Eq.refl _)
theorem Ag.trans3{α β γ:Type}{R:α->β->Prop}{S:α->γ->Prop}{T:γ->β->Prop}(c:∀a b g,R a b->S a g->T g b):∀{aS:List α} {bs:List β} {d:List γ},Ag R aS bs->Ag S aS d->Ag T d bs
 | [],[],[],_,_=>trivial
 | _::_,_::_,_::_,h,g=>⟨c _ _ _ h.1 g.1,Ag.trans3 c h.2 g.2⟩
 | [],_::_,_,h,_=>h.elim
 | _::_,[],_,h,_=>h.elim
 | [],[],_::_,_,g=>g.elim
 | _::_,_::_,[],_,g=>g.elim
theorem WE{c:Cx}{z:Nat}:∀{es:List SV} {vs:List Value},(∀e∈es,e.B=true/\e.cells.length=z)->Ag (V c) (es.flatMap SV.cells) vs->(∀x∈vs,x.oneCell'=true)->VE c z es vs
 | [],vs,_,h,_=>by rw[VE];exact h.nil_left
 | e :: es, vs, he, h, h1 => by
  rw[VE];simp only[QZ]at h;have hl:=h.length;obtain⟨j,g⟩:=he e (by simp);have i:Ag (V c) e.cells (vs.take z):=by have:=h.take z;rwa [List.take_left' g]at this
  have p:Ag (V c) (es.flatMap SV.cells) (vs.drop z):=by have:=h.drop z;rwa [List.drop_left' g]at this
  have a:∀x∈vs.take z,x.oneCell'=true:=λx f=>h1 x (qS f);have n:(vs.take z).length=z:=by rw[<-i.length];exact g
  obtain⟨u,k,l,m⟩:∃u:Value,u.cells.toList=vs.take z/\u.cells.size=z/\V c e u:=by
   by_cases b:∃cs,e=.agg cs;obtain⟨cs,rfl⟩:=b;exact⟨.agg (vs.take z).toArray,by simp[Value.cells],by simp only[Value.cells,List.size_toArray];exact n,by rw[V];exact⟨_,rfl,BP.2 i,a⟩⟩;have hc:e.cells=[e]:=by cases e<;>simp[SV.cells]at b ⊢
   rw[hc]at i;obtain⟨u,o,r⟩:=i.single;have q:=a u (by rw[o];simp);have d:u.cells = #[u]:=by cases u<;>simp[Value.oneCell']at q<;>rfl
   rw[hc]at g;exact⟨u,by rw[d,o],by rw[d];simpa using g,r⟩
  exact⟨u,vs.drop z,by rw[k,qM],l,j,m,WE (λx f=>he x (by simp[f])) p λx f=>h1 x (JJ f)⟩
theorem Fz.sound{c:Cx}{h h2:Hp}(R:CF h c)(y:∀o x,h2 o=some x->h o=some x):∀(k:Nat) {v r:SV} {u:Value},Fz h h2 k v r->V c v u->V (c.less h2) r u
 | 0,v,r,u,f,j=>by cases f;exact j.mono (Dd R y)
 | k + 1, v, r, u, f, j => by
  have ih:∀{v r:SV} {u:Value},Fz h h2 k v r->V c v u->V (c.less h2) r u:=λf j=>Fz.sound R y k f j;have m:∀{aS bs:List SV} {us:List Value},Ag (Fz h h2 k) aS bs->Ag (V c) aS us->Ag (V (c.less h2)) bs us:=λf j=>Ag.trans3 (R:=V c) (S:=Fz h h2 k) (T:=V (c.less h2)) (λa b g h1 h2=>ih h2 h1) j f;have p:∀o b st x,h2 o=none->h o=some x->c.ρ o=some (b,st)->¬(c.less h2).own b:=λo b st x hn w hρ=>by
   rintro⟨o',x',F,X⟩;have:=R.inj2 o o' x x' b w (y _ _ F) (.inl ⟨st,hρ⟩) X;subst this;rw[hn]at F;cases F
  rcases f with rfl|f;exact j.mono (Dd R y);split at f;simp[V];rename_i o off z len full E es full';obtain⟨hn,s,d,rfl,cs,xs,w,O,I,l⟩:=f;rw[V]at j;obtain⟨b,st,cap,hρ,rfl,B,t,_⟩:=j;obtain⟨W,P,vs,hρ',hc,h1,n⟩:=(R.obj _ _ w).cell;rw[hρ]at hρ';cases hρ';obtain⟨L,rfl⟩:=FH O;have A:∀x∈(vs.drop off).take (len*E),x.oneCell'=true:=λx q=>h1 x (JJ (qS q));have J:=m l ((hc.drop off).take (len*E));rw[V];refine .inr ⟨⟨b,st+off,none⟩,cap,(vs.drop off).take (len*E),by rw[d],by rw[d];exact B,λf=>by rw[d];exact t (s f),⟨λ_=>rfl,λ_=>p o b st _ hn w hρ,λi x q=>?_,A⟩,WE I J A⟩;rw[JY]at q;split at q;rw[Km]at q;simp only[qu];exact n _ _ q;cases q;rename_i o off ds;obtain⟨hn,cs,w,L,l⟩:=f;rw[V]at j;obtain⟨b,st,hρ,rfl⟩:=j;obtain⟨W,P,vs,hρ',hc,h1,n⟩:=(R.obj _ _ w).cell;rw[hρ]at hρ';cases hρ';rw[V];refine⟨⟨b,st+off,none⟩,vs.drop off,rfl,⟨λ_=>rfl,λ_=>p o b st _ hn w hρ,λi x q=>?_,λx q=>h1 x (JJ q)⟩,BP.2 (m l (hc.drop off)),rfl⟩;rw[Km]at q;simp only[qu];exact n _ _ q;rw[V]at j ⊢;obtain⟨vs,e,hl,h1⟩:=j;exact⟨vs,e,BP.2 (m f (BP.1 hl)),h1⟩;rw[V]at j ⊢;obtain⟨vs,e,hl⟩:=j;exact⟨vs,e,BP.2 (m f (BP.1 hl))⟩;obtain⟨rfl,h1,h2⟩:=f;rw[V]at j ⊢;obtain⟨xs,ys,e,hl,K⟩:=j;exact⟨xs,ys,e,BP.2 (m h1 (BP.1 hl)),BP.2 (m h2 (BP.1 K))⟩;rw[V]at j ⊢;obtain⟨a,vs,e,N,hl,M⟩:=j;exact⟨a,vs,e,N.mono (Dd R y),BP.2 (m f (BP.1 hl)),M⟩;rename_i z es full E es' full';obtain⟨s,hz,l,C⟩:=f;rw[V]at j ⊢;have d:=l.length;rcases j with⟨rfl,e⟩|⟨a,cap,vs,e,h1,h2,G,H⟩
  exact .inl ⟨by simpa using d.symm,e⟩;obtain⟨us,Q,Y,g3,Z⟩:=J1.1 H;refine .inr ⟨a,cap,vs,by rw[e,d],by omega,λf=>by rw[h2 (s f),d],G.mono (Dd R y),J1.2 ⟨us,m l Q,?_,C,Z⟩⟩;rcases hz with rfl|rfl;intro u U;rw[Q.nil_left]at U;cases U;exact Y;obtain⟨rfl,rfl,rfl,rfl,s⟩:=f;have D:=j.mono (Dd R y);simp only[V]at D ⊢;obtain⟨b,st,h1,h2,G,H⟩:=D;exact⟨b,st,_,h1,h2,G,s,H⟩;exact f.elim
def Ol(P:Program)(sa:SA)(h:Hp):List ResultVar->Option (List SV)
 | []=>some []
 | .tmp t::r=>(Ol P sa h r).map (Ao sa t :: ·)
 | .cell a t::r=>match K7 P h t (Ao sa a),Ol P sa h r with|some v,some vs=>some (v::vs)|_,_=>none
def LB:List SV->SV
 | [v]=>v
 | vs=>.tup vs
def FA:Nat->List SV->SA
 | _,[]=>[]
 | i,a::aS=>(i,a)::FA (i+1) aS
def CO(n:Nat)(h':Hp)(n':Nat)(v:SV)(K:SV->Hp->Nat->Prop):Prop:=
 K v h' n'\/∃k r h2,Fz h' h2 k v r/\cc n r=true/\(∀o x,h2 o=some x->h' o=some x/\o<n/\BW n x=true)/\K r h2 n
def Om(P:Program)(fn:Func)(n:Nat)(K:SV->Hp->Nat->Prop):Cu:=λe sa' h' n'=>
 (e=.normal\/e=.ret)/\∃rs,Ol P sa' h' fn.results.toList=some rs/\CO n h' n' (LB rs) K
section
variable{P:Program}
theorem PQ:∀(args:List SV)(i t:Nat),Ao (FA i args) t=if i<=t then(args[t-i]?).getD .junk else .junk
 | [],i,t=>by simp[FA,Ao]
 | a::aS,i,t=>by
  simp only[FA,Ao];by_cases h:i=t;subst h;simp;rw[if_neg h,PQ aS (i+1) t];by_cases h2:i<=t;rw[if_pos h2,if_pos (by omega),show t-i=(t-(i+1))+1 by omega];simp;rw[if_neg h2,if_neg (by omega)]
theorem Tu{E:CC}{N:Nat}{c:Cx}{args:List SV}{vs:List Value}(d:E.base<=c.w.heap.size)(h:Ag (V c) args vs)(hl:args.length<=N):
 FR E N (FA 0 args) c { tmps:=vs.toArray++Array.replicate (N-vs.toArray.size) undef,defers:=[] }:=by
 have hlen:=h.length;refine⟨by simp;omega,⟨d,λ_=>rfl,by simp,by simp⟩,λt=>?_⟩;rw[PQ,if_pos (qg _),vc];cases e:args[t]? with
 | none=>simp[V]
 | some s=>
  obtain⟨u,b,f⟩:=h.get e;have a:=(qh.1 b).1;simp only[vR,Ye];rw[Uo (by simpa using a)];simpa[b]using f
def QJ(tmps:Array Value):ResultVar->Sem Value
 | .tmp t=>pure (tmps.getD t undef)
 | .cell x t=>do loadVar t (<-asAddr (tmps.getD x undef))
theorem I0{E:CC}{N:Nat}{sa:SA}{c:Cx}{h:Hp}{a:Act}(R:CF h c)(A:FR E N sa c a):∀(l:List ResultVar)(rs:List SV),Ol P sa h l=some rs->
 ∃us,(l.mapM (QJ a.tmps)).run P c.w=.ok us c.w/\Ag (V c) rs us
 | [],rs,b=>by
  simp only[Ol,qk]at b;subst b;exact⟨[],by simp,trivial⟩
 | .tmp t::l,rs,b=>by
  simp only[Ol,qN]at b;obtain⟨f,h1,rfl⟩:=b;obtain⟨us,d,e⟩:=I0 R A l f h1;exact⟨a.tmps.getD t undef::us,by simp only[List.mapM_cons,QJ,Sem.run_bind,Sem.run_pure,Result.andThen_ok,d],A.val t,e⟩
 | .cell x t::l,rs,hr0=>by
  simp only[Ol]at hr0;split at hr0<;>try cases hr0
  rename_i v vs h1 h2;obtain⟨us,d,e⟩:=I0 R A l vs h2;obtain⟨ad,r,g,b,i⟩:=PP R h1 (A.val x);exact⟨r::us,by simp only[List.mapM_cons,QJ,Sem.run_bind,Sem.run_pure,Result.andThen_ok,g,asAddr,b,d],i,e⟩
theorem W9{c:Cx}{rs:List SV}{us:List Value}(h:Ag (V c) rs us):V c (LB rs) (if hs:us.toArray.size=1 then us.toArray[0]else .tuple us.toArray):=by
 match rs,us,h with
 | [],[],_=>simp[LB,V,VL]
 | [r],[u],h=>simpa[LB]using h.1
 | r::r2::rs,u::u2::us,h=>
  rw[dif_neg (by simp)];simp only[LB];rw[V];exact⟨_,rfl,BP.2 h⟩
 | [_],[],h=>exact h.elim
 | [],_::_,h=>exact h.elim
 | [_],_::_::_,h=>exact h.2.elim
 | _::_::_,[],h=>exact h.elim
 | _::_::_,[_],h=>exact h.2.elim
def CC.call(E:CC)(m:Bool)(B:Nat):CC:={ ro:=none,mks:=m,base:=B,inv:=E.inv,ext:=E.ext }
theorem Ro{E':CC}{fn:Func}{c a:Cx}{a':Act}{h':Hp}{n n':Nat}{h:SA}{K:SV->Hp->Nat->Prop}{rs:List SV}(F:Fr n c)
 (s:Ol P h h' fn.results.toList=some rs) (g:CO n h' n' (LB rs) K) (f:CF h' a) (B:Fr n' a) (A:FR E' fn.ntmps h a a') (X:GB n c n' a):
 ∃u v h2 n2 c2,(results fn a'.tmps).run P a.w=.ok u a.w/\K v h2 n2/\c2.w=a.w/\V c2 v u/\CF h2 c2/\Fr n2 c2/\GB n c n2 c2:=by
 obtain⟨us,C,D⟩:=I0 (P:=P) f A _ rs s;have b:(results fn a'.tmps).run P a.w=.ok (if i:us.toArray.size=1 then us.toArray[0]else .tuple us.toArray) a.w:=by
  have e:results fn a'.tmps=(do let vs <-fn.results.mapM (QJ a'.tmps);pure (if i:vs.size=1 then vs[0]else .tuple vs)):=by
   unfold results;congr 2
  rw[e,Array.mapM_eq_mapM_toList];simp only[Sem.run_bind,Sem.run_map,C,Result.andThen_ok,Sem.run_pure]
 have z:=W9 D;rcases g with q|⟨k,r,h2,p,m,i,q⟩
 exact⟨_,_,h',n',a,b,q,rfl,z,f,B,X⟩;have d:∀o x,h2 o=some x->h' o=some x:=λo x e=>(i o x e).1;have l:=f.less d;have t:V ((a.less h2).cut h2 n) r _:=(p.sound f d k z).cut l (λ_ _ e=>e) m;refine⟨_,r,h2,n,(a.less h2).cut h2 n,b,q,rfl,t,l.cut (λo x e=>⟨e,(i o x e).2⟩),WG,⟨T9 l (λ_ _ e=>e) F (qa _) (X.ext.trans (Dd f d)),qa _,λj y=>?_⟩⟩;simp only[Cx.cut,y,if_true];exact X.same j y
theorem ME{c:Cx}{n:Nat}{args:List SV}{vs:List Value}(F:Fr n c)(A:Ag (V c) args vs):∀a∈args,cc n a=true:=λa b=>by
 obtain⟨i,hi⟩:=List.getElem?_of_mem b;obtain⟨u,_,d⟩:=A.get hi;exact DI F d
theorem O0{E:CC}{f:FuncId}{fn:Func}{code:Code}{args:List SV}{h:Hp}{n:Nat}{K:SV->Hp->Nat->Prop}(m:P.funcs[f]? = some fn)(hb:fn.body=some code)
 (hn:(fn.name != "runtime.NumGoroutine")=true) (z:Code.dok fn.ntmps code=true) (hl:args.length<=fn.ntmps)
 (H:(∀a∈args,cc n a=true)->(∀o x,h o=some x->o<n/\BW n x=true)->Ic (E.call false 0) P fn.ntmps code (Om P fn n K) (FA 0 args) h n):Ap E P f args h n K:=by
 refine⟨by simp[Ok,m,hb];simpa using hn,λc vs I R F A=>?_⟩;refine calls_of_wp m hb (wp_mono (wpIn_wide.1 (H (ME F A) (λo x e=>H9 F (R.obj o x e)) z c _ I R F (Tu (qg _) A hl))) ?_);rintro e a' w' ⟨sa',h',n',i,⟨B,rs,j,d⟩,rfl,s,q,l,X⟩;obtain⟨u,v,h2,D,y,g,C,hw,k,t,r,p⟩:=Ro F j d s q l X;have b:a'.defers=[]/\∃u,(results fn a'.tmps).run P i.w=.ok u i.w/\∃u' v h' n' c'',Ending.returned u=.returned u'/\K v h' n'/\c''.w=i.w/\V c'' v u'/\CF h' c''/\Fr n' c''/\GB n c n' c'':=
  ⟨l.defers.none rfl,_,g,_,v,h2,D,y,rfl,C,hw,k,t,r,p⟩
 rcases B with rfl|rfl<;>exact b
def Cx.shut(c:Cx)(D:Nat):Cx:={ c with w:=c.w.putObj D (.deferred none) }
theorem Hy{c:Cx}{D b:Nat}(h:b≠D):(c.shut D).w.heap[b]? = c.w.heap[b]?:=World.putObj_heap_other h
theorem Ly{c:Cx}{D:Nat}(a:c.w.heap[D]? = some (.deferred (some []))):Qm c (c.shut D):=by
 refine⟨λ_ _ e=>e,λb d ⟨x,hb,f⟩=>⟨d,?_⟩,λb=>?_⟩;have:b≠D:=by rintro rfl;rw[a]at hb;cases hb;exact f _ rfl
 exact Hy this;by_cases e:b=D;subst e;simp[rm,a];simp[rm,Hy e]
theorem XP{h:Hp}{c:Cx}{D:Nat}(d:c.w.heap[D]? = some (.deferred (some [])))(R:CF h c):CF h (c.shut D):=by
 refine⟨λo x e=>?_,R.inj2,R.own2⟩;refine(R.obj o x e).mono0 (Ly d) λb k=>Hy ?_;rintro rfl;have g:=R.obj o x e;rcases k with⟨st,hb⟩|⟨hl,hb⟩
 rotate_left
 cases x with
 | list z es=>
  obtain⟨f,R9,arr,el,v,h1,h2,h3,h4,⟨_,j,_⟩|⟨B,st,arr2,e2,vs,cap,_,_,j,l,_⟩⟩:=g;rw[hb]at j;cases j;rw[hb]at j;cases j;rw[d]at l;cases l
 | cells cs ty=>cases hl
 | map es=>cases hl
 | loop r=>cases hl
 | iter left last=>cases hl
 cases x with
 | cells cs ty=>obtain⟨f,st',arr,el,vs,h1,h2,_⟩:=g;rw[hb]at h1;cases h1;rw[d]at h2;cases h2
 | map es=>obtain⟨f,i,a,h1,h2,_⟩:=g;rw[hb]at h1;cases h1;rw[d]at h2;cases h2
 | loop r=>obtain⟨f,h1,h2⟩:=g;rw[hb]at h1;cases h1;rw[d]at h2;cases h2
 | iter left last=>obtain⟨f,bm,i,a,seen,h1,h2,_⟩:=g;rw[hb]at h1;cases h1;rw[d]at h2;cases h2
 | list z es=>obtain⟨f,R9,arr,el,v,h1,h2,_⟩:=g;rw[hb]at h1;cases h1;rw[d]at h2;cases h2
theorem Tc{c0 c:Cx}{D:Nat}(X:EH c0 c)(h:c0.w.heap.size<=D)(d:c.w.heap[D]? = some (.deferred (some []))):EH c0 (c.shut D):=by
 refine⟨X.ρ,by simpa[Cx.shut]using X.size,λb hb a=>⟨(X.keep b hb a).1,?_⟩,λb=>qI (X.room b) ((Ly d).room b),X.os,X.out,X.td⟩;rw[Hy (by omega)];exact(X.keep b hb a).2
theorem K6{fn:Func}{E':CC}{c:Cx}{tmps:Array Value}{R:Ending->World->Prop}(B:c.w.heap.size<=E'.base){n n':Nat}{h':Hp}{j:SA}{K:SV->Hp->Nat->Prop}{rs:List SV}(F:Fr n c)
 (g:Ol P j h' fn.results.toList=some rs) (b:CO n h' n' (LB rs) K)
 (q:∀u v h2 i e,K v h2 i->V e v u->CF h2 e->Fr i e->GB n c i e->R (.returned u) e.w):
 ∀(f:List Deferred)(a:Cx),(∀d∈f,∃D,E'.base<=D/\d=Wx D/\a.w.heap[D]? = some (.deferred (some []))/\¬a.own D)->f.Nodup->CF h' a->Fr n' a->tmps.size=fn.ntmps->(∀t,V a (Ao j t) (tmps.getD t undef))->GB n c n' a->LeavesInM Fence.wide 0 P fn tmps R f .returning a.w
 | [],a,_,_,R',F',hs,hv,X=>by
  obtain⟨u,v,h2,i,e,h,C,hw,m,y,x,s⟩:=Ro (E':=CC.plain) (a':={ tmps:=tmps,defers:=[] }) F g b R' F' ⟨hs,⟨qg _,λ_=>rfl,by simp,by simp⟩,hv⟩ X;exact⟨u,h,hw▸q u v h2 i e C m y x s⟩
 | d::f,a,hm,hnd,R',F',hs,hv,X=>by
  obtain⟨D,h1,l,k,h4⟩:=hm d (by simp);subst l;refine⟨by simp,.inl ⟨D,(a.shut D).w,rfl,run_takeDeferred k,?_⟩⟩;refine K6 B F g b q f (a.shut D) (λd r=>?_) (vd.1 hnd).2 (XP k R') F' hs (λt=>wh (Ly k) (hv t)) ⟨Tc X.ext (by omega) k,X.le,X.same⟩;obtain⟨o,z,p,g3,A⟩:=hm d (by simp[r]);have:o≠D:=by rintro rfl;exact(vd.1 hnd).1 (p▸r)
  exact⟨o,z,p,by rw[Hy this];exact g3,A⟩
theorem NF{E:CC}{f:FuncId}{fn:Func}{code:Code}{args:List SV}{h:Hp}{n:Nat}{K:SV->Hp->Nat->Prop}(k:P.funcs[f]? = some fn)(hb:fn.body=some code)
 (hn:(fn.name != "runtime.NumGoroutine")=true) (t:Code.dok fn.ntmps code=true) (hl:args.length<=fn.ntmps)
 (H:(∀a∈args,cc n a=true)->(∀o x,h o=some x->o<n/\BW n x=true)->∀B,Ic (E.call true B) P fn.ntmps code (Om P fn n K) (FA 0 args) h n):Ap E P f args h n K:=by
 refine⟨by simp[Ok,k,hb];simpa using hn,λc vs I R F A=>?_⟩;refine(callsIn_wide (n:=0)).1 (callsIn_of_wp_marks k hb trivial (wpIn_mono (H (ME F A) (λo x e=>H9 F (R.obj o x e)) c.w.heap.size t c _ I R F (Tu (qa _) A hl)) ?_));rintro e a' w' ⟨sa',h',n',b,⟨y,rs,i,d⟩,rfl,q,m,g,X⟩;have:=K6 (P:=P) (E':=E.call true c.w.heap.size) (R:=λe w'=>∃u v h' n' b,e=.returned u/\K v h' n'/\b.w=w'/\V b v u/\CF h' b/\Fr n' b/\GB n c n' b) (qa _) F i d
  (λu v h2 C s z j r p l=>⟨u,v,h2,C,s,rfl,z,rfl,j,r,p,l⟩) a'.defers b g.defers.ok g.defers.nodup q m g.size g.val X
 rcases y with rfl|rfl<;>exact this
end
section plain
variable{α:Type}
def Vn(f:Nat->α)(p:Nat×α):Nat->α:=λk=>if k=p.1 then p.2 else f k
def Ca(f:Nat->α)(w:List (Nat×α)):Nat->α:=w.foldl Vn f
def Aq(w:List (Nat×α)):List Nat:=w.map (·.1)
theorem G2{w:List (Nat×α)}{k:Nat}:∀{f:Nat->α},k∉Aq w->Ca f w k=f k:=by
 induction w with
 | nil=>intro f _;rfl
 | cons p w ih=>
  intro f a;simp only[Aq,qr,qt,not_or]at a;show Ca (Vn f p) w k=f k;rw[ih (by simpa[Aq]using a.2)];simp[Vn,a.1]
theorem NM{w:List (Nat×α)}{k:Nat}:∀{f g:Nat->α},f k=g k->Ca f w k=Ca g w k:=by
 induction w with
 | nil=>intro f g h;exact h
 | cons p w ih=>
  intro f g h;exact ih (f:=Vn f p) (g:=Vn g p) (by simp only[Vn];rw[h])
theorem Xz{w:List (Nat×α)}{k:Nat}:∀{f g:Nat->α},k∈Aq w->Ca f w k=Ca g w k:=by
 induction w with
 | nil=>intro f g h;simp[Aq]at h
 | cons p w ih=>
  intro f g h;by_cases a:k∈Aq w;exact ih (f:=Vn f p) (g:=Vn g p) a;have:k=p.1:=by simp only[Aq,qr,qt]at h;rcases h with h|h;exact h;exact absurd (by simpa[Aq]using h) a
  show Ca (Vn f p) w k=Ca (Vn g p) w k;rw[G2 a,G2 a];simp[Vn,this]
theorem Ur{w v:List (Nat×α)}(a:∀k,k∈Aq w->k∉Aq v)(f:Nat->α)(k:Nat):Ca (Ca f w) v k=Ca (Ca f v) w k:=by
 by_cases h1:k∈Aq w;rw[G2 (a k h1)];exact Xz h1;rw[G2 h1 (f:=Ca f v)];exact NM (G2 h1)
def E4:List (List (Nat×α))->(Nat->Bool)->Nat->(Nat->α)->(Nat->α)
 | [],_,_,f=>f
 | w::l,D,i,f=>E4 l D (i+1) (if D i then Ca f w else f)
theorem Lu{D:Nat->Bool}{k:Nat}:∀{l:List (List (Nat×α))} {i:Nat} {f g:Nat->α},f k=g k->E4 l D i f k=E4 l D i g k
 | [],_,_,_,h=>h
 | w::l,i,f,g,h=>by
  simp only[E4];refine Lu ?_;split;exact NM h;exact h
theorem Uf{D:Nat->Bool}{k:Nat}:∀{l:List (List (Nat×α))} {i:Nat} {f:Nat->α},(∀q w,l[q]? = some w->D (i+q)=true->k∉Aq w)->E4 l D i f k=f k
 | [],_,_,_=>rfl
 | w::l,i,f,h=>by
  simp only[E4];rw[Uf λq v b a=>h (q+1) v (by simpa using b) (by rw[show i+(q+1)=i+1+q by omega];exact a)];split;rename_i a;exact G2 (h 0 w rfl a);rfl
theorem Ue{D:Nat->Bool}{v:List (Nat×α)}:∀{l:List (List (Nat×α))} {i:Nat} {f:Nat->α},(∀q w,l[q]? = some w->D (i+q)=true->∀k,k∈Aq v->k∉Aq w)->
 ∀k,E4 l D i (Ca f v) k=Ca (E4 l D i f) v k
 | [],_,_,_,_=>rfl
 | w::l,i,f,h,k=>by
  simp only[E4];have b:=λg=>Ue (D:=D) (v:=v) (l:=l) (i:=i+1) (f:=g) λq w c a=>h (q+1) w (by simpa using c) (by rw[show i+(q+1)=i+1+q by omega];exact a);by_cases a:D i=true;rw[if_pos a,if_pos a,<-b];exact Lu (Ur (h 0 w rfl a) f k);rw[if_neg a,if_neg a,b]
theorem KW{D:Nat->Bool}{p:Nat}{v:List (Nat×α)}(hp:D p=false):∀{l:List (List (Nat×α))} {i:Nat} {f:Nat->α},i<=p->l[p-i]? = some v->
 (∀q w,p<q->i<=q->l[q-i]? = some w->D q=true->∀k,k∈Aq v->k∉Aq w)->∀k,E4 l (λq=>D q||q==p) i f k=Ca (E4 l D i f) v k
 | [],_,_,_,h,_,_=>by simp at h
 | w::l,i,f,hi,hv,h,k=>by
  simp only[E4];by_cases e:i=p;subst e;simp only[vU,vw,qk]at hv;subst hv;have c:∀g:Nat->α,∀k,E4 l (λq=>D q||q==i) (i+1) g k=E4 l D (i+1) g k:=by
   intro g;have a:∀(l:List (List (Nat×α)))(j:Nat)(g:Nat->α),i<j->∀k,E4 l (λq=>D q||q==i) j g k=E4 l D j g k:=by
    intro l
    induction l with
    | nil=>intros;rfl
    | cons u l ih=>
     intro j g hj k;simp only[E4];have:(j==i)=false:=by simp;omega
     simp only[this,Bool.or_false];exact ih (j+1) _ (by omega) k
   exact a l (i+1) g (by omega)
  simp only[beq_self_eq_true,Bool.or_true,if_true,hp,qn,if_false];rw[c];exact Ue (λq u r n k o=>h (i+1+q) u (by omega) (by omega) (by rw[show i+1+q-i=q+1 by omega];simpa using r) n k o) k;have b:(i==p)=false:=by simp;exact e
  simp only[b,Bool.or_false];refine KW hp (by omega) ?_ ?_ k;rw[show p-i=(p-(i+1))+1 by omega]at hv;simpa using hv;intro q u h1 h2 d m;exact h q u h1 (by omega) (by rw[show q-i=(q-(i+1))+1 by omega];simpa using d) m
theorem Hx{D E:Nat->Bool}{k:Nat}:∀{l:List (List (Nat×α))} {i:Nat} {f:Nat->α},(∀q w,i<=q->l[q-i]? = some w->D q≠E q->k∉Aq w)->E4 l D i f k=E4 l E i f k
 | [],_,_,_=>rfl
 | w::l,i,f,h=>by
  simp only[E4];have c:=λg=>Hx (D:=D) (E:=E) (k:=k) (l:=l) (i:=i+1) (f:=g) λq u hq d a=>h q u (by omega) (by rw[show q-i=(q-(i+1))+1 by omega];simpa using d) a;by_cases e:D i=E i;rw[e];exact c _;have hw:=h i w (qa _) (by simp) e;rw[c];refine Lu ?_;have a1:∀b:Bool,(if b=true then Ca f w else f) k=f k:=λb=>by cases b;rfl;exact G2 hw
  rw[a1,a1]
end plain
theorem VU{P:Program}{ev w:Operand->SV}{h h':Hp}{k:Nat}{G:Op}(g:∀x∈G.operands,ev x=w x)(I:∀j∈jz ev G,h j=h' j):DB P ev h k G=DB P w h' k G:=by
 have B:∀s:SV,(∀j∈s.ids,h j=h' j)->flat h s=flat h' s:=λs D=>by
  cases s<;>simp only[flat];rw[D _ (by simp[SV.ids])]
 have F:∀(t:TypeId)(s:SV),(∀j∈s.ids,h j=h' j)->K7 P h t s=K7 P h' t s:=λt s D=>by
  cases s<;>simp only[K7];rw[D _ (by simp[SV.ids])]
 have J:∀s:SV,(∀j∈s.ids,h j=h' j)->MO h s=MO h' s:=λs D=>by
  cases s<;>simp only[MO];rw[D _ (by simp[SV.ids])]
 cases G with
 | move x|assign x=>simp only[DB];rw[g x (by simp[Op.operands])]
 | pick a b d=>simp only[DB];rw[g a (by simp[Op.operands]),g b (by simp[Op.operands]),g d (by simp[Op.operands])]
 | alloc e=>rfl
 | box e x=>simp only[DB];rw[g x (by simp[Op.operands])]
 | build t ps=>
  have:(ps.toList.map λp=>(p.1,ev p.2))=ps.toList.map λp=>(p.1,w p.2):=qL λp hp=>by rw[g p.2 (PV hp)]
  simp only[DB,this]
 | buildSlice t l ps=>
  have:(ps.toList.map λp=>(p.1,ev p.2))=ps.toList.map λp=>(p.1,w p.2):=qL λp hp=>by rw[g p.2 (Iv hp)]
  simp only[DB,this]
 | load t a=>
  simp only[DB];rw[F t _ (λj C=>I j (by simpa only[jz]using C)),g a (by simp[Op.operands])]
 | store t a x=>
  simp only[DB];have h1:∀j∈(ev a).ids,h j=h' j:=λj C=>I j (by simpa only[jz]using C);rw[<-g a (by simp[Op.operands]),<-g x (by simp[Op.operands])];cases L:ev a<;>simp only[QU];rw[L]at h1;rw[h1 _ (by simp[SV.ids])]
 | nilCheck x=>simp only[DB];rw[g x (by simp[Op.operands])]
 | binOp G t x y t2=>simp only[DB];rw[g x (by simp[Op.operands]),g y (by simp[Op.operands])]
 | unOp G t x=>simp only[DB];rw[g x (by simp[Op.operands])]
 | convert a b x=>simp only[DB];rw[g x (by simp[Op.operands])]
 | makeFunc f a b=>
  have H:a.toList.map ev=a.toList.map w:=qL λx E=>g x (by simp[Op.operands]at E ⊢;exact .inl E);have K:b.toList.map ev=b.toList.map w:=qL λx E=>g x (by simp[Op.operands]at E ⊢;exact .inr E);simp only[DB,H,K]
 | makeMap t r=>rfl
 | makeSlice t l c=>simp only[DB]
 | slice t x lo hi mx=>
  have H:lo.map ev=lo.map w:=by cases lo with|none=>rfl|some y=>simp[g y (by simp[Op.operands])]
  have K:hi.map ev=hi.map w:=by cases hi with|none=>rfl|some y=>simp[g y (by simp[Op.operands])]
  have M:mx.map ev=mx.map w:=by cases mx with|none=>rfl|some y=>simp[g y (by simp[Op.operands])]
  simp only[DB,H,K,M];rw[g x (by simp[Op.operands])]
 | fieldAddr t x i=>simp only[DB];rw[g x (by simp[Op.operands])]
 | field t x i=>simp only[DB]
 | indexAddr t x i=>simp only[DB];rw[g x (by simp[Op.operands]),g i (by simp[Op.operands])]
 | index t x i=>simp only[DB];rw[g x (by simp[Op.operands]),g i (by simp[Op.operands])]
 | lookup t m y ok=>
  simp only[DB];rw[J _ (λj C=>I j (by simpa only[jz]using C)),g m (by simp[Op.operands]),g y (by simp[Op.operands])]
 | mapUpdate t m y x =>
  simp only[DB];have h1:∀j∈(ev m).ids,h j=h' j:=λj C=>I j (by simpa only[jz]using C);rw[<-g m (by simp[Op.operands]),<-g y (by simp[Op.operands]),<-g x (by simp[Op.operands])];cases Mk P t with
  | none=>rfl
  | some q=>
   obtain⟨kt,ee⟩:=q;cases L:ev m<;>try rfl
   rw[L]at h1;simp only;rw[h1 _ (by simp[SV.ids])]
 | extract x i=>simp only[DB];rw[g x (by simp[Op.operands])]
 | call cl =>
  obtain⟨callee,args,Q⟩:=cl;cases callee with
  | value f=>rfl
  | invoke r m=>rfl
  | builtin b =>
   have H:args.toList.map ev=args.toList.map w:=qL λx E=>g x (by simp[Op.operands,Call.operands];simpa using E);simp only[DB];rw[<-H];have u:∀s∈args.toList.map ev,∀j∈(match b,s with|.len,.sl ..=>[]|_,v=>v.ids),h j=h' j:=λs D j C=>by
    simp only[ql]at D;obtain⟨x,E,rfl⟩:=D;exact I j (by simp only[jz,QD];exact⟨x,E,C⟩)
   generalize args.toList.map ev=A at u;by_cases hb:b=.len
   . subst hb;generalize hts:Q.toList=T
     match T,A,u with
     | [t],[x],u=>
      simp only[Al];cases x<;>try rfl
      rename_i o;simp only;rw[u (.map o) (by simp) o (by simp[SV.ids])]
     | [],_,_=>rfl
     | _::_::_,_,_=>rfl
     | [_],[],_=>rfl
     | [_],_::_::_,_=>rfl
   have n:∀s∈A,∀j∈s.ids,h j=h' j:=λs D j C=>u s D j (by cases b<;>first|exact absurd rfl hb|(cases s<;>exact C));unfold Al;split
   . rename_i t x _;have h1:=n x (by simp);cases x<;>try rfl
     simp only;rw[h1 _ (by simp[SV.ids])]
   rfl;rename_i t t2 s x _;have h1:=B s (n s (by simp));have h2:=B x (n x (by simp));simp only[Ec,h2];cases s with
   | i z es full=>cases full<;>rfl
   | sl o off z len full=>
    have N:h o=h' o:=n (.sl o off z len full) (by simp) o (by simp[SV.ids]);have O:∀e,Hz h e o off=Hz h' e o off:=λe=>by unfold Hz;rw[N]
    simp only[h1,O]
   | _=>rfl
   . rename_i t t2 d x _;have h1:=n d (by simp);have h2:=B x (n x (by simp));simp only[Q2,h2];cases d<;>try rfl
     simp only;rw[h1 _ (by simp[SV.ids])]
   . rename_i t d _;have h1:=n d (by simp);simp only[NS];cases d<;>try rfl
     simp only;rw[h1 _ (by simp[SV.ids])]
   rfl;rfl;rename_i t t2 o y _;have h1:=n (.map o) (by simp);rw[h1 _ (by simp[SV.ids])];rfl
 | _=>rfl
def P2(f:Nat->SV):Operand->SV
 | .tmp t=>f t
 | .const v=>ofValue v
 | .global _=>.junk
 | .func g=>.fn (.func g) [] []
theorem S4(sa:SA):Hc sa=P2 (Ao sa):=by funext x;cases x<;>rfl
def GS(ops:Array Oper)(f:Nat->SV)(o:Oper):Option Bool:=
 match o.guard with
 | none=>some true
 | some (j,want)=>
  match(ops[j]?).bind (·.dst)with
  | some d=>match f d with|.bool b=>some (b==want)|.tup []=>some false|_=>none
  | none=>none
theorem JV(ops:Array Oper)(sa:SA)(o:Oper):Dv ops sa o=GS ops (Ao sa) o:=rfl
structure Vf(E:CC)(N:Nat)(f:Nat->SV)(c:Cx)(a:Act):Prop where
 size:a.tmps.size=N
 defers:Qn E c a.defers
 val:∀t,V c (f t) (a.tmps.getD t undef)
structure Cf where
 dst:Option Tmp
 val:SV
 foot:List Nat:=[]
 wr:List (Nat×Option Bb):=[]
 new:List (Nat×Option Bb):=[]
def Cf.tw(r:Cf):List (Nat×SV):=r.dst.toList.map λd=>(d,r.val)
def Cf.hw(r:Cf):List (Nat×Option Bb):=r.wr++r.new
def LV(E:CC)(P:Program)(N:Nat)(o:Oper)(f:Nat->SV)(h:Hp)(n:Nat)(r:Cf):Prop:=
 ∀(f':Nat->SV)(h':Hp)(c:Cx)(a:Act)(Kr:Act->World->Prop)(Qr:Exit->Act->World->Prop),(∀x∈o.op.operands,P2 f' x=P2 f x)->(∀j∈r.foot,h' j=h j)->E.inv c->CF h' c->Fr n c->
  (∀j∈Aq r.new,c.ρ j=none)->Vf E N f' c a->
  (∀c' u,V c' r.val u->CF (Ca h' r.hw) c'->Fr n c'->EH c c'->(∀j,j∉Aq r.new->c'.ρ j=c.ρ j)->Kr (a.put o.dst u) c'.w)->o.wpIn E.fc 0 P a c.w Kr Qr
def NH(E:CC)(P:Program)(g:FuncId)(aS:List SV)(foot:List Nat)(wr:List (Nat×Option Bb))(v:SV)(h:Hp):Prop:=
 ∀(h':Hp)(n:Nat),(∀j∈foot,h' j=h j)->Ap E P g aS h' n λv' h2 n2=>v'=v/\h2=Ca h' wr/\n2=n
def DZ(ops:Array Oper)(j i:Nat):Bool:=match ops[i]? with|some o=>o.after.any λe=>Region.binds .any e&&e.on==j|none=>false
def Fk(ops:Array Oper):Bool:=(List.range ops.size).all λi=>
 match ops[i]? with
 | some oi=>(oi.after.all λe=>!Region.binds .any e||decide (e.on<i))&&(List.range i).all λj=>DZ ops j i||(match ops[j]? with|some oj=>oj.apart ops oi|none=>true)
 | none=>true
theorem QS{ops:Array Oper}(h:Fk ops=true){i:Nat}{b:Oper}(hi:ops[i]? = some b):∀e∈b.after,Region.binds .any e=true->e.on<i:=by
 intro e c hb;have a:=(qp.1 hi).1;have:=YO.1 h i (List.mem_range.2 a);simp only[hi,qo]at this;have:=Array.all_eq_true'.1 this.1 e c;simpa[hb]using this
theorem Hh{ops:Array Oper}(h:Fk ops=true){i j:Nat}{c d:Oper}(hi:ops[i]? = some c)(f:ops[j]? = some d)(a:j<i)(e:DZ ops j i=false):d.apart ops c=true:=by
 have b:=(qp.1 hi).1;have:=YO.1 h i (List.mem_range.2 b);simp only[hi,qo]at this;have:=YO.1 this.2 j (List.mem_range.2 a);simpa[e,f]using this
structure Tv(E:CC)(P:Program)(N:Nat)(ops:Array Oper)(f0:Nat->SV)(h0:Hp)(n0 n:Nat)(rs:List Cf):Prop where
 len:rs.length=ops.size
 stat:Fk ops=true
 dok:∀(i:Nat)(o:Oper),ops[i]? = some o->∀d,o.dst=some d->d<N
 ok:∀(i:Nat)(o:Oper)(r:Cf),ops[i]? = some o->rs[i]? = some r->r.dst=o.dst/\(∀j∈Aq r.wr,j∈r.foot)/\
  ((GS ops (E4 (rs.map Cf.tw) (λq=>decide (q<i)) 0 f0) o=some false/\r.val=.tup []/\r.foot=[]/\r.wr=[]/\r.new=[])\/
   (GS ops (E4 (rs.map Cf.tw) (λq=>decide (q<i)) 0 f0) o=some true/\
    LV E P N o (E4 (rs.map Cf.tw) (λq=>decide (q<i)) 0 f0) (E4 (rs.map Cf.hw) (λq=>decide (q<i)) 0 h0) n r))
 ind:∀(i j:Nat)(ri rj:Cf),j<i->rs[i]? = some ri->rs[j]? = some rj->DZ ops j i=false->
  (∀k∈Aq rj.wr,k∉ri.foot)/\(∀k∈Aq ri.wr,k∉rj.foot)/\(∀k∈Aq rj.new,k∉ri.foot)
 newlo:∀(i:Nat)(r:Cf),rs[i]? = some r->∀k∈Aq r.new,n0<=k/\k<n
 newne:∀(i j:Nat)(ri rj:Cf),i≠j->rs[i]? = some ri->rs[j]? = some rj->∀k∈Aq ri.new,k∉Aq rj.new
 newfoot:∀(i j:Nat)(ri rj:Cf),j<=i->rs[i]? = some ri->rs[j]? = some rj->∀k∈Aq ri.new,k∉rj.foot
section
variable{E:CC}{P:Program}{N:Nat}{ops:Array Oper}{f0:Nat->SV}{h0:Hp}{n0 n:Nat}{rs:List Cf}
theorem Np{f:Nat->SV}{c:Cx}{a:Act}{o:Oper}{b:Bool}(F:Vf E N f c a)(hg:GS ops f o=some b):Region.wanted o (yielded ops a.tmps)=b:=by
 unfold GS at hg;unfold Region.wanted;split at hg;rename_i e;rw[e];simpa using hg
 . rename_i j want e;rw[e];split at hg<;>try cases hg
   rename_i d i;split at hg<;>try cases hg
   rename_i k hb;have g:=F.val d;rw[hb]at g;have:=Hb g;simp only[yielded,i,qK];have h:a.tmps[d]? = some (.bool k):=by
    rcases YV d a.tmps.size with hl|hl;rw[Ye,KN hl]at this;rw[KN hl];simpa using this;rw[Ye,Yv hl]at this;cases this
   rw[h];simp;rename_i hb;have g:=F.val d;rw[hb,V]at g;obtain⟨vs,g,_⟩:=g;simp only[yielded,i,qK];rcases YV d a.tmps.size with hl|hl;rw[Ye,KN hl]at g;rw[KN hl];simp only[vR]at g;rw[g];rfl;rw[Yv hl];rfl
theorem QX{r:Cf}{t:Nat}:t∈Aq r.tw↔r.dst=some t:=by
 unfold Cf.tw Aq;cases h:r.dst<;>simp[eq_comm]
theorem Vf.put{f:Nat->SV}{c:Cx}{a:Act}(h:Vf E N f c a){r:Cf}(g:∀d,r.dst=some d->d<N){u:Value}(j:V c r.val u):Vf E N (Ca f r.tw) c (a.put r.dst u):=by
 unfold Cf.tw;cases e:r.dst with
 | none=>exact h
 | some d=>
  refine⟨by simpa[Act.put]using h.size,h.defers,λt=>?_⟩;simp only[VN,qr,Yo,Ca,J5,List.foldl_nil,Vn,Act.put];by_cases b:t=d;subst b;have:=g t e;have i:=h.size;simp[i,this,j];simp only[b,if_false];have:=h.val t;simpa[XA (Ne.symm b)]using this
structure At(E:CC)(P:Program)(N:Nat)(ops:Array Oper)(f0:Nat->SV)(h0:Hp)(n0 n:Nat)(rs:List Cf)(c0:Cx)(listed:Array Bool)(c:Cx)(a:Act):Prop where
 size:listed.size=ops.size
 cc:∀(i:Nat)(o:Oper),ops[i]? = some o->listed.getD i false=true->∀e∈o.after,Region.binds .any e=true->listed.getD e.on false=true
 inv:E.inv c
 rel:CF (E4 (rs.map Cf.hw) (λq=>listed.getD q false) 0 h0) c
 fr:Vf E N (E4 (rs.map Cf.tw) (λq=>listed.getD q false) 0 f0) c a
 free:Fr n c
 ext:EH c0 c
 same:∀j,j<n0->c.ρ j=c0.ρ j
 new:∀(i:Nat)(r:Cf),rs[i]? = some r->listed.getD i false=false->∀k∈Aq r.new,c.ρ k=none
theorem HR{a:Array Bool}{i:Nat}(h:i<a.size)(b:Bool):a.getD i b=a[i]:=by simp[Array.getD,h]
theorem Uz(G:Tv E P N ops f0 h0 n0 n rs){c0 c:Cx}{b:Array Bool}{a:Act}(A:At E P N ops f0 h0 n0 n rs c0 b c a){i:Nat}(hi:i∈Region.ready .any ops b)
 {Qr:Exit->Act->World->Prop} {Kr:Act->World->Prop} (hK:∀J a',At E P N ops f0 h0 n0 n rs c0 (b.setIfInBounds i true) J a'->Kr a' J.w):wpOpIn E.fc 0 P ops Qr i Kr a c.w:=by
 obtain⟨hun,o,R,T⟩:=mem_ready.1 hi;have Q:=(qp.1 R).1;have z:b.getD i false=false:=by rw[HR (by rw[A.size];exact Q)]at hun ⊢;exact hun
 obtain⟨r,K⟩:∃r,rs[i]? = some r:=⟨rs[i]'(by rw[G.len];exact Q),by simp⟩
 obtain⟨L,hwf,hok⟩:=G.ok i o r R K;have H:∀{α:Type} (g:Cf->List (Nat×α)) (q:Nat) (w:List (Nat×α)),(rs.map g)[q]? = some w->∃v,rs[q]? = some v/\w=g v:=λg q w f=>by
  simp only[qX,qN]at f;obtain⟨v,h1,rfl⟩:=f;exact⟨v,h1,rfl⟩
 have Y:∀(q:Nat)(v:Cf),rs[q]? = some v->∃Y,ops[q]? = some Y:=λq v f=>⟨ops[q]'(by rw[<-G.len];exact(qh.1 f).1),by simp⟩
 have e1:∀q,b.getD q false=false->DZ ops q i=false:=λq f=>by
  unfold DZ;rw[R];simp only;rw[Array.any_eq_false'];intro e Z;rw[qo,beq_iff_eq];rintro⟨hb,rfl⟩;rw[T e Z hb]at f;cases f
 have e2:∀q,b.getD q false=true->DZ ops i q=false:=λq f=>by
  unfold DZ;cases y:ops[q]? with
  | none=>rfl
  | some Y=>
   simp only;rw[Array.any_eq_false'];intro e Z;rw[qo,beq_iff_eq];rintro⟨hb,rfl⟩;have:=A.cc q Y y f e Z hb;rw[z]at this;cases this
 have D:∀t,t∈o.looksAt ops->E4 (rs.map Cf.tw) (λq=>b.getD q false) 0 f0 t=E4 (rs.map Cf.tw) (λq=>decide (q<i)) 0 f0 t:=λt ht=>by
  refine Hx λq w _ hw s=>?_;rw[vc]at hw;obtain⟨v,l,rfl⟩:=H _ q w hw;obtain⟨M,y⟩:=Y q v l;have hdq:=(G.ok q M v y l).1;rw[QX,hdq];intro hdt;rcases Nat.lt_trichotomy q i with f|f|f;have U:b.getD q false=false:=by cases S:b.getD q false with|false=>rfl|true=>rw[S]at s;simp[f]at s
  exact(Oper.apart_spec (Hh G.stat R y f (e1 q U))).1 t hdt ht;subst f;rw[z]at s;simp at s;have hl:b.getD q false=true:=by cases S:b.getD q false with|true=>rfl|false=>rw[S]at s;simp[Nat.not_lt.2 (vV f)]at s
  exact(Oper.apart_spec (Hh G.stat y R f (e2 q hl))).2.2 t hdt ht
 have O:∀k∈r.foot,E4 (rs.map Cf.hw) (λq=>b.getD q false) 0 h0 k=E4 (rs.map Cf.hw) (λq=>decide (q<i)) 0 h0 k:=λk B=>by
  refine Hx λq w _ hw s=>?_;rw[vc]at hw;obtain⟨v,l,rfl⟩:=H _ q w hw;simp only[Cf.hw,Aq,qc,qd];rcases Nat.lt_trichotomy q i with f|f|f;have U:b.getD q false=false:=by cases S:b.getD q false with|false=>rfl|true=>rw[S]at s;simp[f]at s
  have:=G.ind i q r v f K l (e1 q U);rintro(h1|h1);exact this.1 k h1 B;exact this.2.2 k h1 B;subst f;rw[z]at s;simp at s;have hl:b.getD q false=true:=by cases S:b.getD q false with|true=>rfl|false=>rw[S]at s;simp[Nat.not_lt.2 (vV f)]at s
  have:=G.ind q i v r f l K (e2 q hl);rintro(h1|h1);exact this.2.1 k h1 B;exact G.newfoot q i v r (vV f) l K k h1 B
 have hD:(λq=>(b.setIfInBounds i true).getD q false)=λq=>b.getD q false||q==i:=by
  funext q;by_cases f:q=i;subst f;simp[A.size,Q];have:(q==i)=false:=by simp;exact f
  rw[this,Bool.or_false];simp[XA (Ne.symm f)]
 have insT:∀t,E4 (rs.map Cf.tw) (λq=>b.getD q false||q==i) 0 f0 t=Ca (E4 (rs.map Cf.tw) (λq=>b.getD q false) 0 f0) r.tw t:=by
  refine KW z (qg _) (by simp[K]) λq w f _ hw hl k B m=>?_;rw[vc]at hw;obtain⟨v,l,rfl⟩:=H _ q w hw;obtain⟨M,y⟩:=Y q v l;rw[QX,L]at B;rw[QX,(G.ok q M v y l).1]at m;exact(Oper.apart_spec (Hh G.stat y R f (e2 q hl))).2.1 k B m
 have insH:∀k,E4 (rs.map Cf.hw) (λq=>b.getD q false||q==i) 0 h0 k=Ca (E4 (rs.map Cf.hw) (λq=>b.getD q false) 0 h0) r.hw k:=by
  refine KW z (qg _) (by simp[K]) λq w f _ hw hl k B m=>?_;rw[vc]at hw;obtain⟨v,l,rfl⟩:=H _ q w hw;obtain⟨M,y⟩:=Y q v l;have hI:=G.ind q i v r f l K (e2 q hl);have hwq:=(G.ok q M v y l).2.1;simp only[Cf.hw,Aq,qc,qd]at B m;rcases B with B|B<;>rcases m with m|m;exact hI.1 k B (hwq k m);exact G.newfoot q i v r (vV f) l K k m (hwf k B);exact hI.2.2 k B (hwq k m);exact G.newne i q r v (by omega) K l k B m
 have F:∀J u,V J r.val u->CF (Ca (E4 (rs.map Cf.hw) (λq=>b.getD q false) 0 h0) r.hw) J->Fr n J->EH c J->(∀j,j∉Aq r.new->J.ρ j=c.ρ j)->Kr (a.put o.dst u) J.w:=by
  intro J u hv R' F' X' hρ;refine hK J _ ⟨by simp[A.size],λj oj W hl e Z hb=>?_,E.ext X' A.inv,?_,?_,F',A.ext.trans X',λj hj=>?_,λj rj hrj hl k B=>?_⟩;by_cases I:j=i;subst I;rw[R]at W;cases W;exact getD_set_true (T e Z hb);rw[getD_set_ne false (Ne.symm I)]at hl;exact getD_set_true (A.cc j oj W hl e Z hb);rw[hD];have:E4 (rs.map Cf.hw) (λq=>b.getD q false||q==i) 0 h0=Ca (E4 (rs.map Cf.hw) (λq=>b.getD q false) 0 h0) r.hw:=funext insH;rw[this];exact R';rw[hD];have:E4 (rs.map Cf.tw) (λq=>b.getD q false||q==i) 0 f0=Ca (E4 (rs.map Cf.tw) (λq=>b.getD q false) 0 f0) r.tw:=funext insT;rw[this,<-L];have FE:Vf E N (E4 (rs.map Cf.tw) (λq=>b.getD q false) 0 f0) J a:=⟨A.fr.size,A.fr.defers.mono X',λt=>wc X' (A.fr.val t)⟩
  exact FE.put (λd hd=>G.dok i o R d (by rw[<-L];exact hd)) hv;rw[hρ j λhj2=>by have:=(G.newlo i r K j hj2).1;omega];exact A.same j hj;by_cases I:j=i;subst I;rw[show(b.setIfInBounds j true).getD j false=true by simp[A.size,Q]]at hl;cases hl;rw[getD_set_ne false (Ne.symm I)]at hl;rw[hρ k λm=>G.newne j i rj r I hrj K k B m];exact A.new j rj hrj hl k B
 have C:GS ops (E4 (rs.map Cf.tw) (λq=>b.getD q false) 0 f0) o=GS ops (E4 (rs.map Cf.tw) (λq=>decide (q<i)) 0 f0) o:=by
  unfold GS;cases hg:o.guard with
  | none=>rfl
  | some p =>
   obtain⟨j,want⟩:=p;simp only;cases hd:(ops[j]?).bind (·.dst)with
   | none=>rfl
   | some d=>
    simp only;rw[D d (by simp[Oper.looksAt,hg,hd])]
 unfold wpOpIn;rw[R];simp only;rcases hok with⟨hg,hv,_,hw0,hn0⟩|⟨hg,X⟩
 rw[Np A.fr (C.trans hg)];simp only[qn,if_false];refine⟨λ_ _=>trivial,?_⟩;refine F c undef (by rw[hv];exact Mn) ?_ A.free (wp c) λ_ _=>rfl;have:r.hw=[]:=by simp[Cf.hw,hw0,hn0]
 rw[this];exact A.rel;rw[Np A.fr (C.trans hg),if_pos rfl];refine(X _ _ c a _ _ (λx S=>?_) O A.inv A.rel A.free (A.new i r K z) A.fr F);cases x with
 | tmp t=>exact D t (by simp only[Oper.looksAt,qd,Yp];exact .inl ⟨.tmp t,by simpa using S,rfl⟩)
 | _=>rfl
end
end Go.Proofs.YtgakninlhfkkmaaGreat.Sh
