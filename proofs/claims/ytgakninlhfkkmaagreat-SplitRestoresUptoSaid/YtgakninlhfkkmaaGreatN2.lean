/- A part of the proof (part 2 of 17). -/
import Derived.Test.YtgakninlhfkkmaaGreatN1
import Derived.ArgAppend
import Derived.Tactics
import Derived.TacticsIn
import Derived.OrdersIn
import Derived.RangeFuncSeq
import Derived.RangeFuncLeaves
import Derived.Orders
namespace Go.Proofs.YtgakninlhfkkmaaGreat.Sh
abbrev jS:=@AZ.append
abbrev kL:=@V2.mono
abbrev kR:=@V.mono
abbrev kV:=@V.mono0
abbrev kZ:=@DZ.refl
abbrev va:=@VL.mono0
abbrev vc:=@AZ.mono
section
variable {P : Program} {ev : Operand → Value} {o : Oper} {h : Hp} {k : Nat} {c : Cx}
theorem GG (w:World):w.drew.heap=w.heap:=rfl
def Cx.drew (c:Cx):Cx:={ c with w:=c.w.drew }
theorem Cx.drew_ext (c:Cx):DZ c c.drew:=⟨λ_ _ e=>e,qa _,λ_ _ h=>⟨h,rfl⟩,λ_=>qa _,rfl,rfl,⟨rfl,je _⟩⟩
theorem Bn.drew (R:Bn h c):Bn h c.drew:=
 ⟨λo x e=>(R.obj o x e).mono c.drew_ext λ_ _=>rfl,R.inj2,R.own2⟩
def Cx.kill (c:Cx) (o:Nat):Cx:={ c with own:=λb=>c.own b/\∀st,c.ρ o≠some (b,st) }
theorem Cx.kill_ext (c:Cx) (o:Nat):DZ c (c.kill o):=⟨λ_ _ e=>e,qa _,λ_ _ h=>⟨λg=>h g.1,rfl⟩,λ_=>qa _,rfl,rfl,⟨rfl,qa _⟩⟩
theorem Bn.kill (R:Bn h c) (o:Nat) {x:BT} (l:h o=some x) (g:x.lst=false:=by rfl):Bn (hset h o none) (c.kill o):=by
 have get:∀j y,hset h o none j=some y->j≠o/\h j=some y:=λj y e=>by
  simp only[hset]at e;split at e;cases e;exact⟨by assumption,e⟩
 refine⟨λj y e=>?_,λi j y m b d a n p=>?_,λb=>?_⟩;exact(R.obj j y (get j y e).2).mono (c.kill_ext o) λ_ _=>rfl;exact R.inj2 i j y m b (get i y d).2 (get j m a).2 n p;constructor;rintro⟨q,r⟩;obtain⟨j,y,d,a⟩:=(R.own2 b).1 q;have f:j≠o:=by
  rintro rfl;rw[l]at d;cases d;rcases a with⟨st,a⟩|⟨a,_⟩
  exact r st a;rw[g]at a;cases a
 exact⟨j,y,by simp[hset,f,d],a⟩;rintro⟨j,y,d,a⟩;obtain⟨f,d⟩:=get j y d;exact⟨(R.own2 b).2 ⟨j,y,d,a⟩,λk e'=>f (R.inj2 j o y x b d l a (.inl ⟨k,e'⟩))⟩
theorem KE {cs:List SV} {ty:Option TypeId} {vs:List Value} {arr:Array Value} {e:TypeId} (R:Bn h c) (b:c.ρ k=none) (hc:AZ (V c) cs vs) (d:∀x∈vs,x.oneCell'=true)
 (f:∀(i:Nat) (x:Value),vs[i]? = some x->arr[i]? = some x) (a:Ty ty 0 e):Bn (hset h k (some (.cells cs ty))) (c.alloc k (.cells arr e)):=
 R.alloc b ⟨c.w.heap.size,0,arr,e,vs,by simp[Cx.alloc],by simp[Cx.alloc,Bk],λi x g=>by simpa using f i x g,kL (c.alloc_ext k _ b) hc,d,a⟩
theorem Wp {t2 d:TypeId} {z m:Nat} {u:Value} {a:Option Addr} {cap:Nat} {vs:List Value} (h2:P.underlying t2=some (.slice d)) (g:u=.slice a m cap) (hl:vs.length=m*z)
 (f:∀x∈vs,x.oneCell'=true) (w:World)
 (hc:match a with|some a=>(vs≠[]->a.spot=none)/\∀(i:Nat) (x:Value),vs[i]? = some x->w.cell? ⟨a.block,a.off+i,none⟩=some x|none=>m=0/\cap=0/\vs=[]):Src P z t2 u m vs w:=by
 subst g;have c:∀w':World,(∀b,w'.cell? b=w.cell? b)->(Builtin.firstCells z m (.slice a m cap)).run P w'=.ok vs.toArray w':=λw' hw=>by
  cases a with
  | none=>obtain⟨_,_,rfl⟩:=hc;simp[Builtin.firstCells]
  | some a=>
   have:=run_loadCells_list (P:=P) w' a vs (λj v e=>by rw[dT (hc.1 (by rintro rfl;simp at e)),hw];exact hc.2 j v e);rw[hl]at this;simpa[Builtin.firstCells]using this
 exact⟨.inl ⟨d,h2⟩,λw'=>by simp[Builtin.lenOf],c w λ_=>rfl,c w.drew λ_=>rfl,hl,f⟩
theorem Tp {r off:Nat} {cs xs ys:List SV} {ty ty':Option TypeId} {d:List Value} {b st n:Nat} (R:Bn h c) (M:c.ρ k=none) (G:h r=some (.cells cs ty)) (X:∀t,ty'=some t->off=0/\ty=some t) (D:c.ρ r=some (b,st))
 (l:Bg cs off n=some xs) (I:st+off+n+d.length<=rm c.w b) (hy:AZ (V c) ys d) (Q:∀x∈d,x.oneCell'=true):
 ∃c':Cx,c'.w=c.w.setCells b (st+off+n) d/\c'.ρ=(λj=>if j=k then some (b,st+off)else c.ρ j)/\Bn (hset (hset h r none) k (some (.cells (xs++ys) ty'))) c'/\DZ c c'/\
  (∀j,j<d.length->(c.w.cell? ⟨b,st+off+n+j,none⟩).isSome=true)/\(∀j,j<d.length->c.w.frozen? ⟨b,st+off+n+j,none⟩=false):=by
 have hne:r≠k:=by rintro rfl;rw[D]at M;cases M
 have hn:=R.none_of M;obtain⟨a,Z,arr,e,vs,g1,J,g3,g4,g5,g6⟩:=R.obj _ _ G;rw[D]at g1;cases g1;obtain⟨hle,rfl⟩:=Ef l;have U:rm c.w b=arr.size:=by simp[rm,J]
 rw[U]at I;have hlen:=g4.length;have g:∀j,j<d.length->(c.w.cell? ⟨b,st+off+n+j,none⟩).isSome=true:=λj z=>by
  simp only[World.cell?,J];rw[jd (by omega)];rfl
 have C:∀j,c.w.frozen? ⟨b,st+off+n+j,none⟩=false:=λj=>by simp[World.frozen?,J]
 have r1:=run_storeCells_cells (P:=default) b (st+off+n) d 0 c.w (by simpa using g) (by simpa using λj _=>C j) Q;have F:=run_storeCells_at (P:=default) b (st+off+n) e d 0 arr c.w J (by omega) Q;rw[r1]at F;simp only[jJ,Result.ok.injEq,true_and]at F;have A:=setRow_heap c.w b arr (arr.toList.take (st+off+n)++d++arr.toList.drop (st+off+n+d.length)).toArray e (0,0) J;rw[<-F]at A;have B:∀a,a≠b->(c.w.setCells b (st+off+n) d).heap[a]? = c.w.heap[a]?:=λa hb=>by rw[F];exact Ha _ _ _ hb
 have W:(c.w.setCells b (st+off+n) d).heap.size=c.w.heap.size:=by rw[F];exact IJ _ _ _
 refine⟨{ ρ:=λj=>if j=k then some (b,st+off)else c.ρ j,own:=c.own,w:=c.w.setCells b (st+off+n) d,bk:=c.bk },rfl,rfl,?_⟩;have E:DZ c { ρ:=λj=>if j=k then some (b,st+off)else c.ρ j,own:=c.own,w:=c.w.setCells b (st+off+n) d,bk:=c.bk }:=by
  refine⟨λj p u=>?_,by simp[W],λa hb' L=>⟨L,B a ?_⟩,λa=>?_,by rw[F];rfl,by rw[F];rfl,by rw[F];exact⟨rfl,qa _⟩⟩;simp only;split;subst_vars;rw[M]at u;cases u;exact u;rintro rfl;exact L (R.ownI ⟨r,_,st,G,D⟩);by_cases eb:a=b;subst eb;simp only[rm,J,A];simp;omega;simp[rm,B a eb]
 have get:∀j y,hset (hset h r none) k (some (.cells ((cs.drop off).take n++ys) ty')) j=some y->(j=k/\y=.cells ((cs.drop off).take n++ys) ty')\/(j≠k/\j≠r/\h j=some y):=λj y e=>by
  simp only[hset]at e;split at e;cases e;exact .inl ⟨by assumption,rfl⟩;split at e;cases e;exact .inr ⟨by assumption,by assumption,e⟩
 have f:∀j y a,j≠k->BE { ρ:=λj=>if j=k then some (b,st+off)else c.ρ j,own:=c.own,w:=c.w.setCells b (st+off+n) d,bk:=c.bk } j y a->BE c j y a:=λj y a z H=>by
  simp only[BE,z,if_false]at H;exact H
 have v:∀a,BE { ρ:=λj=>if j=k then some (b,st+off)else c.ρ j,own:=c.own,w:=c.w.setCells b (st+off+n) d,bk:=c.bk } k (.cells ((cs.drop off).take n++ys) ty') a->a=b:=λa H=>by
  rcases H with⟨Z,H⟩|⟨H,_⟩
  simp only[if_true]at H;cases H;rfl;cases H
 refine⟨⟨λj y u=>?_,λi j y K b1 m o N O=>?_,λa=>?_⟩,E,g,λj _=>C j⟩;simp only[hset]at u;split at u;subst_vars;cases u;refine⟨b,st+off,_,e,(vs.drop off).take n++d,by simp,A,λi x l=>?_,jS (kL E ((g4.drop off).take n)) (kL E hy),λx l=>?_,λt m=>?_⟩;have Y:((vs.drop off).take n).length=n:=by simp;omega
 simp only[List.getElem?_toArray,qn];have eA:(arr.toList.take (st+off+n)).length=st+off+n:=by simp;omega
 by_cases hi:i<n;rw[jD (by omega)]at l ⊢;rw[jf,if_pos hi,qY]at l;rw[jf,if_pos (by omega)];have:=g3 _ _ l;rw[qD];simpa using this;rw[qV (by omega),Y]at l;have hi2:=(qo.1 l).1;rw[qV (by omega),eA,jD (by omega),show st+off+i-(st+off+n)=i-n by omega];exact l;rcases qe.1 l with l|l;exact g5 x (qT (qH l));exact Q x l;obtain⟨q1,q2⟩:=X t m;obtain⟨q3,q4⟩:=g6 t q2;exact⟨by omega,q4⟩;split at u;cases u;rename_i hj1 T;refine(R.obj j y u).mono E λb2 e'=>B b2 ?_;rintro rfl;exact T (R.inj2 j r y _ b2 u G e' (.inl ⟨st,D⟩));rcases get i y m with⟨rfl,rfl⟩|⟨hi,S,f1⟩
 rcases get j K o with⟨rfl,rfl⟩|⟨z,q,f2⟩
 rfl;have:=v _ N;subst this;exact absurd (R.inj2 j r K _ b1 f2 G (f j K b1 z O) (.inl ⟨st,D⟩)) q;rcases get j K o with⟨rfl,rfl⟩|⟨z,q,f2⟩
 have:=v _ O;subst this;exact absurd (R.inj2 i r y _ b1 f1 G (f i y b1 hi N) (.inl ⟨st,D⟩)) S;exact R.inj2 i j y K b1 f1 f2 (f i y b1 hi N) (f j K b1 z O);rw[R.own2 a];constructor;rintro⟨j,y,m,o⟩;have z:j≠k:=by rintro rfl;rw[hn]at m;cases m
 by_cases q:j=r;subst q;rw[G]at m;cases m;rcases o with⟨s,o⟩|⟨o,_⟩
 rw[D]at o;cases o;exact⟨k,_,by simp[hset];rfl,.inl ⟨st+off,by simp⟩⟩;cases o;exact⟨j,y,by simp[hset,z,q,m],by simpa[BE,z]using o⟩;rintro⟨j,y,m,o⟩;rcases get j y m with⟨rfl,rfl⟩|⟨z,q,m⟩
 rw[v _ o];exact⟨r,_,G,.inl ⟨st,D⟩⟩;exact⟨j,y,m,f j y a z o⟩
theorem P3 {xs ys:List Value} {b:Array Value} (i:Nat) (x:Value) (a:(xs++ys)[i]? = some x):((xs++ys).toArray++b)[i]? = some x:=by
 have hi:=(qo.1 a).1;rw[jp (by simpa using hi)];simpa using a
theorem Km (w:World) (t m ty e:TypeId) (s:IntKind) (i:TypeInfo) (z:Value) (ht:P.underlying t=some (.slice e)) (l:P.underlying m=some (.int s)) (hi:P.info? e=some i) (r:i.zero=some z)
 (base:Option Addr) (n:Nat) (hn:0<n) (q:i.size≠0) (o:n<=1073741824) (hb:i.bytes<=65536):
 (Builtin.append_ #[t,m] ty #[.slice base 0 0,.int .i64 n]).run P w =
   .ok (.slice (some ⟨w.heap.size,0,none⟩) n (grownCap w n 0 e)) (w.drew.alloc (.cells (Builtin.zeroCells z.cells n++Builtin.zeroCells z.cells (grownCap w n 0 e-n)) e)):=by
 have hw:IntKind.i64.wrap (n:Int)=n:=by rw[IntKind.wrap_i64];omega
 have hmul:n*i.bytes<=1073741824*65536:=Nat.mul_le_mul o hb;have b:¬(281474976710656<(n:Int)*(i.bytes:Int)):=by
  have:((n*i.bytes:Nat):Int)<=1073741824*65536:=by omega
  rw[Int.natCast_mul]at this;omega
 have c:Builtin.nextslicecap n 0=n:=by unfold Builtin.nextslicecap;rw[if_pos (by omega)]
 have f:¬(281474976710656<n*i.bytes):=by omega
 have j:¬((n:Int)<0):=by omega
 have h:max (n:Int) 0=n:=by omega
 have d:n≠0:=by omega
 have g:¬(9223372036854775807<(n:Int)):=by omega
 have k:n*i.size≠0:=Nat.mul_ne_zero d q;have p:(Builtin.firstCells i.size 0 (.slice base 0 0)).run P w.drew=.ok #[] w.drew:=by
  cases base with
  | none=>simp[Builtin.firstCells]
  | some a=>
   have:=run_loadCells_list (P:=P) w.drew a [] (by simp);simpa[Builtin.firstCells]using this
 simp[Builtin.append_,run_underlying ht,run_underlying l,sizeOf,typeInfo,zeroValue,hi,r,hw,b,j,d,c,f,g,Question.forced,newRow,grownCap,asInt,asIntOf,p,h,k]
theorem Rq {t t2:TypeId} {s x:SV} {us ux:Value} {out:dW} (hrun:∀(w w':World) (r:Value),(∀cs,(builtin Builtin.append #[t,t2] o.type cs #[us,ux]).run P w=.ok (.value r) w')->(execOp ev o).run P w=.ok (.value r) w')
 (hs:FO P k t t2 s x=some out) (R:Bn h c) (hk:c.ρ k=none) (hvs:V c s us) (hvx:V c x ux):DN P ev o h k c out:=by
 unfold FO at hs;split at hs<;>try cases hs
 rename_i e ik z0 m hte ht2;split at hs<;>try cases hs
 rename_i hc;obtain⟨⟨hm0,hm1⟩,hz0,hby,hst,hzl⟩:=hc;have hu:=A5 hte;obtain⟨ii,hi,hsz⟩:=EZ hz0;obtain⟨i',z,hi',hzz,hze⟩:=CB hst;rw[hi]at hi';cases hi';have hvz:=C9 c z;rw[<-hze]at hvz;have hzsize:z.cells.size=Bh P e:=by have:=(hvz.cells hst).1.length;simp at this;omega
 have hbb : ii.bytes ≤ 65536 := by have : BY P e = ii.bytes := by simp [BY, Program.bytesOf, hi]
                                   omega
 obtain⟨base,rfl⟩:∃base,us=.slice base 0 0:=by
  rw[V]at hvs;rcases hvs with⟨_,rfl⟩|⟨a2,cap2,vs2,e2,_,hf,_⟩
  exact⟨none,rfl⟩;have:=hf rfl;exact⟨_,by rw[e2,this];rfl⟩
 have hux:ux=.int .i64 m:=by rw[V]at hvx;exact hvx
 subst hux;obtain⟨zr,z1⟩:=HJ hvz hst m.toNat;have hmn:(m.toNat:Int)=m:=by omega
 have hr:=Km (P:=P) c.w t t2 o.type e ik ii z hu ht2 hi hzz base m.toNat (by omega) (by omega) (by omega) hbb;rw[hmn]at hr;have hcell:=Em z.cells (by omega) m.toNat;have Rn:=KE (e:=e) (arr:=Builtin.zeroCells z.cells m.toNat++Builtin.zeroCells z.cells (grownCap c.w m.toNat 0 e-m.toNat)) R.drew (by exact hk) (kL c.drew_ext zr) z1
  (λi x hx=>by
    have:(Builtin.zeroCells z.cells m.toNat).toList=(List.replicate m.toNat z.cells.toList).flatten:=hcell;rw[<-this]at hx;have hlt:=(qo.1 hx).1;rw[jp (by simpa using hlt)];simpa using hx) Ty.none
 have En:=c.drew_ext.trans (c.drew.alloc_ext k (.cells (Builtin.zeroCells z.cells m.toNat++Builtin.zeroCells z.cells (grownCap c.w m.toNat 0 e-m.toNat)) e) (by exact hk));have hcap:m.toNat<=grownCap c.w m.toNat 0 e:=by unfold grownCap;exact Nat.le_add_right _ _
 refine⟨.slice (some ⟨c.w.heap.size,0,none⟩) m.toNat (grownCap c.w m.toNat 0 e),_,.inl (hrun _ _ _ λcs=>by simp only[builtin,Sem.run_bind,hr,Result.andThen_ok,Sem.run_pure];rfl),?_,Rn,En,λj hj=>?_⟩;rw[V];refine⟨c.w.heap.size,0,grownCap c.w m.toNat 0 e,by simp[Cx.alloc,Cx.drew,GG],by simp,hcap,by simp,?_⟩;have e6:m.toNat*Bh P e+(grownCap c.w m.toNat 0 e-m.toNat)*Bh P e=grownCap c.w m.toNat 0 e*Bh P e:=by rw[<-jB];congr 1;omega
 have e7:rm (c.drew.alloc k (.cells (Builtin.zeroCells z.cells m.toNat++Builtin.zeroCells z.cells (grownCap c.w m.toNat 0 e-m.toNat)) e)).w c.w.heap.size =
  (Builtin.zeroCells z.cells m.toNat++Builtin.zeroCells z.cells (grownCap c.w m.toNat 0 e-m.toNat)).size:=by
  simp[rm,Cx.alloc,Cx.drew,Bk,GG]
 rw[e7];simp only[Array.size_append,Builtin.zeroCells,Array.size_map,Array.size_range,hzsize];omega;simp at hj;simp[Cx.alloc,Cx.drew,hj]
theorem Ox {ts:Array TypeId} {args:Array Operand} {out:dW} {evs:Operand->SV} (ho:o.op=.call { callee:=.builtin .append,args:=args,argTypes:=ts })
 (p:AU P h k .append ts.toList (args.toList.map evs)=some out) (R:Bn h c) (hk:c.ρ k=none) (H:AZ (V c) (args.toList.map evs) (args.map ev).toList):DN P ev o h k c out:=by
 generalize hA:args.toList.map evs=A at p H;generalize hU:args.map ev=U at H;have y:=λ(w w':World) (r:Value)=>Bi (P:=P) (ev:=ev) ho w w' r;rw[hU]at y;simp only[AU]at p;split at p<;>try (first|contradiction|(cases p;done))
 rename_i t t2 s x _ e1
 match hU':U.toList,H with
 | [us, ux], H =>
  have e1':=In e1;have e2':=In hU';have q:=H.1;have hvx:=H.2.1;subst e1';subst e2';split at p
  rotate_left
  exact Rq (λw w' r h=>y w w' r h) p R hk q hvx;rename_i ht2;obtain⟨et2,ht2⟩:=Ki ht2;unfold Cm at p;split at p<;>try cases p
  rename_i e hte;have hu:=A5 hte;simp only at p;split at p<;>try cases p
  rename_i m ys hm hys;split at p<;>try cases p
  rename_i T;simp only[js,jM,qq,bne_iff_ne,ne_eq,beq_iff_eq]at T;obtain⟨⟨⟨⟨D,O⟩,hz0⟩,hst⟩,hzl⟩:=T;obtain⟨ii,hi,B⟩:=EZ hz0;obtain⟨i',z,hi',hzz,hze⟩:=CB hst;rw[hi]at hi';cases hi';have hvz:=C9 c z;rw[<-hze]at hvz;have Q:z.cells.size=Bh P e:=by have:=(hvz.cells hst).1.length;simp at this;omega
  obtain⟨ax,capx,K,hux,hcapx,hxc,hx1,N,I⟩:=JV R hys hm hvx;have src:∀w:World,w.heap=c.w.heap->Src P (Bh P e) t2 ux m K w:=λw hw=>
   Wp (A5 ht2) hux (N _ O) hx1 w (by
    revert I;cases ax<;>simp only<;>intro I;exact I;refine⟨I.1,λi x hx=>?_⟩;have:=I.2 i x hx;simp only[World.cell?,hw]at *;exact this)
  have grown:∀(c0:Cx) (h0:Hp) (base:Option Addr) (d f:Nat) (xs:List SV) (vs:List Value),c0.w=c.w->c0.ρ=c.ρ->Bn h0 c0->DZ c c0->us=.slice base d f->AZ (V c0) xs vs->
   (∀x∈vs,x.oneCell'=true)->vs.length=d*Bh P e->
   (match base with|some a=>(vs≠[]->a.spot=none)/\∀(i:Nat) (x:Value),vs[i]? = some x->c.w.cell? ⟨a.block,a.off+i,none⟩=some x|none=>d=0/\f=0/\vs=[])->f<d+m->
   dY (d+m) (BY P e)=true->∀ty:Option TypeId,Ty ty 0 e->∀upd:Option (Nat×Option BT),(match upd with|some (j,x)=>hset h j x|none=>h)=h0->
   DN P ev o h k c { val:=.sl k 0 (Bh P e) (d+m) false,upd:=upd,new:=some (.cells (xs++ys) ty) }:=by
   intro c0 h0 base d f xs vs hw hρ R0 E0 u hc L hl S hlt l ty hty upd hupd;simp only[dY,qq,decide_eq_true_eq]at l;have hby:BY P e=ii.bytes:=by simp[BY,Program.bytesOf,hi]
   have hmul:(d+m)*ii.bytes<=1073741824*65536:=Nat.mul_le_mul l.1 (by omega);have BE:(Builtin.firstCells ii.size d (.slice base d f)).run P c.w.drew=.ok vs.toArray c.w.drew:=by
    cases base with
    | none=>obtain⟨_,_,rfl⟩:=S;simp[Builtin.firstCells]
    | some a=>
     have:=run_loadCells_list (P:=P) c.w.drew a vs (λj v hv=>by rw[dT (S.1 (by rintro rfl;simp at hv))];exact S.2 j v hv);rw[hl,B]at this;simpa[Builtin.firstCells]using this
   have hr:=run_append_grow_src (P:=P) c.w t t2 o.type e ii z hu hi hzz base d f vs BE ux m K (by rw[<-B];exact src c.w rfl) hlt (by omega) (growslice_fits hlt (by omega));rw[<-u]at hr;have hk0:c0.drew.ρ k=none:=by show c0.ρ k=none;rw[hρ];exact hk
   have Rn:=KE (e:=e) (arr:=(vs++K).toArray++Builtin.zeroCells z.cells (grownCap c.w (d+m) f e-(d+m))) R0.drew hk0 (jS (kL c0.drew_ext hc) (kL (E0.trans c0.drew_ext) hxc))
    (λx hx=>by rcases qe.1 hx with hx|hx;exact L x hx;exact hx1 x hx) P3 hty
   have En:=E0.trans (c0.drew_ext.trans (c0.drew.alloc_ext k (.cells ((vs++K).toArray++Builtin.zeroCells z.cells (grownCap c.w (d+m) f e-(d+m))) e) hk0));have M:(c0.drew.alloc k (.cells ((vs++K).toArray++Builtin.zeroCells z.cells (grownCap c.w (d+m) f e-(d+m))) e)).w =
    c.w.drew.alloc (.cells ((vs++K).toArray++Builtin.zeroCells z.cells (grownCap c.w (d+m) f e-(d+m))) e):=by
    show(c0.w.drew.alloc _)=_;rw[hw]
   have E:d+m<=grownCap c.w (d+m) f e:=by unfold grownCap;exact Nat.le_add_right _ _
   subst hupd;refine⟨.slice (some ⟨c.w.heap.size,0,none⟩) (d+m) (grownCap c.w (d+m) f e),_,.inl (by rw[M];exact y _ _ _ λcs=>by simp only[builtin,Sem.run_bind,hr,Result.andThen_ok,Sem.run_pure]),?_,Rn,En,λj hj=>?_⟩;rw[V];refine⟨c.w.heap.size,0,grownCap c.w (d+m) f e,by simp[Cx.alloc,Cx.drew,hw],rfl,E,by simp,?_⟩;have hx2:=N _ O;have e5:(vs++K).length=(d+m)*Bh P e:=by simp[hl,hx2,jB]
   have e6:(d+m)*Bh P e+(grownCap c.w (d+m) f e-(d+m))*Bh P e=grownCap c.w (d+m) f e*Bh P e:=by rw[<-jB];congr 1;omega
   have e7:rm (c0.drew.alloc k (.cells ((vs++K).toArray++Builtin.zeroCells z.cells (grownCap c.w (d+m) f e-(d+m))) e)).w c.w.heap.size =
    ((vs++K).toArray++Builtin.zeroCells z.cells (grownCap c.w (d+m) f e-(d+m))).size:=by
    rw[M];simp[rm,Bk,GG]
   rw[e7];simp only[Array.size_append,List.size_toArray,e5,Builtin.zeroCells,Array.size_map,Array.size_range,Q];omega;simp at hj;simp[Cx.alloc,Cx.drew,hρ,hj]
  by_cases hm0:m=0
  . subst hm0;simp only[if_true,EH,qh]at p;subst p;have hx0:K=[]:=by have:=N _ O;simpa using this
    subst hx0;obtain⟨base,d,f,rfl,hle⟩:∃base d f,us=.slice base d f/\d<=f:=by
     cases s<;>simp only[Hd]at D<;>try cases D
     rw[V]at q;obtain⟨b,st,cap,_,rfl,L,_⟩:=q;exact⟨_,_,_,rfl,L⟩;rw[V]at q;rcases q with⟨_,rfl⟩|⟨a,cap,vs,rfl,L,_⟩
     exact⟨none,0,0,rfl,qa _⟩;exact⟨_,_,_,rfl,L⟩
    have hr:=run_append_nothing (P:=P) c.w t t2 o.type e ii hu hi base d f hle ux (by rw[<-B];exact src c.w rfl);exact BF R _ (y _ _ _ λcs=>by simp[builtin,hr]) q
  . rw[if_neg hm0]at p;split at p
    . rename_i z' es _;split at p<;>try cases p
      rename_i l;obtain⟨a,cap,vs,u,E,hc,L,C,S⟩:=JV (n:=es.length) R (by rfl:flat h (.imm z' es true)=some (es.flatMap SV.cells)) rfl q;have hcl:cap=es.length:=by
       rw[V]at q;rcases q with⟨rfl,e2⟩|⟨a2,cap2,vs2,e2,_,hf,_⟩
       rw[u]at e2;cases e2;rfl;rw[u]at e2;cases e2;exact hf rfl
      exact grown c h a es.length cap _ vs rfl rfl R (kZ c) u hc L (C _ D) S (by omega) l _ Ty.row none rfl
    . rename_i Y off z' len full _;split at p<;>try cases p
      rename_i xs J;split at p<;>try cases p
      rename_i l;obtain⟨a,cap,vs,u,E,hc,L,C,S⟩:=JV (n:=len) R J rfl q;have X:=q;rw[V]at X;obtain⟨b,st,cap',hρ,W,hcap',Z,hrm⟩:=X;rw[u]at W;cases W;obtain⟨cs,ty,G,hxs'⟩:∃cs ty,h Y=some (.cells cs ty)/\Bg cs off (len*z')=some xs:=by
       simp only[flat]at J;split at J;rename_i cs ty G;exact⟨cs,ty,G,J⟩;cases J
      have hzz':z'=Bh P e:=by simpa[Hd]using D
      subst hzz';cases full with
      | true=>exact grown c h _ len cap _ vs rfl rfl R (kZ c) u hc L (C _ D) S (by have:=Z rfl;omega) l _ (λt g=>⟨rfl,(Ty.app g).2.2⟩) none rfl
      | false=>
       by_cases F:len+m<=cap;have hx2:=N _ O;have e6:len*Bh P e+m*Bh P e<=cap*Bh P e:=by rw[<-jB];exact jt _ F
       obtain⟨c',M,hρ',R',E',hcl,hfr⟩:=Tp (k:=k) (ty':=HI h e Y off) R hk G (λt g=>⟨(Ty.app g).1,by have:=(Ty.app g).2.1;rw[G]at this;exact this⟩) hρ hxs' (by omega) hxc hx1;have hr:=run_append_room_src (P:=P) c.w t t2 o.type e ii hu hi b (st+off) len cap ux m K (by rw[<-B];exact src c.w rfl) F (by rw[<-B];exact hcl) (by rw[<-B];exact hfr);rw[<-u,<-B,<-M]at hr;refine⟨.slice (some ⟨b,st+off,none⟩) (len+m) cap,c',.inl (y _ _ _ λcs=>by simp only[builtin,Sem.run_bind,hr,Result.andThen_ok,Sem.run_pure]),?_,by simpa[dW.app]using R',E',λj hj=>?_⟩;rw[V];exact⟨b,st+off,cap,by rw[hρ'];simp,by simp,F,by simp,qr hrm (E'.room b)⟩;simp at hj;rw[hρ'];simp[hj];exact grown (c.kill Y) (hset h Y none) _ len cap _ vs rfl rfl (R.kill Y G) (c.kill_ext Y) u (kL (c.kill_ext Y) hc) L (C _ D) S (by omega) l _ (λt g=>⟨rfl,(Ty.app g).2.2⟩) (some (Y,none)) rfl
    cases p
 | [],H=>exact H.elim
 | [_],H=>exact H.2.elim
 | _::_::_::_,H=>exact H.2.2.elim
end
section
variable {P : Program} {ev : Operand → Value} {o : Oper} {h : Hp} {k : Nat} {c : Cx}
theorem SD {z n m cap:Nat} {a:Option Addr} {vs:List Value} (c:m<=n) (hl:vs.length=n*z) (w:World)
 (hc:match a with|some a=>(vs≠[]->a.spot=none)/\∀(i:Nat) (x:Value),vs[i]? = some x->w.cell? ⟨a.block,a.off+i,none⟩=some x|none=>n=0/\cap=0/\vs=[]):
 (Builtin.firstCells z m (.slice a n cap)).run P w=.ok (vs.take (m*z)).toArray w:=by
 cases a with
 | none=>obtain⟨_,_,rfl⟩:=hc;simp[Builtin.firstCells]
 | some a =>
  have hmz:m*z<=n*z:=jt _ c;have:=run_loadCells_list (P:=P) w a (vs.take (m*z)) (λj v b=>by
   rw[dT (hc.1 (by rintro rfl;simp at b))];rw[jf]at b;split at b;exact hc.2 j v b;cases b)
  rw[jr,jO (by omega)]at this;simpa[Builtin.firstCells]using this
theorem Q5 {s:SV} {u:Value} {n:Nat} (hn:Dw s=some n) (f:∀x,s≠.str x) (d:V c s u):∃a cap,u=.slice a n cap/\n<=cap:=by
 cases s<;>simp only[Dw]at hn<;>try cases hn
 exact absurd rfl (f _);rw[V]at d;obtain⟨b,st,cap,_,rfl,e,_⟩:=d;exact⟨_,_,rfl,e⟩;rw[V]at d;rcases d with⟨rfl,rfl⟩|⟨a,cap,vs,rfl,e,_⟩
 exact⟨_,_,rfl,qa _⟩;exact⟨_,_,rfl,e⟩
theorem Rp {ts:Array TypeId} {args:Array Operand} {out:dW} {evs:Operand->SV} (ho:o.op=.call { callee:=.builtin .copy,args:=args,argTypes:=ts })
 (a:AU P h k .copy ts.toList (args.toList.map evs)=some out) (R:Bn h c) (H:AZ (V c) (args.toList.map evs) (args.map ev).toList):DN P ev o h k c out:=by
 generalize hA:args.toList.map evs=A at a H;generalize hU:args.map ev=U at H;have i:=λ(w w':World) (r:Value)=>Bi (P:=P) (ev:=ev) ho w w' r;rw[hU]at i;simp only[AU]at a;split at a<;>try (first|contradiction|(cases a;done))
 rename_i t t2 s x _ e1
 match hU':U.toList,H with
 | [us, ux], H =>
  have J:=In e1;have K:=In hU';subst J;subst K;have C:=H.1;have S:=H.2.1;unfold Oi at a;split at a<;>try cases a
  rename_i e u m ys Q p hm X;have hu:=A5 Q;simp only at a;split at a<;>try cases a
  rename_i l;simp only[js,jM,qq,bne_iff_ne,ne_eq]at l;obtain⟨⟨Y,G⟩,F⟩:=l;obtain⟨ii,hi,v⟩:=EZ F;obtain⟨Z,g,vx,rfl,hcapx,D,T,E,W⟩:=JV R X hm S;obtain⟨I,j,rfl,hcapd⟩:=Q5 p (by rintro y rfl;simp[Hd]at Y) C;have d:=SD (P:=P) (z:=Bh P e) (m:=Nat.min m u) (cap:=g) (Nat.min_le_left _ _) (E _ G) c.w W;have hn:∀w':World,∀a',I=some a'->(storeCells a' (vx.take (Nat.min m u*Bh P e))).run P c.w=.ok () w'->(Builtin.copy_ #[t,t2] o.type #[.slice I u j,.slice Z m g]).run P c.w=.ok (.int .i64 (Nat.min m u)) w':=λw' a' ha q=>by
   subst ha;simp[Builtin.copy_,AO hu,sizeOf,typeInfo,hi,<-v,Builtin.lenOf,d,q,goInt]
  by_cases f:Nat.min m u=0;rw[if_pos f]at a;simp only[EH,qh]at a;subst a;have h0:(Builtin.copy_ #[t,t2] o.type #[.slice I u j,.slice Z m g]).run P c.w=.ok (.int .i64 0) c.w:=by
   cases I with
   | none=>
    rw[f]at d;have:=d;simp[Builtin.copy_,AO hu,sizeOf,typeInfo,hi,<-v,Builtin.lenOf,goInt,f]at this ⊢;simp[this]
   | some a'=>
    have:=hn c.w a' rfl (by rw[f];simp[storeCells]);rw[f]at this;exact this
  exact BF R (.int .i64 0) (i _ _ _ λcs=>by simp only[builtin,Sem.run_bind,h0,Result.andThen_ok,Sem.run_pure]) (by rw[V])
  . rw[if_neg f]at a;split at a<;>try cases a
    rename_i o' off z' len full _;simp only[Dw,qh]at p;subst p;split at a<;>try cases a
    rename_i cs ty N;split at a<;>try cases a
    rename_i cs' O;obtain⟨L,rfl⟩:=GD O;have n:=C;rw[V]at n;obtain⟨b,st,cap',hρ,B,_⟩:=n;cases B;have hx2:=E _ G;have hmul:Nat.min m len*Bh P e<=m*Bh P e:=jt _ (Nat.min_le_left _ _);have M:(ys.take (Nat.min m len*Bh P e)).length≠0:=by
     have:=D.length;simp only[jr];have:Nat.min m len*Bh P e≠0:=Nat.mul_ne_zero f F;omega
    obtain⟨w',q,R',E'⟩:=Ig (P:=P) R N hρ L M (D.take _) (λx hx=>T x (qH hx));have:=hn w' _ rfl q;exact⟨.int .i64 (Nat.min m len),{ c with w:=w' },.inl (i _ _ _ λcs=>by simp only[builtin,Sem.run_bind,this,Result.andThen_ok,Sem.run_pure]),by rw[V],R',E',λ_ _=>rfl⟩
 | [],H=>exact H.elim
 | [_],H=>exact H.2.elim
 | _::_::_::_,H=>exact H.2.2.elim
theorem QM {W:Array TypeId} {args:Array Operand} {out:dW} {evs:Operand->SV} (ho:o.op=.call { callee:=.builtin .clear,args:=args,argTypes:=W })
 (a:AU P h k .clear W.toList (args.toList.map evs)=some out) (R:Bn h c) (H:AZ (V c) (args.toList.map evs) (args.map ev).toList):DN P ev o h k c out:=by
 generalize hA:args.toList.map evs=A at a H;generalize hU:args.map ev=U at H;have d:=λ(w w':World) (r:Value)=>Bi (P:=P) (ev:=ev) ho w w' r;rw[hU]at d;simp only[AU]at a;split at a<;>try (first|contradiction|(cases a;done))
 rename_i t x _ Z;obtain⟨u,I,T⟩:=H.single;have C:=KR Z;have e2:=KR I;subst C;subst e2;unfold LI at a;split at a<;>try cases a
 rename_i e Y J m;have S:=A5 J;split at a<;>try cases a
 rename_i j;simp only[js,jM,qq,bne_iff_ne,ne_eq,beq_iff_eq]at j;obtain⟨⟨⟨L,K⟩,p⟩,N⟩:=j;obtain⟨i,z,hi,O,M⟩:=CB p;have q:=C9 c z;rw[<-M]at q;have hzsize:z.cells.size=Bh P e:=by have:=(q.cells p).1.length;simp at this;omega
 obtain⟨Q,g,rfl,hcapd⟩:=Q5 m (by rintro y rfl;simp[Hd]at L) T;by_cases f:Y=0;subst f;simp only[if_true,EH,qh]at a;subst a;have h0:(Builtin.clear_ #[t] o.type #[.slice Q 0 g]).run P c.w=.ok (.tuple #[]) c.w:=by
  cases Q<;>simp[Builtin.clear_,AO S]
 exact BF R (.tuple #[]) (d _ _ _ λcs=>by simp only[builtin,Sem.run_bind,h0,Result.andThen_ok,Sem.run_pure]) (by simp[V,VL])
 . rw[if_neg f]at a;split at a<;>try cases a
   rename_i o' off z' len full;simp only[Dw,qh]at m;subst m;split at a<;>try cases a
   rename_i cs ty F;split at a<;>try cases a
   rename_i cs' G;obtain⟨D,rfl⟩:=GD G;have B:=T;rw[V]at B;obtain⟨b,st,cap',hρ,v,_⟩:=B;cases v;obtain⟨zr,z1⟩:=HJ q p len;have E:(List.replicate len (BH P e).cells).flatten.length≠0:=by
    rw[List.length_flatten,List.map_replicate,List.sum_replicate_nat,N];exact Nat.mul_ne_zero f K
   obtain⟨w',s,X,E'⟩:=Ig (P:=P) R F hρ D E zr z1;have l:=Em z.cells (by omega) len;have h0:(Builtin.clear_ #[t] o.type #[.slice (some ⟨b,st+off,none⟩) len g]).run P c.w=.ok (.tuple #[]) w':=by
    simp only[Builtin.clear_];cases len with
    | zero=>exact absurd rfl f
    | succ n=>
     simp[AO S,zeroValue,typeInfo,hi,O,Builtin.zeroCells]at *;simp[l,s]
   exact⟨.tuple #[],{ c with w:=w' },.inl (d _ _ _ λcs=>by simp only[builtin,Sem.run_bind,h0,Result.andThen_ok,Sem.run_pure]),by simp[V,VL],X,E',λ_ _=>rfl⟩
def KD (s:SV) (d:TypeDesc):Prop:=match s with|.int _ _=>(∃i,d=.int i)|.str _=>d=.string|.bool _=>d=.bool|_=>False
theorem I7 {t:TypeId} {s:SV} (a:CK P t s=true):∃d,P.underlying t=some d/\KD s d:=by
 unfold CK at a;split at a;obtain⟨i,hi⟩:=Ki a;exact⟨_,FY hi,i,rfl⟩;exact⟨_,FD a,rfl⟩;exact⟨_,Hc a,rfl⟩;cases a
theorem Kb {d:TypeDesc} {s s':SV} {v l:Value} {b:Bool} (g:KD s d)
 (k:V c s v) (f:V c s' l) (e:G5 s s'=some b):Instr.sameNow d v l=some b:=by
 unfold G5 at e;split at e
 . rename_i i a j b';split at e<;>try cases e
   rename_i h;subst h;simp only[KD]at g;obtain⟨x,rfl⟩:=g;rw[C7 k,C7 f];simp[Instr.sameNow]
 cases e;simp only[KD]at g;subst g;rw[Kq k,Kq f];simp[Instr.sameNow];cases e;simp only[KD]at g;subst g;rw[Gm k,Gm f];simp[Instr.sameNow];cases e
theorem GF {d:TypeDesc} {s:SV} {v:Value} (b:KD s d) (k:V c s v):
 ∀(es:List (SV×SV)) (a:List MapEntry) (i:Nat) (r:Option (Nat×SV)),AZ (λ(p:SV×SV) (e:MapEntry)=>V c p.1 e.key/\V c p.2 e.val) es a->DH s es i=some r->
  (r=none/\Instr.findNow d v a i=some none)\/∃j x y e,r=some (i+j,x)/\Instr.findNow d v a i=some (some (i+j,y))/\V c x y/\a[j]? = some e/\Instr.sameNow d v e.key=some true
 | [],a,i,r,h,hf=>by
  simp only[DH,qh]at hf;subst hf;rw[h.nil_left];exact .inl ⟨rfl,rfl⟩
 | p::es,[],i,r,h,_=>h.elim
 | p::es,e::a,i,r,h,hf=>by
  obtain⟨⟨m,h2⟩,n⟩:=h;simp only[DH]at hf;split at hf;rename_i f;cases hf;have:=Kb b k m f;exact .inr ⟨0,p.2,e.val,e,rfl,by simp[Instr.findNow,this],h2,rfl,this⟩;rename_i f;have:=Kb b k m f;rcases GF b k es a (i+1) r n hf with⟨rfl,g⟩|⟨j,x,y,e',rfl,g,l,o,q⟩
  exact .inl ⟨rfl,by simp[Instr.findNow,this,g]⟩;exact .inr ⟨j+1,x,y,e',by congr 2;omega,by rw[show i+(j+1)=i+1+j by omega];simp[Instr.findNow,this,g],l,by simpa using o,q⟩;cases hf
theorem GA {t:TypeId} {d:TypeDesc} {s:SV} {v:Value} {b:Bool} (f:P.underlying t=some d) (a:KD s d)
 (g:V c s v) (w:World):(Instr.checkKey b 10000 t v).run P w=.ok () w:=by
 have e:∀n,(Instr.checkKey b (n+1) t v).run P w=.ok () w:=λn=>by
  cases s<;>simp only[KD]at a;subst a;rw[Gm g];simp[Instr.checkKey,AO f];obtain⟨i,rfl⟩:=a;rw[C7 g];simp[Instr.checkKey,AO f];subst a;rw[Kq g];simp[Instr.checkKey,AO f]
 exact e 9999
theorem Oq {es:List (SV×SV)} {a:Array MapEntry} (j:Nat) {x y:SV} {u v:Value} (b:V c x u) (d:V c y v)
 (h:AZ (λ(p:SV×SV) (e:MapEntry)=>V c p.1 e.key/\V c p.2 e.val) es a.toList):
 AZ (λ(p:SV×SV) (e:MapEntry)=>V c p.1 e.key/\V c p.2 e.val) (HF es j x y) (a.modify j λe=>{ e with key:=u,val:=v }).toList:=by
 rw[Array.toList_modify];exact AZ.modify (R:=λ(p:SV×SV) (e:MapEntry)=>V c p.1 e.key/\V c p.2 e.val) (λ_=>(x,y)) (λe=>{ e with key:=u,val:=v }) (λ_ _ _=>⟨b,d⟩) j h
theorem Hm.modify {a:Array MapEntry} {b:Nat} (H:Hm a.toList b) (i:Nat) (f:MapEntry->MapEntry) (c:∀e,(f e).born=e.born):Hm (a.modify i f).toList b:=by
 have e:(a.modify i f).toList.map (·.born)=a.toList.map (·.born):=by
  rw[Array.toList_modify];apply List.ext_getElem?;intro j;simp only[qO,List.getElem?_modify];cases a.toList[j]? with
  | none=>rfl
  | some x=>simp only[jk];split<;>simp[c]
 refine⟨λx d=>?_,by rw[e];exact H.2⟩;have:x.born∈(a.modify i f).toList.map (·.born):=qy.2 ⟨x,d,rfl⟩;rw[e]at this;obtain⟨y,g,h⟩:=qy.1 this;rw[<-h];exact H.1 y g
theorem Hm.push {d:List MapEntry} {c:Nat} (H:Hm d c) (e:MapEntry) (he:e.born=c):Hm (d++[e]) (c+1):=by
 refine⟨λx f=>?_,?_⟩;rcases qe.1 f with f|f;have:=H.1 x f;omega;rw[qv.1 f];omega;rw[qc,List.nodup_append];refine⟨H.2,by simp,λa g b hb=>?_⟩;obtain⟨x,f,rfl⟩:=qy.1 g;simp at hb;have:=H.1 x f;omega
theorem Hm.sub {c b:List MapEntry} {a:Nat} (H:Hm c a) (h:b.Sublist c):Hm b a:=⟨λx d=>H.1 x (h.subset d),H.2.sublist (h.map _)⟩
theorem KB {l b:Nat} {es i:List (SV×SV)} {f a:Array MapEntry} {d clock':Nat} (R:Bn h c) (q:h l=some (.map es)) (m:c.ρ l=some (b,0))
 (hb:c.w.heap[b]? = some (.map f d)) (o:AZ (λ(p:SV×SV) (e:MapEntry)=>V c p.1 e.key/\V c p.2 e.val) i a.toList) (n:Hm a.toList clock'):
 Bn (hset h l (some (.map i))) { c with w:={ c.w with heap:=c.w.heap.setIfInBounds b (.map a clock') } }/\DZ c { c with w:={ c.w with heap:=c.w.heap.setIfInBounds b (.map a clock') } }:=by
 have k:b<c.w.heap.size:=(qp.1 hb).1;refine R.write q m (by simp) (λb' j=>by simp[jH (Ne.symm j)]) ?_ rfl rfl (λE=>?_);simp[rm,hb];exact⟨b,a,clock',m,by simp[k],vc (λ_ _ g=>⟨kR E g.1,kR E g.2⟩) o,n⟩
theorem Fi {t:TypeId} {d:TypeDesc} {v:Value} {a:List MapEntry} {r:Option (Nat×Value)} (c:P.underlying t=some d) (b:Instr.findNow d v a 0=some r) (w:World):
 (Instr.findKey t v a).run P w=.ok r w:=by
 simp[Instr.findKey,AO c,b]
theorem P5 (a b:ByteArray):(a==b)=true↔a=b:=by
 obtain⟨x⟩:=a;obtain⟨y⟩:=b;have e:((⟨x⟩:ByteArray)==⟨y⟩)=(x==y):=rfl;rw[e,beq_iff_eq,ByteArray.mk.injEq]
theorem Pb {d:TypeDesc} {s:SV} {v b:Value} (e:KD s d) (f:V c s v)
 (a:Instr.sameNow d v b=some true) (n:Nat):Instr.sameBits n b v=true:=by
 cases s<;>simp only[KD]at e;subst e;rw[Gm f]at *;cases b<;>simp[Instr.sameNow]at a;cases n<;>simp[Instr.sameBits,a];obtain⟨i,rfl⟩:=e;rw[C7 f]at *;cases b<;>simp[Instr.sameNow]at a;cases n<;>simp[Instr.sameBits,a];subst e;rw[Kq f]at *;cases b<;>simp[Instr.sameNow]at a;have:=(P5 _ _).1 a;subst this;cases n<;>simp only[Instr.sameBits]<;>exact(P5 _ _).2 rfl
theorem MZ {t:TypeId} {m y x:Operand} {out:dW} {evs:Operand->SV} (Y:o.op=.mapUpdate t m y x) (n:dV P evs h k o.op=some out) (R:Bn h c)
 (H:∀x∈o.op.operands,V c (evs x) (ev x)):DN P ev o h k c out:=by
 rw[Y]at n H;simp only[dV]at n;have X:=H m (by simp[Op.operands]);have B:=H y (by simp[Op.operands]);have Z:=H x (by simp[Op.operands]);split at n<;>try cases n
 rename_i kt e o' ht O;split at n<;>try cases n
 rename_i E;simp only[js,jM]at E;obtain⟨d,L,r⟩:=I7 E;split at n<;>try cases n
 rename_i es G;split at n<;>try cases n
 rename_i hst;rw[O,V]at X;obtain⟨b,hρ,F⟩:=X;obtain⟨b',g,a,U,I,J,W⟩:=R.obj _ _ G;rw[hρ]at U;cases U;have C:=λw=>GA (P:=P) (b:=false) L r B w;have hget:∀(f:Obj->Sem Unit),((getObj b).bind f).run P c.w=(f (.map g a)).run P c.w:=λf=>by
  simp[getObj,Sem.bind,Sem.run,I]
 have fin:∀(s:List (SV×SV)) (l:Array MapEntry) (clock':Nat),AZ (λ(p:SV×SV) (e:MapEntry)=>V c p.1 e.key/\V c p.2 e.val) s l.toList->Hm l.toList clock'->
  (Instr.mapUpdate t (ev m) (ev y) (ev x)).run P c.w=.ok () { c.w with heap:=c.w.heap.setIfInBounds b (.map l clock') }->
  DN P ev o h k c { val:=.tup [],upd:=some (o',some (.map s)) }:=λs l clock' he K A=>by
  obtain⟨R',E'⟩:=KB (clock':=clock') R G hρ I he K;exact⟨undef,_,.inr ⟨rfl,by simp[execOp,Y,A]⟩,by simp[V,undef,VL],R',E',λ_ _=>rfl⟩
 have q:∀S:Obj,(setObj b S).run P c.w=.ok () { c.w with heap:=c.w.heap.setIfInBounds b S }:=λS=>by
  simp[setObj,Sem.run,I]
 have D:(getObj b).run P c.w=.ok (.map g a) c.w:=by simp[getObj,Sem.run,I]
 split at n<;>try cases n
 rename_i i x' v;rcases GF r B es g.toList 0 _ J v with⟨hc,_⟩|⟨j,x2,y2,T,A,M,hxy,hj,z⟩
 cases hc;simp only[jc,qh,Prod.mk.injEq]at A;obtain⟨rfl,rfl⟩:=A;refine fin _ _ a (Oq i B Z J) (Hm.modify W i _ λ_=>rfl) ?_;have u:=λw=>Fi (P:=P) L M w;have Q:=Pb r B z 10000;have N:g[i]? = some T:=by simpa using hj
 simp[Instr.mapUpdate,AO (EE ht),F,D,C,u,Instr.keyThatStays,N,Q,q];rename_i v;rcases GF r B es g.toList 0 _ J v with⟨_,M⟩|⟨j,x2,y2,T,A,_⟩
 refine fin _ (g.push { key:=ev y,val:=ev x,born:=a }) (a+1) (by rw[Array.toList_push];exact jS J (as':=[(evs y,evs x)]) ⟨⟨B,Z⟩,trivial⟩) (by rw[Array.toList_push];exact W.push _ rfl) ?_;have u:=λw=>Fi (P:=P) L M w;simp[Instr.mapUpdate,AO (EE ht),F,D,C,u,q];cases A
theorem Qc {t:TypeId} {m y:Operand} {ok:Bool} {out:dW} {evs:Operand->SV} (Q:o.op=.lookup t m y ok) (l:dV P evs h k o.op=some out) (R:Bn h c)
 (H:∀x∈o.op.operands,V c (evs x) (ev x)):DN P ev o h k c out:=by
 rw[Q]at l H;simp only[dV]at l;have I:=H m (by simp[Op.operands]);have U:=H y (by simp[Op.operands]);split at l<;>try cases l
 rename_i kt e ht;split at l<;>try cases l
 rename_i s;simp only[kH,js,not_or,jM]at s;obtain⟨s,S⟩:=s;obtain⟨d,N,B⟩:=I7 s;obtain⟨i,z,hi,M,W⟩:=CB S;have L:=C9 c z;rw[<-W]at L;obtain⟨es,a,f,E,u⟩:∃(es:List (SV×SV)) (a:Array MapEntry),
  KX h (evs m)=some es/\
  AZ (λ(p:SV×SV) (e:MapEntry)=>V c p.1 e.key/\V c p.2 e.val) es a.toList/\
  ∀r:Value×Bool,(match Instr.findNow d (ev y) a.toList 0 with|some (some (_,v))=>r=(v,true)|some none=>r=(z,false)|none=>False)->
   (Instr.lookup t (ev m) (ev y) ok).run P c.w=.ok (if ok then .tuple #[r.1,.bool r.2]else r.1) c.w:=by
  split at l<;>try cases l
  rename_i es f;cases O:evs m<;>rw[O]at f I<;>simp only[KX]at f<;>try cases f
  rw[V]at I;refine⟨[],#[],rfl,trivial,λr g=>?_⟩;have n:=λb w=>GA (P:=P) (b:=b) N B U w;simp[Instr.findNow]at g;subst g;cases ok<;>simp[Instr.lookup,AO (EE ht),I,n,Instr.findKey,AO N,Instr.findNow,E5 hi M]
  . rename_i o';split at f<;>try cases f
    rename_i K;rw[V]at I;obtain⟨b,hρ,J⟩:=I;obtain⟨b',a,A,X,Y,Z,_⟩:=R.obj _ _ K;rw[hρ]at X;cases X;refine⟨es,a,by simp only[KX,K],Z,λr g=>?_⟩;have n:=λb w=>GA (P:=P) (b:=b) N B U w;have G:(getObj b).run P c.w=.ok (.map a A) c.w:=by simp[getObj,Sem.run,Y]
    cases C:Instr.findNow d (ev y) a.toList 0 with
    | none=>rw[C]at g;exact g.elim
    | some q =>
     have F:=λw=>Fi (P:=P) N C w;rw[C]at g;cases q with
     | none=>
      simp only at g;subst g;cases ok<;>simp[Instr.lookup,AO (EE ht),J,G,n,F,E5 hi M]
     | some q=>
      obtain⟨q1,q2⟩:=q;simp only at g;subst g;cases ok<;>simp[Instr.lookup,AO (EE ht),J,G,n,F]
 rw[f]at l;simp only at l;cases D:DH (evs y) es 0 with
 | none=>simp[D]at l
 | some r=>
  simp only[D,EH,qh]at l;subst l;rcases GF B U es a.toList 0 r E D with⟨rfl,C⟩|⟨j,x2,y2,e2,rfl,C,T,_,_⟩
  have g:=u (z,false) (by rw[C]);refine BF R _ (by simp only[execOp,Q,Sem.run_bind,g,Result.andThen_ok,Sem.run_pure];rfl) ?_;cases ok<;>simp[V,VL,L];have g:=u (y2,true) (by rw[C]);refine BF R _ (by simp only[execOp,Q,Sem.run_bind,g,Result.andThen_ok,Sem.run_pure];rfl) ?_;cases ok<;>simp[V,VL,T]
end
section
variable {P : Program} {ev : Operand → Value} {o : Oper} {h : Hp} {k : Nat} {c : Cx}
theorem Oy {Z:Array TypeId} {args:Array Operand} {out:dW} {evs:Operand->SV} (ho:o.op=.call { callee:=.builtin .delete,args:=args,argTypes:=Z })
 (m:AU P h k .delete Z.toList (args.toList.map evs)=some out) (R:Bn h c) (H:AZ (V c) (args.toList.map evs) (args.map ev).toList):DN P ev o h k c out:=by
 generalize hA:args.toList.map evs=A at m H;generalize hU:args.map ev=U at H;have n:=λ(w w':World) (r:Value)=>Bi (P:=P) (ev:=ev) ho w w' r;rw[hU]at n;simp only[AU]at m;split at m<;>try (first|contradiction|(cases m;done))
 rename_i t t2 o' y _ e1
 match hU':U.toList,H with
 | [um, uy], H =>
  have G:=In e1;have I:=In hU';subst G;subst I;have Y:=H.1;have Q:=H.2.1;split at m<;>try cases m
  rename_i kt e es ht E;split at m<;>try cases m
  rename_i C;simp only[js,jM]at C;obtain⟨d,L,s⟩:=I7 C;rw[V]at Y;obtain⟨b,hρ,O⟩:=Y;subst O;obtain⟨b',a,g,W,J,F,X⟩:=R.obj _ _ E;rw[hρ]at W;cases W;have z:=λb w=>GA (P:=P) (b:=b) L s Q w;have l:∀S:Obj,(setObj b S).run P c.w=.ok () { c.w with heap:=c.w.heap.setIfInBounds b S }:=λS=>by
   simp[setObj,Sem.run,J]
  have B:(getObj b).run P c.w=.ok (.map a g) c.w:=by simp[getObj,Sem.run,J]
  have fin:∀(q:List (SV×SV)) (f:Array MapEntry) (clock':Nat),AZ (λ(p:SV×SV) (e:MapEntry)=>V c p.1 e.key/\V c p.2 e.val) q f.toList->Hm f.toList clock'->
   (Builtin.delete_ #[t,t2] o.type #[.map (some b),uy]).run P c.w=.ok (.tuple #[]) { c.w with heap:=c.w.heap.setIfInBounds b (.map f clock') }->
   DN P ev o h k c { val:=.tup [],upd:=some (o',some (.map q)) }:=λq f clock' he K x=>by
   obtain⟨R',E'⟩:=KB (clock':=clock') R E hρ J he K;exact⟨.tuple #[],_,.inl (n _ _ _ λcs=>by simp only[builtin,Sem.run_bind,x,Result.andThen_ok,Sem.run_pure]),by simp[V,VL],R',E',λ_ _=>rfl⟩
  split at m<;>try cases m
  rename_i i x' v;rcases GF s Q es a.toList 0 _ F v with⟨hc,_⟩|⟨j,x2,y2,T,x,M,hxy,hj,hsame⟩
  cases hc;simp only[jc,qh,Prod.mk.injEq]at x;obtain⟨rfl,rfl⟩:=x;have N:a[i]? = some T:=by simpa using hj
  have D:=(qp.1 N).1;refine fin _ (a.eraseIdxIfInBounds i) g (by simpa[Array.eraseIdxIfInBounds,D]using AZ.eraseIdx i F) (X.sub (by simp[Array.eraseIdxIfInBounds,D];exact List.eraseIdx_sublist _ _)) ?_;have u:=λw=>Fi (P:=P) L M w;simp[Builtin.delete_,AO (EE ht),B,z,u,l];rename_i v;rcases GF s Q es a.toList 0 _ F v with⟨_,M⟩|⟨j,x2,y2,T,x,_⟩
  refine fin _ a g F X ?_;have u:=λw=>Fi (P:=P) L M w;simp[Builtin.delete_,AO (EE ht),B,z,u,l];cases x
 | [],H=>exact H.elim
 | [_],H=>exact H.2.elim
 | _::_::_::_,H=>exact H.2.2.elim
theorem KN {out:dW} {evs:Operand->SV} (j:dV P evs h k o.op=some out) (R:Bn h c) (p:c.ρ k=none) (H:∀x∈o.op.operands,V c (evs x) (ev x)):DN P ev o h k c out:=by
 cases g:o.op with
 | move x=>exact Pm (.inl g) j R H
 | assign x=>exact Pm (.inr g) j R H
 | pick a b d=>exact T9 g j R H
 | alloc e=>exact SJ g j R p
 | box e x=>exact VA g j R p H
 | build t ps=>exact SL g j R H
 | buildSlice t l ps=>exact L3 g j R p H
 | load t a=>exact T8 g j R H
 | store t a x=>exact SR g j R H
 | nilCheck x=>exact N7 g j R H
 | binOp op t x y t2=>exact SK g j R H
 | unOp op t x=>exact UA g j R H
 | convert a b x=>exact Pj g j R H
 | makeFunc f a b=>exact N6 g j R H
 | makeMap t r=>exact Pl g j R p
 | makeSlice t l c=>exact MY g j R p H
 | slice t x lo hi mx=>exact SQ g j R H
 | fieldAddr t x i=>exact MW g j R H
 | field t x i=>exact SM g j R H
 | indexAddr t x i=>exact MX g j R H
 | index t x i=>exact SN g j R H
 | lookup t m y ok=>exact Qc g j R H
 | mapUpdate t m y x=>exact MZ g j R H
 | extract x i=>exact Pk g j R H
 | call cl =>
  obtain⟨callee,args,s⟩:=cl;cases callee with
  | value f=>rw[g]at j;simp[dV]at j
  | invoke r m=>rw[g]at j;simp[dV]at j
  | builtin b=>
   have hb:AU P h k b s.toList (args.toList.map evs)=some out:=by rw[g]at j;simpa only[dV]using j
   have n:AZ (V c) (args.toList.map evs) (args.map ev).toList:=Gg args λx q=>H x (by rw[g];simp[Op.operands,Call.operands];simpa using q);cases b with
   | len=>exact TP g hb R n
   | cap=>exact TN g hb R n
   | append=>exact Ox g hb R p n
   | copy=>exact Rp g hb R n
   | clear=>exact QM g hb R n
   | min=>exact TR g hb R n
   | max=>exact TQ g hb R n
   | delete=>exact Oy g hb R n
   | _=>unfold AU at hb;split at hb<;>first|contradiction|cases hb
 | _=>rw[g]at j;simp[dV]at j
end
structure B6 where
 ro:Option Nat
 mks:Bool
 base:Nat
 inv:Cx->Prop
 ext:∀{c c':Cx},DZ c c'->inv c->inv c'
def B6.plain:B6:=⟨none,false,0,λ_=>True,λ_ _=>trivial⟩
def B6.fc (E:B6):Fence:={ Fence.wide with round:=E.ro }
def Ti (D:Nat):Deferred:={ target:=.collected D,args:=#[] }
structure OO (E:B6) (c:Cx) (ds:List Deferred):Prop where
 base:E.base<=c.w.heap.size
 none:E.mks=false->ds=[]
 nodup:ds.Nodup
 ok:∀d∈ds,∃D,E.base<=D/\d=Ti D/\c.w.heap[D]? = some (.deferred (some []))/\¬c.own D
theorem OO.mono {E:B6} {c a:Cx} {b:List Deferred} (x:DZ c a) (H:OO E c b):OO E a b:=
 ⟨qr H.base x.size,H.none,H.nodup,λd h=>by
  obtain⟨D,g,h2,e,f⟩:=H.ok d h;have hb:=(qp.1 e).1;exact⟨D,g,h2,by rw[(x.keep D hb f).2];exact e,(x.keep D hb f).1⟩⟩
structure FR (E:B6) (N:Nat) (sa:SA) (c:Cx) (a:Act):Prop where
 size:a.tmps.size=N
 defers:OO E c a.defers
 val:∀t,V c (Ai sa t) (a.tmps.getD t undef)
def Fr (n:Nat) (c:Cx):Prop:=∀j,n<=j->c.ρ j=none
theorem FR.ext {E:B6} {N:Nat} {sa:SA} {c b:Cx} {a:Act} (h:FR E N sa c a) (x:DZ c b):FR E N sa b a:=⟨h.size,h.defers.mono x,λt=>kR x (h.val t)⟩
theorem FR.ev {E:B6} {N:Nat} {sa:SA} {c:Cx} {a:Act} (h:FR E N sa c a) (x:Operand):V c (Gp sa x) (a.eval x):=by
 cases x with
 | tmp t=>exact h.val t
 | const v=>exact C9 c v
 | global g=>simp[Gp,V]
 | func f=>simp[Gp,Act.eval,V,VL]
theorem FR.put {E:B6} {N:Nat} {sa:SA} {c:Cx} {a:Act} (h:FR E N sa c a) {dst:Option Tmp} (b:∀d,dst=some d->d<N) {s:SV} {u:Value} (g:V c s u):FR E N (EB sa dst s) c (a.put dst u):=by
 cases dst with
 | none=>exact h
 | some d=>
  refine⟨by simpa[Act.put]using h.size,h.defers,λt=>?_⟩;simp only[EB,Ai,Act.put];by_cases e:d=t;subst e;have:=b d rfl;have f:=h.size;simp[f,this,g];simp only[e,if_false];have:=h.val t;simpa[jH e]using this
theorem Ku {c:Cx}:V c (.tup []) undef:=by rw[V];exact⟨[],rfl,by simp[VL]⟩
theorem FR.weaken {E:B6} {N:Nat} {sa b:SA} {c:Cx} {a:Act} (h:FR E N sa c a) (hw:∀p∈b,Ai sa p.1=p.2):FR E N b c a:=by
 refine⟨h.size,h.defers,λt=>?_⟩;have key:∀l:SA,(∀p∈l,Ai sa p.1=p.2)->Ai l t=.junk\/Ai l t=Ai sa t:=by
  intro l
  induction l with
  | nil=>intro _;exact .inl rfl
  | cons p l ih=>
   intro hl;obtain⟨k,x⟩:=p;simp only[Ai];by_cases e:k=t;subst e;simp only[if_true];exact .inr (hl (k,x) (by simp)).symm;simp only[e,if_false];exact ih λq d=>hl q (by simp[d])
 rcases key b hw with e|e;rw[e];simp[V];rw[e];exact h.val t
structure Fq (n:Nat) (c:Cx) (n':Nat) (c':Cx):Prop where
 ext:DZ c c'
 le:n<=n'
 same:∀j,j<n->c'.ρ j=c.ρ j
theorem Fq.refl (n:Nat) (c:Cx):Fq n c n c:=⟨kZ c,qa _,λ_ _=>rfl⟩
theorem Fq.trans {e f n3:Nat} {a b c:Cx} (h:Fq e a f b) (g:Fq f b n3 c):Fq e a n3 c:=
 ⟨h.ext.trans g.ext,qr h.le g.le,λj d=>(g.same j (kq d h.le)).trans (h.same j d)⟩
abbrev dO:=Exit->SA->Hp->Nat->Prop
def Sl (E:B6) (N n:Nat) (c:Cx) (Q:dO):Exit->Act->World->Prop:=λe a' w'=>
 ∃sa' h' n' c',Q e sa' h' n'/\c'.w=w'/\Bn h' c'/\Fr n' c'/\FR E N sa' c' a'/\Fq n c n' c'
def Code.dok (N:Nat):Code->Bool
 | .region _ ops _=>ops.toList.all λo=>o.dst.all (· < N)
 | .seq a b=>Code.dok N a&&Code.dok N b
 | .cond _ a b=>Code.dok N a&&Code.dok N b
 | .block _ b=>Code.dok N b
 | .loop b=>Code.dok N b
 | .rangeFunc _ ps a b=>ps.toList.all (· < N)&&(Code.dok N a&&Code.dok N b)
 | .skip|.exit _|.ret=>true
 | _=>false
def Fs (E:B6) (P:Program) (N:Nat) (code:Code) (Q:dO) (sa:SA) (h:Hp) (n:Nat):Prop:=
 Code.dok N code=true->∀c a,E.inv c->Bn h c->Fr n c->FR E N sa c a->code.wpIn E.fc 0 P (Sl E N n c Q) a c.w
def Kk (P:Program) (f:FuncId):Bool:=
 match P.funcs[f]? with
 | some fn=>fn.body.isSome&&fn.name != "runtime.NumGoroutine"
 | none=>false
def Ak (E:B6) (P:Program) (f:FuncId) (args:List SV) (h:Hp) (n:Nat) (Q:SV->Hp->Nat->Prop):Prop:=
 Kk P f=true/\∀c vs,E.inv c->Bn h c->Fr n c->AZ (V c) args vs->Calls P f vs.toArray c.w (λe w'=>
  ∃u v h' n' c',e=.returned u/\Q v h' n'/\c'.w=w'/\V c' v u/\Bn h' c'/\Fr n' c'/\Fq n c n' c')
theorem Ak.mono {E:B6} {P:Program} {f:FuncId} {args:List SV} {h:Hp} {n:Nat} {Q a:SV->Hp->Nat->Prop} (H:Ak E P f args h n Q) (d:∀v h' n',Q v h' n'->a v h' n'):Ak E P f args h n a:=
 ⟨H.1,λc vs I R F A=>(H.2 c vs I R F A).mono λ_ _ ⟨u,v,h',n',b,e,q,r⟩=>⟨u,v,h',n',b,e,d _ _ _ q,r⟩⟩
def callee:SV->List SV->Option (FuncId×List SV)
 | .fn (.func f) a b,args=>some (f,a++args++b)
 | _,_=>none
def FJ (E:B6) (P:Program) (l:Nat) (args:List SV) (h:Hp) (n:Nat) (Q:SV->Hp->Nat->Prop):Prop:=
 ∀c vs,E.inv c->Bn h c->Fr n c->AZ (V c) args vs->YieldAt Fence.wide 0 P l vs.toArray c.w (λe w'=>
  ∃u v h' n' c',e=.returned u/\Q v h' n'/\c'.w=w'/\V c' v u/\Bn h' c'/\Fr n' c'/\Fq n c n' c')
def Nh:SV->Option Nat
 | .fn (.yield l) [] []=>some l
 | _=>none
def EI (E:B6) (P:Program) (evs:Operand->SV) (o:Oper) (h:Hp) (n:Nat) (K:SV->Hp->Nat->Prop):Prop:=
 (∀c,o.op≠.defer c)/\∀(c:Cx) (ev:Operand->Value),(∀v,ev (.const v)=v)->E.inv c->Bn h c->Fr n c->(∀x,V c (evs x) (ev x))->
   ∃u v h' n' c',(execOp ev o).run P c.w=.ok (.value u) c'.w/\V c' v u/\Bn h' c'/\Fr n' c'/\Fq n c n' c'/\K v h' n'
def XM (E:B6) (P:Program) (evs:Operand->SV) (o:Oper) (h:Hp) (n:Nat) (K:SV->Hp->Nat->Prop):Prop:=
 (∀c,o.op≠.defer c)/\∀(c:Cx) (ev:Operand->Value),(∀v,ev (.const v)=v)->E.inv c->Bn h c->Fr n c->(∀x,V c (evs x) (ev x))->
   ∃h' n' c',(execOp ev o).run P c.w=.ok .skip c'.w/\Bn h' c'/\Fr n' c'/\Fq n c n' c'/\K (.tup []) h' n'
def OU (P:Program) (evs:Operand->SV) (o:Oper) (v:SV):Prop:=
 (∀c,o.op≠.defer c)/\∀(c:Cx) (ev:Operand->Value),(∀v,ev (.const v)=v)->(∀x∈o.op.operands,V c (evs x) (ev x))->∃u,(execOp ev o).run P c.w=.ok (.value u) c.w/\V c v u
def Ke (E:B6) (P:Program) (o:Oper) (sa:SA) (h:Hp) (n:Nat) (K:SV->Hp->Nat->Prop):Prop:=
 match o.op with
 | .call { callee:=.value f,args,.. }=>
  match callee (Gp sa f) (args.toList.map (Gp sa))with
  | some (g,aS)=>Ak E P g aS h n K
  | none=>match Nh (Gp sa f)with|some l=>FJ E P l (args.toList.map (Gp sa)) h n K|none=>False
 | op=>
  match dV P (Gp sa) h n op with
  | some out=>K out.val (out.app h n) (if out.new.isSome then n+1 else n)
  | none=>match op with|.mapUpdate ..=>XM E P (Gp sa) o h n K|_=>EI E P (Gp sa) o h n K
def Dg (ops:Array Oper) (sa:SA) (o:Oper):Option Bool:=
 match o.guard with
 | none=>some true
 | some (j,want)=>
  match(ops[j]?).bind (·.dst)with
  | some d=>match Ai sa d with|.bool b=>some (b==want)|.tup []=>some false|_=>none
  | none=>none
def IL (E:B6) (P:Program) (ops:Array Oper) (Q:SA->Hp->Nat->Prop):List Oper->SA->Hp->Nat->Prop
 | [],sa,h,n=>Q sa h n
 | o::rest,sa,h,n=>
  match Dg ops sa o with
  | some b=>if b=true then Ke E P o sa h n λv h' n'=>IL E P ops Q rest (EB sa o.dst v) h' n' else IL E P ops Q rest (EB sa o.dst (.tup [])) h n
  | none=>False
section
variable {E : B6} {P : Program} {N : Nat} {ops : Array Oper}
theorem Gz {sa:SA} {c:Cx} {a:Act} {o:Oper} {b:Bool} (F:FR E N sa c a) (g:Dg ops sa o=some b):Region.wanted o (yielded ops a.tmps)=b:=by
 unfold Dg at g;unfold Region.wanted;split at g;rename_i e;rw[e];simpa using g
 . rename_i j want e;rw[e];split at g<;>try cases g
   rename_i d i;split at g<;>try cases g
   rename_i k hb;have f:=F.val d;rw[hb]at f;have:=Gm f;simp only[yielded,i,qJ];have h:a.tmps[d]? = some (.bool k):=by
    rcases ji d a.tmps.size with hl|hl;rw[qZ,jd hl]at this;rw[jd hl];simpa using this;rw[qZ,jg hl]at this;cases this
   rw[h];simp;rename_i hb;have f:=F.val d;rw[hb,V]at f;obtain⟨vs,f,_⟩:=f;simp only[yielded,i,qJ];rcases ji d a.tmps.size with hl|hl;rw[qZ,jd hl]at f;rw[jd hl];simp only[Option.getD_some]at f;rw[f];rfl;rw[jg hl];rfl
theorem IK {ev:Operand->SV} {h:Hp} {k:Nat} {a:Op} {out:dW} (b:dV P ev h k a=some out):∀c,a≠.defer c:=by
 rintro c rfl;simp[dV]at b
theorem IN {o:Oper} {sa:SA} {h:Hp} {n:Nat} {K:SV->Hp->Nat->Prop} {S:Act->World->Prop} {Qr:Exit->Act->World->Prop} {c:Cx} {a:Act}
 (H:Ke E P o sa h n K) (I:E.inv c) (R:Bn h c) (F:Fr n c) (A:FR E N sa c a)
 (J:∀v h' n' b u,K v h' n'->V b v u->Bn h' b->Fr n' b->Fq n c n' b->S (a.put o.dst u) b.w):o.wpIn E.fc 0 P a c.w S Qr:=by
 refine⟨λ_ _=>trivial,?_⟩;have plain:∀out,dV P (Gp sa) h n o.op=some out->K out.val (out.app h n) (if out.new.isSome then n+1 else n)->o.uponIn E.fc 0 P a S Qr ((o.semAt E.fc.round a.eval).run P c.w):=λout Q M=>by
  obtain⟨u,b,i,D,p,X,hρ⟩:=KN (ev:=a.eval) Q R (F n (qa _)) λx _=>A.ev x;have m:Fr (if out.new.isSome then n+1 else n) b:=λj Y=>by
   have:b.ρ j=c.ρ j:=hρ j (by cases hn:out.new<;>simp[hn]at Y ⊢;omega);rw[this];exact F j (by cases hn:out.new<;>simp[hn]at Y<;>omega)
  have A':Fq n c (if out.new.isSome then n+1 else n) b:=⟨X,by split<;>omega,λj Y=>hρ j (.inr (by omega))⟩
  have:=J _ _ _ b u M D p m A';rw[Oper.semAt_eq _ _ _ (IK Q)];rcases i with i|⟨rfl,i⟩
  rw[i];exact this;rw[i];exact this
 unfold Ke at H;split at H
 . rename_i f args ts Z;rw[Oper.semAt_eq _ _ _ (by rw[Z];simp)];split at H
   . rename_i g aS hc;have L:=A.ev f;unfold callee at hc;split at hc<;>try cases hc
     rename_i s args' g' x y T;rw[T,V]at L;obtain⟨xs,ys,C,O,h2⟩:=L;have r:AZ (V c) (x++args.toList.map (Gp sa)++y) (xs++(args.map a.eval).toList++ys):=
      jS (jS (BN.1 O) (Gg args λz _=>A.ev z)) (BN.1 h2)
     obtain⟨d,t⟩:=H;have hc:=t c _ I R F r;unfold Kk at d;cases B:P.funcs[g]? with
     | none=>simp[B]at d
     | some fn =>
      simp only[B,qq,bne_iff_ne,ne_eq]at d;have k:(execOp a.eval o).run P c.w=.ok (.enter g (xs.toArray++args.map a.eval++ys.toArray)) c.w:=by
       have hb:fn.body≠none:=by intro e;simp[e]at d
       simp[execOp,Z,resolve,Deferred.ofValue,C,invoke,callFunc,B,d.2,hb]
      have G:xs.toArray++args.map a.eval++ys.toArray=(xs++(args.map a.eval).toList++ys).toArray:=by
       apply Array.ext';simp
      rw[k,Oper.uponIn_enter,G];refine⟨λh=>by simp[B6.fc,Fence.wide]at h,(callsIn_wide.2 (hc.mono λe w' ⟨u,v,h',n',b,W,q,hw,D,p,m,X⟩=>?_):CallsIn Fence.wide _ P g _ c.w _)⟩;subst W;subst hw;exact J v h' n' b u q D p m X
   . split at H
     . rename_i l hl;have L:=A.ev f;unfold Nh at hl;split at hl<;>try cases hl
       rename_i T;rw[T,V]at L;obtain⟨xs,ys,C,O,h2⟩:=L;simp only[VL]at O h2;subst O;subst h2;obtain⟨fn,tm,aS,bd,hy,i⟩:=H c _ I R F (Gg args λz _=>A.ev z);have k:(execOp a.eval o).run P c.w=.ok (.round l fn tm aS bd) c.w:=by
        have e:(args.map a.eval)=(args.map a.eval).toList.toArray:=by apply Array.ext';simp
        rw[<-e]at hy;simp[execOp,Z,resolve,Deferred.ofValue,C,invoke];simpa using hy
       rw[k,Oper.uponIn_round];refine⟨λh=>by simp[B6.fc,Fence.wide]at h,(i.mono λe w' ⟨u,v,h',n',b,W,q,hw,D,p,m,X⟩=>?_:RoundIn Fence.wide _ P l _ _ _ _ c.w _)⟩;subst W;subst hw;exact J v h' n' b u q D p m X
     exact H.elim
 split at H;rename_i out Q;exact plain out Q H;split at H;obtain⟨U,H⟩:=H;rw[Oper.semAt_eq _ _ _ U];obtain⟨h',n',b,i,p,m,X,M⟩:=H c a.eval (λ_=>rfl) I R F A.ev;rw[i];exact J (.tup []) h' n' b undef M (by simp[V,undef,VL]) p m X;obtain⟨U,H⟩:=H;rw[Oper.semAt_eq _ _ _ U];obtain⟨u,v,h',n',b,i,D,p,m,X,M⟩:=H c a.eval (λ_=>rfl) I R F A.ev;rw[i];exact J v h' n' b u M D p m X
theorem IM {Q:SA->Hp->Nat->Prop} (Qp:dO) (hQ:∀sa h n,Q sa h n->Qp .normal sa h n):∀(l:List Oper) (sa:SA) (h:Hp) (n n0:Nat) (c0 c:Cx) (a:Act),(∀o∈l,o.dst.all (· < N)=true)->
 IL E P ops Q l sa h n->E.inv c->Bn h c->Fr n c->FR E N sa c a->Fq n0 c0 n c->wpListIn E.fc 0 P ops (Sl E N n0 c0 Qp) l a c.w
 | [],sa,h,n,n0,c0,c,a,_,H,I,R,F,A,X=>⟨sa,h,n,c,hQ _ _ _ H,rfl,R,F,A,X⟩
 | o :: rest, sa, h, n, n0, c0, c, a, hd, H, I, R, F, A, X => by
  have hdo:∀d,o.dst=some d->d<N:=λd e=>by have:=hd o (by simp);rw[e]at this;simpa using this
  simp only[IL]at H;simp only[wpListIn];split at H
  case h_2=>exact H.elim
  rename_i b hg;cases b
  case true=>
   rw[if_pos rfl]at H;rw[Gz A hg,if_pos rfl];refine IN H I R F A λv h' n' c' u hk hv R' F' X'=>?_;exact IM Qp hQ rest _ h' n' n0 c0 c' _ (λo ho=>hd o (by simp[ho])) hk (E.ext X'.ext I) R' F' ((A.ext X'.ext).put hdo hv) (X.trans X')
  case false=>
   rw[Gz A hg];simp only[qj,if_false]at H ⊢;exact⟨λ_ _=>trivial,IM Qp hQ rest _ h n n0 c0 c _ (λo ho=>hd o (by simp[ho])) H I R F (A.put hdo Ku) X⟩
theorem Pz {id:Nat} {Q:dO} {sa:SA} {h:Hp} {n:Nat} (H:IL E P ops (Q .normal) ops.toList sa h n):Fs E P N (.region id ops false) Q sa h n:=by
 intro b c a I R F A;simp only[Code.dok,jj]at b;exact wpIn_region_list (IM Q (λ_ _ _ h=>h) _ sa h n n c c a b H I R F A (Fq.refl n c))
theorem GJ {code:Code} {Q d:dO} {sa:SA} {h:Hp} {n:Nat} (H:Fs E P N code Q sa h n) (i:∀e sa h n,Q e sa h n->d e sa h n):Fs E P N code d sa h n:=
 λg c a I R F A=>wpIn_mono (H g c a I R F A) λ_ _ _ ⟨b,h',n',f,q,r⟩=>⟨b,h',n',f,i _ _ _ _ q,r⟩
theorem Gv {Q:dO} {sa:SA} {h:Hp} {n:Nat} (H:Q .normal sa h n):Fs E P N .skip Q sa h n:=
 λ_ c _ _I R F A=>wpIn_skip ⟨sa,h,n,c,H,rfl,R,F,A,Fq.refl n c⟩
theorem Sn {id:Nat} {Q:dO} {sa:SA} {h:Hp} {n:Nat} (H:Q (.exit id) sa h n):Fs E P N (.exit id) Q sa h n:=
 λ_ c _ _I R F A=>wpIn_exit ⟨sa,h,n,c,H,rfl,R,F,A,Fq.refl n c⟩
theorem UU {Q:dO} {sa:SA} {h:Hp} {n:Nat} (H:Q .ret sa h n):Fs E P N .ret Q sa h n:=
 λ_ c _ _I R F A=>wpIn_ret ⟨sa,h,n,c,H,rfl,R,F,A,Fq.refl n c⟩
def DX (K:SA->Hp->Nat->Prop) (Q:dO):dO
 | .normal=>K
 | e=>Q e
theorem JJ {x y:Code} {Q:dO} {sa:SA} {h:Hp} {n:Nat} (H:Fs E P N x (DX (Fs E P N y Q) Q) sa h n):Fs E P N (.seq x y) Q sa h n:=by
 intro b c a I R F A;simp only[Code.dok,qq]at b;refine wpIn_seq (wpIn_mono (H b.1 c a I R F A) ?_);rintro e a' w' ⟨f,h',n',l,q,rfl,k,j,i,X⟩;cases e with
 | normal=>
  refine wpIn_mono (q b.2 l a' (E.ext X.ext I) k j i) ?_;rintro e2 a2 w2 ⟨g,h2,t,s,u,d,r,p,m,o⟩;exact⟨g,h2,t,s,u,d,r,p,m,X.trans o⟩
 | _=>exact⟨f,h',n',l,q,rfl,k,j,i,X⟩
theorem Ah {x:Operand} {y z:Code} {b:Bool} {Q:dO} {sa:SA} {h:Hp} {n:Nat} (hb:Gp sa x=.bool b) (H:Fs E P N (if b then y else z) Q sa h n):Fs E P N (.cond x y z) Q sa h n:=by
 intro d c a I R F A;simp only[Code.dok,qq]at d;have e:=A.ev x;rw[hb]at e;refine wpIn_cond (Gm e) ?_;cases b;exact H d.2 c a I R F A;exact H d.1 c a I R F A
def FP (id:Nat) (Q:dO):dO
 | .exit id'=>λsa h n=>if id'=id then Q .normal sa h n else Q (.exit id') sa h n
 | e=>Q e
theorem Mb {id:Nat} {x:Code} {Q:dO} {sa:SA} {h:Hp} {n:Nat} (H:Fs E P N x (FP id Q) sa h n):Fs E P N (.block id x) Q sa h n:=by
 intro j c a I R F A;simp only[Code.dok]at j;refine wpIn_block (wpIn_mono (H j c a I R F A) ?_);rintro e a' w' ⟨b,h',n',i,q,hw,g,f,d,X⟩;cases e with
 | exit id'=>
  simp only[FP]at q;simp only[Exit.inBlock];split;rename_i e;rw[if_pos e]at q;exact⟨b,h',n',i,q,hw,g,f,d,X⟩;rename_i e;rw[if_neg e]at q;exact⟨b,h',n',i,q,hw,g,f,d,X⟩
 | _=>exact⟨b,h',n',i,q,hw,g,f,d,X⟩
theorem P1 {code:Code} {Q:dO} {sa b:SA} {h:Hp} {n:Nat} (H:Fs E P N code Q b h n) (hw:∀p∈b,Ai sa p.1=p.2):Fs E P N code Q sa h n:=
 λd c a I R F A=>H d c a I R F (A.weaken hw)
theorem OQ {x:Code} {Q:dO} {sa:SA} {h:Hp} {n:Nat} (μ:Nat) (J:Nat->SA->Hp->Nat->Prop) (h0:J μ sa h n)
 (g:∀m sa h n,J m sa h n->Fs E P N x (DX (λb h' n'=>∃m',m'<m/\J m' b h' n') Q) sa h n):Fs E P N (.loop x) Q sa h n:=by
 intro U c a I R F A;have s:Code.dok N x=true:=by simpa[Code.dok]using U
 classical
 let L:Nat->Act->World->Prop:=λm a' w'=>∃b h' n' c',J m b h' n'/\c'.w=w'/\Bn h' c'/\Fr n' c'/\FR E N b c' a'/\Fq n c n' c';have d:∀(a':Act) (w':World),(∃m,L m a' w')->∃m,L m a' w'/\∀k,k<m->¬L k a' w':=by
  intro a' w' ⟨m,i⟩
  induction m using Nat.strongRecOn with
  | _ m ih=>
   by_cases p:∃k,k<m/\L k a' w';obtain⟨k,p,hl⟩:=p;exact ih k p hl;exact⟨m,i,λk t hl=>p ⟨k,t,hl⟩⟩
 let μ':Act->World->Nat:=λa' w'=>if l:∃m,L m a' w' then(d a' w' l).choose else 0
 have G:∀a' w' m,L m a' w'->L (μ' a' w') a' w'/\μ' a' w'<=m:=by
  intro a' w' m i;have l:∃m,L m a' w':=⟨m,i⟩
  have:=(d a' w' l).choose_spec;have e:μ' a' w'=(d a' w' l).choose:=by simp only[μ',l,dif_pos]
  rw[e];exact⟨this.1,Nat.le_of_not_lt λf=>this.2 m f i⟩
 refine wpIn_loop (I:=λa' w'=>∃m,L m a' w') (μ:=μ') ⟨μ,sa,h,n,c,h0,rfl,R,F,A,Fq.refl n c⟩ ?_;intro a1 w1 ⟨m,i⟩;obtain⟨⟨u,S,V,c1,T,hw,O,M,K,E1⟩,hle⟩:=G a1 w1 m i;subst hw;refine wpIn_mono (g _ u S V T s c1 a1 (E.ext E1.ext I) O M K) ?_;rintro e a2 w2 ⟨o,h2,H,C,q,j,B,z,v,y⟩;cases e with
 | normal=>
  obtain⟨m',f,r⟩:=q;have D:L m' a2 w2:=⟨o,h2,H,C,r,j,B,z,v,E1.trans y⟩
  exact⟨⟨m',D⟩,Nat.lt_of_le_of_lt (G a2 w2 m' D).2 f⟩
 | _=>exact⟨o,h2,H,C,q,j,B,z,v,E1.trans y⟩
end
abbrev BA:=Ak B6.plain
theorem Ak.lift {E:B6} {P:Program} {f:FuncId} {args:List SV} {h:Hp} {n:Nat} {Q:SV->Hp->Nat->Prop} (H:Ak B6.plain P f args h n Q):Ak E P f args h n Q:=
 ⟨H.1,λc vs _ R F A=>H.2 c vs trivial R F A⟩
mutual
def closed (n:Nat):SV->Bool
 | .agg cs=>closedL n cs
 | .tup cs=>closedL n cs
 | .fn _ a b=>closedL n a&&closedL n b
 | .ptr o _=>decide (o<n)
 | .iptr cs=>closedL n cs
 | .sl o _ _ _ _=>decide (o<n)
 | .slc o _ _ _ _=>decide (o<n)
 | .imm _ es _=>closedL n es
 | .map o=>decide (o<n)
 | _=>true
def closedL (n:Nat):List SV->Bool
 | []=>true
 | s::ss=>closed n s&&closedL n ss
end
def BQ (n:Nat):BT->Bool
 | .cells cs _=>closedL n cs
 | .map es=>es.all λp=>closed n p.1&&closed n p.2
 | .loop _=>true
 | .iter left last=>(left.all λp=>closed n p.1&&closed n p.2)&&last.all λp=>closed n p.1&&closed n p.2
 | .list _ es=>closedL n (es.flatMap SV.cells)
theorem BU {n:Nat}:∀{l:List SV},closedL n l=true↔∀s∈l,closed n s=true
 | []=>by simp[closedL]
 | s::ss=>by simp[closedL,BU (l:=ss)]
mutual
theorem DC {c:Cx} {n:Nat} (F:Fr n c):∀{s:SV} {v:Value},V c s v->closed n s=true
 | .agg cs,v,h=>by rw[V]at h;obtain⟨vs,_,hl,_⟩:=h;rw[closed];exact DD F hl
 | .tup cs,v,h=>by rw[V]at h;obtain⟨vs,_,hl⟩:=h;rw[closed];exact DD F hl
 | .fn f a b,v,h=>by rw[V]at h;obtain⟨xs,ys,_,d,h2⟩:=h;rw[closed,DD F d,DD F h2];rfl
 | .ptr o off,v,h=>by
  rw[V]at h;obtain⟨b,st,d,_⟩:=h;rw[closed];exact decide_eq_true (kC λhl=>by rw[F o hl]at d;cases d)
 | .iptr cs,v,h=>by rw[V]at h;obtain⟨a,vs,_,_,hl,_⟩:=h;rw[closed];exact DD F hl
 | .sl o _ _ _ _,v,h=>by
  rw[V]at h;obtain⟨b,st,cap,d,_⟩:=h;rw[closed];exact decide_eq_true (kC λhl=>by rw[F o hl]at d;cases d)
 | .slc o _ _ _ _,v,h=>by
  rw[V]at h;obtain⟨b,st,d,_⟩:=h;rw[closed];exact decide_eq_true (kC λhl=>by rw[F o hl]at d;cases d)
 | .imm z es full,v,h=>by
  rw[V]at h;rw[closed];rcases h with⟨rfl,_⟩|⟨a,cap,vs,_,_,_,_,e⟩
  rfl;exact JM F e
 | .map o,v,h=>by
  rw[V]at h;obtain⟨b,d,_⟩:=h;rw[closed];exact decide_eq_true (kC λhl=>by rw[F o hl]at d;cases d)
 | .bool _,_,_=>rfl
 | .int _ _,_,_=>rfl
 | .str _,_,_=>rfl
 | .nilp,_,_=>rfl
 | .nilf,_,_=>rfl
 | .nilm,_,_=>rfl
 | .junk,_,_=>rfl
theorem DD {c:Cx} {n:Nat} (F:Fr n c):∀{s:List SV} {v:List Value},VL c s v->closedL n s=true
 | [],_,_=>rfl
 | s::ss,v,h=>by rw[VL]at h;obtain⟨u,r,_,a,h2⟩:=h;rw[closedL,DC F a,DD F h2];rfl
theorem JM {c:Cx} {n z:Nat} (F:Fr n c):∀{s:List SV} {v:List Value},VE c z s v->closedL n s=true
 | [],_,_=>rfl
 | s::ss,v,h=>by rw[VE]at h;obtain⟨u,r,_,_,_,a,h2⟩:=h;rw[closedL,DC F a,JM F h2];rfl
end
theorem HP {c:Cx} {n o:Nat} {x:BT} (F:Fr n c) (h:Dl c o x):o<n/\BQ n x=true:=by
 refine⟨?_,?_⟩;obtain⟨b,st,k,_⟩:=h.block;exact kC λhl=>by rw[F o hl]at k;cases k
 cases x with
 | cells cs ty=>obtain⟨b,st,arr,e,vs,_,_,_,d,_⟩:=h;exact DD F (BN.2 d)
 | map es=>
  obtain⟨b,f,a,_,_,j,_⟩:=h;simp only[BQ,jj,qq];intro p hp;obtain⟨i,hi⟩:=List.getElem?_of_mem hp;obtain⟨e,_,d,g⟩:=j.get hi;exact⟨DC F d,DC F g⟩
 | loop r=>rfl
 | iter left last=>
  obtain⟨b,bm,f,a,seen,_,_,_,_,_,j,l⟩:=h;simp only[BQ,jj,qq,Option.all_eq_true];refine⟨λp hp=>?_,λp hp=>?_⟩;obtain⟨i,hi⟩:=List.getElem?_of_mem hp;obtain⟨e,_,d,g⟩:=j.get hi;exact⟨DC F d,DC F g⟩;obtain⟨e,_,_,d,g⟩:=l p hp;exact⟨DC F d,DC F g⟩
 | list z es=>
  obtain⟨b,Po,arr,e,v,_,_,_,_,⟨rfl,_,_⟩|⟨B,st,arr2,e2,vs,cap,_,_,_,_,_,_,_,_,m,_⟩⟩:=h;rfl;exact DD F (BN.2 m)
def Cx.cut (c:Cx) (h:Hp) (n:Nat):Cx:=
 { ρ:=λj=>if j<n then c.ρ j else none,own:=λb=>∃o x,h o=some x/\o<n/\BE c o x b,w:=c.w,bk:=c.bk }
section
variable {c : Cx} {h h2 : Hp} {n : Nat}
theorem Nk (R:Bn h c) (e:∀o x,h2 o=some x->h o=some x) {b:Nat} (hb:(c.cut h2 n).own b):c.own b:=by
 obtain⟨o,x,a,_,d⟩:=hb;exact(R.own2 b).2 ⟨o,x,e o x a,d⟩
theorem GZ.cut (R:Bn h c) (b:∀o x,h2 o=some x->h o=some x) {a:Addr} {vs:List Value} (g:GZ c a vs):GZ (c.cut h2 n) a vs:=
 ⟨g.spot,λd hb=>g.free d (Nk R b hb),g.cell,g.one⟩
mutual
theorem V.cut (R:Bn h c) (i:∀o x,h2 o=some x->h o=some x):∀{s:SV} {v:Value},closed n s=true->V c s v->V (c.cut h2 n) s v
 | .agg cs,v,hc,g=>by rw[V]at *;rw[closed]at hc;obtain⟨vs,e,hl,l⟩:=g;exact⟨vs,e,VL.cut R i hc hl,l⟩
 | .tup cs,v,hc,g=>by rw[V]at *;rw[closed]at hc;obtain⟨vs,e,hl⟩:=g;exact⟨vs,e,VL.cut R i hc hl⟩
 | .fn f a b,v,hc,g=>by rw[V]at *;rw[closed,qq]at hc;obtain⟨xs,ys,e,d,h2⟩:=g;exact⟨xs,ys,e,VL.cut R i hc.1 d,VL.cut R i hc.2 h2⟩
 | .ptr o off,v,hc,g=>by rw[V]at *;rw[closed]at hc;obtain⟨b,st,d,h2⟩:=g;exact⟨b,st,by simp[Cx.cut,of_decide_eq_true hc,d],h2⟩
 | .iptr cs,v,hc,g=>by rw[V]at *;rw[closed]at hc;obtain⟨a,vs,e,d,h2,j⟩:=g;exact⟨a,vs,e,d.cut R i,VL.cut R i hc h2,j⟩
 | .sl o off z len full,v,hc,g=>by rw[V]at *;rw[closed]at hc;obtain⟨b,st,cap,d,h2⟩:=g;exact⟨b,st,cap,by simp[Cx.cut,of_decide_eq_true hc,d],h2⟩
 | .slc o off z len cap,v,hc,g=>by rw[V]at *;rw[closed]at hc;obtain⟨b,st,d,h2⟩:=g;exact⟨b,st,by simp[Cx.cut,of_decide_eq_true hc,d],h2⟩
 | .imm z es full,v,hc,g=>by
  rw[V]at *;rw[closed]at hc;rcases g with g|⟨a,cap,vs,e,d,h2,j,k⟩
  exact .inl g;exact .inr ⟨a,cap,vs,e,d,h2,j.cut R i,VE.cut R i hc k⟩
 | .map o,v,hc,g=>by rw[V]at *;rw[closed]at hc;obtain⟨b,d,h2⟩:=g;exact⟨b,by simp[Cx.cut,of_decide_eq_true hc,d],h2⟩
 | .bool _,_,_,g=>g
 | .int _ _,_,_,g=>g
 | .str _,_,_,g=>g
 | .nilp,_,_,g=>g
 | .nilf,_,_,g=>g
 | .nilm,_,_,g=>g
 | .junk,_,_,_=>trivial
theorem VL.cut (R:Bn h c) (a:∀o x,h2 o=some x->h o=some x):∀{s:List SV} {v:List Value},closedL n s=true->VL c s v->VL (c.cut h2 n) s v
 | [],_,_,g=>by rw[VL]at *;exact g
 | s::ss,v,hc,g=>by rw[VL]at *;rw[closedL,qq]at hc;obtain⟨u,r,e,b,h2⟩:=g;exact⟨u,r,e,V.cut R a hc.1 b,VL.cut R a hc.2 h2⟩
theorem VE.cut (R:Bn h c) (b:∀o x,h2 o=some x->h o=some x) {z:Nat}:∀{s:List SV} {v:List Value},closedL n s=true->VE c z s v->VE (c.cut h2 n) z s v
 | [],_,_,g=>by rw[VE]at *;exact g
 | s::ss,v,hc,g=>by rw[VE]at *;rw[closedL,qq]at hc;obtain⟨u,r,e,f,a,d,h2⟩:=g;exact⟨u,r,e,f,a,V.cut R b hc.1 d,VE.cut R b hc.2 h2⟩
end
theorem Bn.cut (R:Bn h c) (H:∀o x,h2 o=some x->h o=some x/\o<n/\BQ n x=true):Bn h2 (c.cut h2 n):=by
 have a:∀o x,h2 o=some x->h o=some x:=λo x e=>(H o x e).1;have J:∀o x b,o<n->(BE (c.cut h2 n) o x b↔BE c o x b):=λo x b Z=>by simp[BE,Cx.cut,Z]
 refine⟨λo x e=>?_,λi j x y b t k l O=>?_,λb=>?_⟩;obtain⟨t,k,l⟩:=H o x e;have g:=R.obj o x t;cases x with
 | cells cs ty=>
  obtain⟨b,st,arr,el,vs,u,d,C,w,A⟩:=g;exact⟨b,st,arr,el,vs,by simp[Cx.cut,k,u],d,C,BN.1 (VL.cut R a l (BN.2 w)),A⟩
 | map es=>
  obtain⟨b,m,f,u,d,C,Y⟩:=g;simp only[BQ,jj,qq]at l;refine⟨b,m,f,by simp[Cx.cut,k,u],d,AZ.of_get C.length λi p q hp L=>?_,Y⟩;obtain⟨q',s,w,A⟩:=C.get hp;rw[L]at s;cases s;have:=l p (jb hp);exact⟨V.cut R a this.1 w,V.cut R a this.2 A⟩
 | iter left last=>
  obtain⟨b,N,m,f,I,u,d,C,w,A,M,X⟩:=g;simp only[BQ,jj,qq,Option.all_eq_true]at l;refine⟨b,N,m,f,I,by simp[Cx.cut,k,u],d,C,?_,A,AZ.of_get M.length λi p q hp L=>?_,λp hp=>?_⟩;exact λhb=>w (Nk R a hb);obtain⟨q',s,w,A⟩:=M.get hp;rw[L]at s;cases s;have:=l.1 p (jb hp);exact⟨V.cut R a this.1 w,V.cut R a this.2 A⟩;obtain⟨e,E,F,G,K⟩:=X p hp;have:=l.2 p hp;exact⟨e,E,F,V.cut R a this.1 G,V.cut R a this.2 K⟩
 | loop r=>
  obtain⟨b,u,d⟩:=g;exact⟨b,by simp[Cx.cut,k,u],d⟩
 | list z es=>
  obtain⟨b,Po,arr,e,v,u,d,C,w,A⟩:=g;refine⟨b,Po,arr,e,v,by simp[Cx.cut,k,u],d,C,w,?_⟩;rcases A with⟨E,F,G⟩|⟨B,st,D,k,vs,cap,E,W,F,G,K,P,Q,S,T,U⟩
  exact .inl ⟨E,F,V.cut R a (by rfl) G⟩;exact .inr ⟨B,st,D,k,vs,cap,E,W,F,G,K,P,Q,S,BN.1 (VL.cut R a l (BN.2 T)),U⟩
 exact R.inj2 i j x y b (a _ _ t) (a _ _ k) ((J i x b (H i x t).2.1).1 l) ((J j y b (H j y k).2.1).1 O);constructor;rintro⟨o,x,t,k,l⟩;exact⟨o,x,t,(J o x b k).2 l⟩;rintro⟨o,x,t,k⟩;have:=(H o x t).2.1;exact⟨o,x,t,this,(J o x b this).1 k⟩
theorem S9:Fr n (c.cut h2 n):=λj a=>by simp[Cx.cut,Nat.not_lt.2 a]
theorem Qz {c0:Cx} {n0:Nat} (R:Bn h c) (f:∀o x,h2 o=some x->h o=some x) (d:Fr n0 c0) (hn:n0<=n) (E:DZ c0 c):DZ c0 (c.cut h2 n):=by
 refine⟨λo p e=>?_,E.size,λb hb a=>⟨λg=>(E.keep b hb a).1 (Nk R f g),(E.keep b hb a).2⟩,E.room,E.os,E.out,E.td⟩;have:o<n0:=kC λhl=>by rw[d o hl]at e;cases e
 simp only[Cx.cut,show o<n by omega,if_true];exact E.ρ o p e
end
def Cx.less (c:Cx) (h:Hp):Cx:={ c with own:=λb=>∃o x,h o=some x/\BE c o x b }
section
variable {c : Cx} {h h2 : Hp}
theorem DU (R:Bn h c) (f:∀o x,h2 o=some x->h o=some x):DZ c (c.less h2):=
 ⟨λ_ _ e=>e,qa _,λb _ hb=>⟨λ⟨o,x,a,d⟩=>hb ((R.own2 b).2 ⟨o,x,f o x a,d⟩),rfl⟩,λ_=>qa _,rfl,rfl,⟨rfl,qa _⟩⟩
theorem Bn.less (R:Bn h c) (a:∀o x,h2 o=some x->h o=some x):Bn h2 (c.less h2):=
 ⟨λo x e=>(R.obj o x (a o x e)).mono (DU R a) λ_ _=>rfl,λi j x y b d f g k=>R.inj2 i j x y b (a _ _ d) (a _ _ f) g k,λ_=>Iff.rfl⟩
end
def Fz (h h2:Hp):Nat->SV->SV->Prop
 | 0,v,r=>v=r
 | k + 1, v, r => v = r ∨
  match v,r with
  | _,.junk=>True
  | .sl o off z len full,.imm z' es full'=>h2 o=none/\(full'=true->full=true)/\es.length=len/\z'=z/\∃cs xs,h o=some (.cells cs)/\Bg cs off (len*z)=some xs/\
   (∀e∈es,e.storable=true/\e.cells.length=z)/\AZ (Fz h h2 k) xs (es.flatMap SV.cells)
  | .ptr o off,.iptr ds=>h2 o=none/\∃cs,h o=some (.cells cs)/\off<=cs.length/\AZ (Fz h h2 k) (cs.drop off) ds
  | .agg cs,.agg ds=>AZ (Fz h h2 k) cs ds
  | .tup cs,.tup ds=>AZ (Fz h h2 k) cs ds
  | .fn f a b,.fn f' a' b'=>f=f'/\AZ (Fz h h2 k) a a'/\AZ (Fz h h2 k) b b'
  | .iptr cs,.iptr ds=>AZ (Fz h h2 k) cs ds
  | .imm z es full,.imm z' es' full'=>(full'=true->full=true)/\(es=[]\/z'=z)/\AZ (Fz h h2 k) es es'/\∀e∈es',e.storable=true
  | .slc o off z len cap,.sl o' off' z' len' full'=>o'=o/\off'=off/\z'=z/\len'=len/\(full'=true->cap=len)
  | _,_=>False
theorem Fz.same {h h2:Hp}:∀{k:Nat} {v:SV},Fz h h2 k v v
 | 0,_=>Eq.refl _
 | _+1,_=>.inl (Eq.refl _)
theorem AZ.trans3 {α β γ:Type} {R:α->β->Prop} {S:α->γ->Prop} {T:γ->β->Prop} (c:∀a b g,R a b->S a g->T g b):∀{aS:List α} {bs:List β} {d:List γ},AZ R aS bs->AZ S aS d->AZ T d bs
 | [],[],[],_,_=>trivial
 | _::_,_::_,_::_,h,g=>⟨c _ _ _ h.1 g.1,AZ.trans3 c h.2 g.2⟩
 | [],_::_,_,h,_=>h.elim
 | _::_,[],_,h,_=>h.elim
 | [],[],_::_,_,g=>g.elim
 | _::_,_::_,[],_,g=>g.elim
theorem S6 {c:Cx} {z:Nat}:∀{es:List SV} {vs:List Value},(∀e∈es,e.storable=true/\e.cells.length=z)->AZ (V c) (es.flatMap SV.cells) vs->(∀x∈vs,x.oneCell'=true)->VE c z es vs
 | [],vs,_,h,_=>by rw[VE];exact h.nil_left
 | e :: es, vs, he, h, h1 => by
  rw[VE];simp only[qK]at h;have hl:=h.length;obtain⟨j,g⟩:=he e (by simp);have i:AZ (V c) e.cells (vs.take z):=by have:=h.take z;rwa [List.take_left' g]at this
  have p:AZ (V c) (es.flatMap SV.cells) (vs.drop z):=by have:=h.drop z;rwa [List.drop_left' g]at this
  have a:∀x∈vs.take z,x.oneCell'=true:=λx f=>h1 x (qH f);have n:(vs.take z).length=z:=by rw[<-i.length];exact g
  obtain⟨u,k,l,m⟩:∃u:Value,u.cells.toList=vs.take z/\u.cells.size=z/\V c e u:=by
   by_cases b:∃cs,e=.agg cs;obtain⟨cs,rfl⟩:=b;exact⟨.agg (vs.take z).toArray,by simp[Value.cells],by simp only[Value.cells,List.size_toArray];exact n,by rw[V];exact⟨_,rfl,BN.2 i,a⟩⟩;have hc:e.cells=[e]:=by cases e<;>simp[SV.cells]at b ⊢
   rw[hc]at i;obtain⟨u,o,r⟩:=i.single;have q:=a u (by rw[o];simp);have d:u.cells = #[u]:=by cases u<;>simp[Value.oneCell']at q<;>rfl
   rw[hc]at g;exact⟨u,by rw[d,o],by rw[d];simpa using g,r⟩
  exact⟨u,vs.drop z,by rw[k,ja],l,j,m,S6 (λx f=>he x (by simp[f])) p λx f=>h1 x (qT f)⟩
theorem Fz.sound {c:Cx} {h h2:Hp} (R:Bn h c) (A:∀o x,h2 o=some x->h o=some x):∀(k:Nat) {v r:SV} {u:Value},Fz h h2 k v r->V c v u->V (c.less h2) r u
 | 0,v,r,u,f,j=>by cases f;exact j.mono (DU R A)
 | k + 1, v, r, u, f, j => by
  have ih:∀{v r:SV} {u:Value},Fz h h2 k v r->V c v u->V (c.less h2) r u:=λf j=>Fz.sound R A k f j;have m:∀{aS bs:List SV} {us:List Value},AZ (Fz h h2 k) aS bs->AZ (V c) aS us->AZ (V (c.less h2)) bs us:=λf j=>AZ.trans3 (R:=V c) (S:=Fz h h2 k) (T:=V (c.less h2)) (λa b g q h2=>ih h2 q) j f;have p:∀o b st x,h2 o=none->h o=some x->c.ρ o=some (b,st)->¬(c.less h2).own b:=λo b st x hn y hρ=>by
   rintro⟨o',x',G,Y⟩;have:=R.inj2 o o' x x' b y (A _ _ G) (.inl ⟨st,hρ⟩) Y;subst this;rw[hn]at G;cases G
  rcases f with rfl|f;exact j.mono (DU R A);split at f;simp[V];rename_i o off z len full F es full';obtain⟨hn,t,d,rfl,cs,xs,y,P,J,l⟩:=f;rw[V]at j;obtain⟨b,st,cap,hρ,rfl,C,w,_⟩:=j;obtain⟨X,Q,vs,hρ',hc,q,n⟩:=(R.obj _ _ y).cell;rw[hρ]at hρ';cases hρ';obtain⟨M,rfl⟩:=Ef P;have B:∀x∈(vs.drop off).take (len*F),x.oneCell'=true:=λx s=>q x (qT (qH s));have K:=m l ((hc.drop off).take (len*F));rw[V];refine .inr ⟨⟨b,st+off,none⟩,cap,(vs.drop off).take (len*F),by rw[d],by rw[d];exact C,λf=>by rw[d];exact w (t f),⟨λ_=>rfl,λ_=>p o b st _ hn y hρ,λi x s=>?_,B⟩,S6 J K B⟩;rw[jf]at s;split at s;rw[qY]at s;simp only[qD];exact n _ _ s;cases s;rename_i o off ds;obtain⟨hn,cs,y,M,l⟩:=f;rw[V]at j;obtain⟨b,st,hρ,rfl⟩:=j;obtain⟨X,Q,vs,hρ',hc,q,n⟩:=(R.obj _ _ y).cell;rw[hρ]at hρ';cases hρ';rw[V];refine⟨⟨b,st+off,none⟩,vs.drop off,rfl,⟨λ_=>rfl,λ_=>p o b st _ hn y hρ,λi x s=>?_,λx s=>q x (qT s)⟩,BN.2 (m l (hc.drop off)),rfl⟩;rw[qY]at s;simp only[qD];exact n _ _ s;rw[V]at j ⊢;obtain⟨vs,e,hl,q⟩:=j;exact⟨vs,e,BN.2 (m f (BN.1 hl)),q⟩;rw[V]at j ⊢;obtain⟨vs,e,hl⟩:=j;exact⟨vs,e,BN.2 (m f (BN.1 hl))⟩;obtain⟨rfl,q,h2⟩:=f;rw[V]at j ⊢;obtain⟨xs,ys,e,hl,L⟩:=j;exact⟨xs,ys,e,BN.2 (m q (BN.1 hl)),BN.2 (m h2 (BN.1 L))⟩;rw[V]at j ⊢;obtain⟨a,vs,e,O,hl,N⟩:=j;exact⟨a,vs,e,O.mono (DU R A),BN.2 (m f (BN.1 hl)),N⟩;rename_i z es full F es' full';obtain⟨t,hz,l,D⟩:=f;rw[V]at j ⊢;have d:=l.length;rcases j with⟨rfl,e⟩|⟨a,cap,vs,e,q,h2,H,I⟩
  exact .inl ⟨by simpa using d.symm,e⟩;obtain⟨us,U,Z,g3,g4⟩:=Ho.1 I;refine .inr ⟨a,cap,vs,by rw[e,d],by omega,λf=>by rw[h2 (t f),d],H.mono (DU R A),Ho.2 ⟨us,m l U,?_,D,g4⟩⟩;rcases hz with rfl|rfl;intro u W;rw[U.nil_left]at W;cases W;exact Z;obtain⟨rfl,rfl,rfl,rfl,t⟩:=f;have E:=j.mono (DU R A);simp only[V]at E ⊢;obtain⟨b,st,q,h2,H,I⟩:=E;exact⟨b,st,_,q,h2,H,t,I⟩;exact f.elim
def MS (P:Program) (sa:SA) (h:Hp):List ResultVar->Option (List SV)
 | []=>some []
 | .tmp t::r=>(MS P sa h r).map (Ai sa t :: ·)
 | .cell a t::r=>match Jd P h t (Ai sa a),MS P sa h r with|some v,some vs=>some (v::vs)|_,_=>none
def Jh:List SV->SV
 | [v]=>v
 | vs=>.tup vs
def Ec:Nat->List SV->SA
 | _,[]=>[]
 | i,a::aS=>(i,a)::Ec (i+1) aS
def B8 (n:Nat) (h':Hp) (n':Nat) (v:SV) (K:SV->Hp->Nat->Prop):Prop:=
 K v h' n'\/∃k r h2,Fz h' h2 k v r/\closed n r=true/\(∀o x,h2 o=some x->h' o=some x/\o<n/\BQ n x=true)/\K r h2 n
def MT (P:Program) (fn:Func) (n:Nat) (K:SV->Hp->Nat->Prop):dO:=λe sa' h' n'=>
 (e=.normal\/e=.ret)/\∃rs,MS P sa' h' fn.results.toList=some rs/\B8 n h' n' (Jh rs) K
section
variable {P : Program}
theorem NA:∀(args:List SV) (i t:Nat),Ai (Ec i args) t=if i<=t then(args[t-i]?).getD .junk else .junk
 | [],i,t=>by simp[Ec,Ai]
 | a::aS,i,t=>by
  simp only[Ec,Ai];by_cases h:i=t;subst h;simp;rw[if_neg h,NA aS (i+1) t];by_cases h2:i<=t;rw[if_pos h2,if_pos (by omega),show t-i=(t-(i+1))+1 by omega];simp;rw[if_neg h2,if_neg (by omega)]
theorem Qm {E:B6} {N:Nat} {c:Cx} {args:List SV} {vs:List Value} (d:E.base<=c.w.heap.size) (h:AZ (V c) args vs) (hl:args.length<=N):
 FR E N (Ec 0 args) c { tmps:=vs.toArray++Array.replicate (N-vs.toArray.size) undef,defers:=[] }:=by
 have hlen:=h.length;refine⟨by simp;omega,⟨d,λ_=>rfl,by simp,by simp⟩,λt=>?_⟩;rw[NA,if_pos (qg _),kF];cases e:args[t]? with
 | none=>simp[V]
 | some s=>
  obtain⟨u,b,f⟩:=h.get e;have a:=(qo.1 b).1;simp only[Option.getD_some,qZ];rw[jp (by simpa using a)];simpa[b]using f
def N4 (tmps:Array Value):ResultVar->Sem Value
 | .tmp t=>pure (tmps.getD t undef)
 | .cell x t=>do loadVar t (<-asAddr (tmps.getD x undef))
theorem IC {E:B6} {N:Nat} {sa:SA} {c:Cx} {h:Hp} {a:Act} (R:Bn h c) (A:FR E N sa c a):∀(l:List ResultVar) (rs:List SV),MS P sa h l=some rs->
 ∃us,(l.mapM (N4 a.tmps)).run P c.w=.ok us c.w/\AZ (V c) rs us
 | [],rs,b=>by
  simp only[MS,qh]at b;subst b;exact⟨[],by simp,trivial⟩
 | .tmp t::l,rs,b=>by
  simp only[MS,qX]at b;obtain⟨g,f,rfl⟩:=b;obtain⟨us,d,e⟩:=IC R A l g f;exact⟨a.tmps.getD t undef::us,by simp only[List.mapM_cons,N4,Sem.run_bind,Sem.run_pure,Result.andThen_ok,d],A.val t,e⟩
 | .cell x t::l,rs,hr0=>by
  simp only[MS]at hr0;split at hr0<;>try cases hr0
  rename_i v vs f h2;obtain⟨us,d,e⟩:=IC R A l vs h2;obtain⟨ad,r,i,b,j⟩:=M9 R f (A.val x);exact⟨r::us,by simp only[List.mapM_cons,N4,Sem.run_bind,Sem.run_pure,Result.andThen_ok,i,asAddr,b,d],j,e⟩
theorem Ts {c:Cx} {rs:List SV} {us:List Value} (h:AZ (V c) rs us):V c (Jh rs) (if hs:us.toArray.size=1 then us.toArray[0]else .tuple us.toArray):=by
 match rs,us,h with
 | [],[],_=>simp[Jh,V,VL]
 | [r],[u],h=>simpa[Jh]using h.1
 | r::r2::rs,u::u2::us,h=>
  rw[dif_neg (by simp)];simp only[Jh];rw[V];exact⟨_,rfl,BN.2 h⟩
 | [_],[],h=>exact h.elim
 | [],_::_,h=>exact h.elim
 | [_],_::_::_,h=>exact h.2.elim
 | _::_::_,[],h=>exact h.elim
 | _::_::_,[_],h=>exact h.2.elim
def B6.call (E:B6) (m:Bool) (B:Nat):B6:={ ro:=none,mks:=m,base:=B,inv:=E.inv,ext:=E.ext }
theorem PV {E':B6} {fn:Func} {c a:Cx} {a':Act} {h':Hp} {n n':Nat} {h:SA} {K:SV->Hp->Nat->Prop} {rs:List SV} (F:Fr n c)
 (s:MS P h h' fn.results.toList=some rs) (g:B8 n h' n' (Jh rs) K) (f:Bn h' a) (B:Fr n' a) (A:FR E' fn.ntmps h a a') (X:Fq n c n' a):
 ∃u v h2 n2 c2,(results fn a'.tmps).run P a.w=.ok u a.w/\K v h2 n2/\c2.w=a.w/\V c2 v u/\Bn h2 c2/\Fr n2 c2/\Fq n c n2 c2:=by
 obtain⟨us,C,D⟩:=IC (P:=P) f A _ rs s;have b:(results fn a'.tmps).run P a.w=.ok (if i:us.toArray.size=1 then us.toArray[0]else .tuple us.toArray) a.w:=by
  have e:results fn a'.tmps=(do let vs <-fn.results.mapM (N4 a'.tmps);pure (if i:vs.size=1 then vs[0]else .tuple vs)):=by
   unfold results;congr 2
  rw[e,Array.mapM_eq_mapM_toList];simp only[Sem.run_bind,Sem.run_map,C,Result.andThen_ok,Sem.run_pure]
 have z:=Ts D;rcases g with q|⟨k,r,h2,p,m,i,q⟩
 exact⟨_,_,h',n',a,b,q,rfl,z,f,B,X⟩;have d:∀o x,h2 o=some x->h' o=some x:=λo x e=>(i o x e).1;have l:=f.less d;have t:V ((a.less h2).cut h2 n) r _:=(p.sound f d k z).cut l (λ_ _ e=>e) m;refine⟨_,r,h2,n,(a.less h2).cut h2 n,b,q,rfl,t,l.cut (λo x e=>⟨e,(i o x e).2⟩),S9,⟨Qz l (λ_ _ e=>e) F (qa _) (X.ext.trans (DU f d)),qa _,λj y=>?_⟩⟩;simp only[Cx.cut,y,if_true];exact X.same j y
theorem KS {c:Cx} {n:Nat} {args:List SV} {vs:List Value} (F:Fr n c) (A:AZ (V c) args vs):∀a∈args,closed n a=true:=λa b=>by
 obtain⟨i,hi⟩:=List.getElem?_of_mem b;obtain⟨u,_,d⟩:=A.get hi;exact DC F d
theorem Ma {E:B6} {f:FuncId} {fn:Func} {code:Code} {args:List SV} {h:Hp} {n:Nat} {K:SV->Hp->Nat->Prop} (m:P.funcs[f]? = some fn) (hb:fn.body=some code)
 (hn:(fn.name != "runtime.NumGoroutine")=true) (z:Code.dok fn.ntmps code=true) (hl:args.length<=fn.ntmps)
 (H:(∀a∈args,closed n a=true)->(∀o x,h o=some x->o<n/\BQ n x=true)->Fs (E.call false 0) P fn.ntmps code (MT P fn n K) (Ec 0 args) h n):Ak E P f args h n K:=by
 refine⟨by simp[Kk,m,hb];simpa using hn,λc vs I R F A=>?_⟩;refine calls_of_wp m hb (wp_mono (wpIn_wide.1 (H (KS F A) (λo x e=>HP F (R.obj o x e)) z c _ I R F (Qm (qg _) A hl))) ?_);rintro e a' w' ⟨sa',h',n',i,⟨B,rs,j,d⟩,rfl,s,q,l,X⟩;obtain⟨u,v,h2,D,y,g,C,hw,k,t,r,p⟩:=PV F j d s q l X;have b:a'.defers=[]/\∃u,(results fn a'.tmps).run P i.w=.ok u i.w/\∃u' v h' n' c'',Ending.returned u=.returned u'/\K v h' n'/\c''.w=i.w/\V c'' v u'/\Bn h' c''/\Fr n' c''/\Fq n c n' c'':=
  ⟨l.defers.none rfl,_,g,_,v,h2,D,y,rfl,C,hw,k,t,r,p⟩
 rcases B with rfl|rfl<;>exact b
def Cx.shut (c:Cx) (D:Nat):Cx:={ c with w:=c.w.putObj D (.deferred none) }
theorem HG {c:Cx} {D b:Nat} (h:b≠D):(c.shut D).w.heap[b]? = c.w.heap[b]?:=World.putObj_heap_other h
theorem KM {c:Cx} {D:Nat} (a:c.w.heap[D]? = some (.deferred (some []))):ON c (c.shut D):=by
 refine⟨λ_ _ e=>e,λb d ⟨x,hb,f⟩=>⟨d,?_⟩,λb=>?_⟩;have:b≠D:=by rintro rfl;rw[a]at hb;cases hb;exact f _ rfl
 exact HG this;by_cases e:b=D;subst e;simp[rm,a];simp[rm,HG e]
theorem T7 {h:Hp} {c:Cx} {D:Nat} (f:c.w.heap[D]? = some (.deferred (some []))) (R:Bn h c):Bn h (c.shut D):=by
 refine⟨λo x e=>?_,R.inj2,R.own2⟩;refine(R.obj o x e).mono0 (KM f) λb l=>HG ?_;rintro rfl;have g:=R.obj o x e;rcases l with⟨st,hb⟩|⟨hl,hb⟩
 rotate_left
 cases x with
 | list z es=>
  obtain⟨i,Po,arr,el,v,a,h2,h3,h4,⟨_,k,_⟩|⟨B,st,arr2,e2,vs,cap,_,_,k,m,_⟩⟩:=g;rw[hb]at k;cases k;rw[hb]at k;cases k;rw[f]at m;cases m
 | cells cs ty=>cases hl
 | map es=>cases hl
 | loop r=>cases hl
 | iter left last=>cases hl
 cases x with
 | cells cs ty=>obtain⟨i,st',arr,el,vs,a,h2,_⟩:=g;rw[hb]at a;cases a;rw[f]at h2;cases h2
 | map es=>obtain⟨i,j,d,a,h2,_⟩:=g;rw[hb]at a;cases a;rw[f]at h2;cases h2
 | loop r=>obtain⟨i,a,h2⟩:=g;rw[hb]at a;cases a;rw[f]at h2;cases h2
 | iter left last=>obtain⟨i,bm,j,d,seen,a,h2,_⟩:=g;rw[hb]at a;cases a;rw[f]at h2;cases h2
 | list z es=>obtain⟨i,Po,arr,el,v,a,h2,_⟩:=g;rw[hb]at a;cases a;rw[f]at h2;cases h2
theorem Qa {c0 c:Cx} {D:Nat} (X:DZ c0 c) (h:c0.w.heap.size<=D) (d:c.w.heap[D]? = some (.deferred (some []))):DZ c0 (c.shut D):=by
 refine⟨X.ρ,by simpa[Cx.shut]using X.size,λb hb a=>⟨(X.keep b hb a).1,?_⟩,λb=>qr (X.room b) ((KM d).room b),X.os,X.out,X.td⟩;rw[HG (by omega)];exact(X.keep b hb a).2
theorem Jc {fn:Func} {E':B6} {c:Cx} {tmps:Array Value} {R:Ending->World->Prop} (C:c.w.heap.size<=E'.base) {n n':Nat} {h':Hp} {j:SA} {K:SV->Hp->Nat->Prop} {rs:List SV} (F:Fr n c)
 (g:MS P j h' fn.results.toList=some rs) (b:B8 n h' n' (Jh rs) K)
 (q:∀u v h2 i e,K v h2 i->V e v u->Bn h2 e->Fr i e->Fq n c i e->R (.returned u) e.w):
 ∀(f:List Deferred) (a:Cx),(∀d∈f,∃D,E'.base<=D/\d=Ti D/\a.w.heap[D]? = some (.deferred (some []))/\¬a.own D)->f.Nodup->Bn h' a->Fr n' a->tmps.size=fn.ntmps->(∀t,V a (Ai j t) (tmps.getD t undef))->Fq n c n' a->LeavesInM Fence.wide 0 P fn tmps R f .returning a.w
 | [],a,_,_,R',F',hs,hv,X=>by
  obtain⟨u,v,h2,i,e,h,E,hw,m,y,x,s⟩:=PV (E':=B6.plain) (a':={ tmps:=tmps,defers:=[] }) F g b R' F' ⟨hs,⟨qg _,λ_=>rfl,by simp,by simp⟩,hv⟩ X;exact⟨u,h,hw▸q u v h2 i e E m y x s⟩
 | d::f,a,hm,hnd,R',F',hs,hv,X=>by
  obtain⟨D,h1,l,k,h4⟩:=hm d (by simp);subst l;refine⟨by simp,.inl ⟨D,(a.shut D).w,rfl,run_takeDeferred k,?_⟩⟩;refine Jc C F g b q f (a.shut D) (λd r=>?_) (jA.1 hnd).2 (T7 k R') F' hs (λt=>kV (KM k) (hv t)) ⟨Qa X.ext (by omega) k,X.le,X.same⟩;obtain⟨o,z,p,A,B⟩:=hm d (by simp[r]);have:o≠D:=by rintro rfl;exact(jA.1 hnd).1 (p▸r)
  exact⟨o,z,p,by rw[HG this];exact A,B⟩
theorem K7 {E:B6} {f:FuncId} {fn:Func} {code:Code} {args:List SV} {h:Hp} {n:Nat} {K:SV->Hp->Nat->Prop} (k:P.funcs[f]? = some fn) (hb:fn.body=some code)
 (hn:(fn.name != "runtime.NumGoroutine")=true) (t:Code.dok fn.ntmps code=true) (hl:args.length<=fn.ntmps)
 (H:(∀a∈args,closed n a=true)->(∀o x,h o=some x->o<n/\BQ n x=true)->∀B,Fs (E.call true B) P fn.ntmps code (MT P fn n K) (Ec 0 args) h n):Ak E P f args h n K:=by
 refine⟨by simp[Kk,k,hb];simpa using hn,λc vs I R F A=>?_⟩;refine(callsIn_wide (n:=0)).1 (callsIn_of_wp_marks k hb trivial (wpIn_mono (H (KS F A) (λo x e=>HP F (R.obj o x e)) c.w.heap.size t c _ I R F (Qm (qa _) A hl)) ?_));rintro e a' w' ⟨sa',h',n',b,⟨y,rs,i,d⟩,rfl,q,m,g,X⟩;have:=Jc (P:=P) (E':=E.call true c.w.heap.size) (R:=λe w'=>∃u v h' n' b,e=.returned u/\K v h' n'/\b.w=w'/\V b v u/\Bn h' b/\Fr n' b/\Fq n c n' b) (qa _) F i d
  (λu v h2 C s z j r p l=>⟨u,v,h2,C,s,rfl,z,rfl,j,r,p,l⟩) a'.defers b g.defers.ok g.defers.nodup q m g.size g.val X
 rcases y with rfl|rfl<;>exact this
end
section plain
variable {α : Type}
def Sg (f:Nat->α) (p:Nat×α):Nat->α:=λk=>if k=p.1 then p.2 else f k
def CN (f:Nat->α) (w:List (Nat×α)):Nat->α:=w.foldl Sg f
def Aq (w:List (Nat×α)):List Nat:=w.map (·.1)
theorem GK {w:List (Nat×α)} {k:Nat}:∀{f:Nat->α},k∉Aq w->CN f w k=f k:=by
 induction w with
 | nil=>intro f _;rfl
 | cons p w ih=>
  intro f a;simp only[Aq,qu,qk,not_or]at a;show CN (Sg f p) w k=f k;rw[ih (by simpa[Aq]using a.2)];simp[Sg,a.1]
theorem LB {w:List (Nat×α)} {k:Nat}:∀{f g:Nat->α},f k=g k->CN f w k=CN g w k:=by
 induction w with
 | nil=>intro f g h;exact h
 | cons p w ih=>
  intro f g h;exact ih (f:=Sg f p) (g:=Sg g p) (by simp only[Sg];rw[h])
theorem UX {w:List (Nat×α)} {k:Nat}:∀{f g:Nat->α},k∈Aq w->CN f w k=CN g w k:=by
 induction w with
 | nil=>intro f g h;simp[Aq]at h
 | cons p w ih=>
  intro f g h;by_cases a:k∈Aq w;exact ih (f:=Sg f p) (g:=Sg g p) a;have:k=p.1:=by simp only[Aq,qu,qk]at h;rcases h with h|h;exact h;exact absurd (by simpa[Aq]using h) a
  show CN (Sg f p) w k=CN (Sg g p) w k;rw[GK a,GK a];simp[Sg,this]
theorem Re {w v:List (Nat×α)} (b:∀k,k∈Aq w->k∉Aq v) (f:Nat->α) (k:Nat):CN (CN f w) v k=CN (CN f v) w k:=by
 by_cases a:k∈Aq w;rw[GK (b k a)];exact UX a;rw[GK a (f:=CN f v)];exact LB (GK a)
def EV:List (List (Nat×α))->(Nat->Bool)->Nat->(Nat->α)->(Nat->α)
 | [],_,_,f=>f
 | w::l,D,i,f=>EV l D (i+1) (if D i then CN f w else f)
theorem KI {D:Nat->Bool} {k:Nat}:∀{l:List (List (Nat×α))} {i:Nat} {f g:Nat->α},f k=g k->EV l D i f k=EV l D i g k
 | [],_,_,_,h=>h
 | w::l,i,f,g,h=>by
  simp only[EV];refine KI ?_;split;exact LB h;exact h
theorem RT {D:Nat->Bool} {k:Nat}:∀{l:List (List (Nat×α))} {i:Nat} {f:Nat->α},(∀q w,l[q]? = some w->D (i+q)=true->k∉Aq w)->EV l D i f k=f k
 | [],_,_,_=>rfl
 | w::l,i,f,h=>by
  simp only[EV];rw[RT λq v b a=>h (q+1) v (by simpa using b) (by rw[show i+(q+1)=i+1+q by omega];exact a)];split;rename_i a;exact GK (h 0 w rfl a);rfl
theorem RS {D:Nat->Bool} {v:List (Nat×α)}:∀{l:List (List (Nat×α))} {i:Nat} {f:Nat->α},(∀q w,l[q]? = some w->D (i+q)=true->∀k,k∈Aq v->k∉Aq w)->
 ∀k,EV l D i (CN f v) k=CN (EV l D i f) v k
 | [],_,_,_,_=>rfl
 | w::l,i,f,h,k=>by
  simp only[EV];have b:=λg=>RS (D:=D) (v:=v) (l:=l) (i:=i+1) (f:=g) λq w c a=>h (q+1) w (by simpa using c) (by rw[show i+(q+1)=i+1+q by omega];exact a);by_cases a:D i=true;rw[if_pos a,if_pos a,<-b];exact KI (Re (h 0 w rfl a) f k);rw[if_neg a,if_neg a,b]
theorem JC {D:Nat->Bool} {p:Nat} {v:List (Nat×α)} (hp:D p=false):∀{l:List (List (Nat×α))} {i:Nat} {f:Nat->α},i<=p->l[p-i]? = some v->
 (∀q w,p<q->i<=q->l[q-i]? = some w->D q=true->∀k,k∈Aq v->k∉Aq w)->∀k,EV l (λq=>D q||q==p) i f k=CN (EV l D i f) v k
 | [],_,_,_,h,_,_=>by simp at h
 | w::l,i,f,hi,hv,h,k=>by
  simp only[EV];by_cases e:i=p;subst e;simp only[Nat.sub_self,jG,qh]at hv;subst hv;have c:∀g:Nat->α,∀k,EV l (λq=>D q||q==i) (i+1) g k=EV l D (i+1) g k:=by
   intro g;have a:∀(l:List (List (Nat×α))) (j:Nat) (g:Nat->α),i<j->∀k,EV l (λq=>D q||q==i) j g k=EV l D j g k:=by
    intro l
    induction l with
    | nil=>intros;rfl
    | cons u l ih=>
     intro j g hj k;simp only[EV];have:(j==i)=false:=by simp;omega
     simp only[this,Bool.or_false];exact ih (j+1) _ (by omega) k
   exact a l (i+1) g (by omega)
  simp only[beq_self_eq_true,Bool.or_true,if_true,hp,qj,if_false];rw[c];exact RS (λq u s o k r=>h (i+1+q) u (by omega) (by omega) (by rw[show i+1+q-i=q+1 by omega];simpa using s) o k r) k;have b:(i==p)=false:=by simp;exact e
  simp only[b,Bool.or_false];refine JC hp (by omega) ?_ ?_ k;rw[show p-i=(p-(i+1))+1 by omega]at hv;simpa using hv;intro q u d h2 m n;exact h q u d (by omega) (by rw[show q-i=(q-(i+1))+1 by omega];simpa using m) n
theorem HE {D E:Nat->Bool} {k:Nat}:∀{l:List (List (Nat×α))} {i:Nat} {f:Nat->α},(∀q w,i<=q->l[q-i]? = some w->D q≠E q->k∉Aq w)->EV l D i f k=EV l E i f k
 | [],_,_,_=>rfl
 | w::l,i,f,h=>by
  simp only[EV];have c:=λg=>HE (D:=D) (E:=E) (k:=k) (l:=l) (i:=i+1) (f:=g) λq u hq d a=>h q u (by omega) (by rw[show q-i=(q-(i+1))+1 by omega];simpa using d) a;by_cases e:D i=E i;rw[e];exact c _;have hw:=h i w (qa _) (by simp) e;rw[c];refine KI ?_;have a1:∀b:Bool,(if b=true then CN f w else f) k=f k:=λb=>by cases b;rfl;exact GK hw
  rw[a1,a1]
end plain
theorem SO {P:Program} {ev w:Operand->SV} {h h':Hp} {k:Nat} {H:Op} (g:∀x∈H.operands,ev x=w x) (J:∀j∈Ek ev H,h j=h' j):dV P ev h k H=dV P w h' k H:=by
 have C:∀s:SV,(∀j∈s.ids,h j=h' j)->flat h s=flat h' s:=λs E=>by
  cases s<;>simp only[flat];rw[E _ (by simp[SV.ids])]
 have G:∀(t:TypeId) (s:SV),(∀j∈s.ids,h j=h' j)->Jd P h t s=Jd P h' t s:=λt s E=>by
  cases s<;>simp only[Jd];rw[E _ (by simp[SV.ids])]
 have K:∀s:SV,(∀j∈s.ids,h j=h' j)->KX h s=KX h' s:=λs E=>by
  cases s<;>simp only[KX];rw[E _ (by simp[SV.ids])]
 cases H with
 | move x|assign x=>simp only[dV];rw[g x (by simp[Op.operands])]
 | pick a b d=>simp only[dV];rw[g a (by simp[Op.operands]),g b (by simp[Op.operands]),g d (by simp[Op.operands])]
 | alloc e=>rfl
 | box e x=>simp only[dV];rw[g x (by simp[Op.operands])]
 | build t ps=>
  have:(ps.toList.map λp=>(p.1,ev p.2))=ps.toList.map λp=>(p.1,w p.2):=jT λp hp=>by rw[g p.2 (NG hp)]
  simp only[dV,this]
 | buildSlice t l ps=>
  have:(ps.toList.map λp=>(p.1,ev p.2))=ps.toList.map λp=>(p.1,w p.2):=jT λp hp=>by rw[g p.2 (H7 hp)]
  simp only[dV,this]
 | load t a=>
  simp only[dV];rw[G t _ (λj D=>J j (by simpa only[Ek]using D)),g a (by simp[Op.operands])]
 | store t a x=>
  simp only[dV];have B:∀j∈(ev a).ids,h j=h' j:=λj D=>J j (by simpa only[Ek]using D);rw[<-g a (by simp[Op.operands]),<-g x (by simp[Op.operands])];cases M:ev a<;>simp only[OB];rw[M]at B;rw[B _ (by simp[SV.ids])]
 | nilCheck x=>simp only[dV];rw[g x (by simp[Op.operands])]
 | binOp H t x y t2=>simp only[dV];rw[g x (by simp[Op.operands]),g y (by simp[Op.operands])]
 | unOp H t x=>simp only[dV];rw[g x (by simp[Op.operands])]
 | convert a b x=>simp only[dV];rw[g x (by simp[Op.operands])]
 | makeFunc f a b=>
  have I:a.toList.map ev=a.toList.map w:=jT λx F=>g x (by simp[Op.operands]at F ⊢;exact .inl F);have L:b.toList.map ev=b.toList.map w:=jT λx F=>g x (by simp[Op.operands]at F ⊢;exact .inr F);simp only[dV,I,L]
 | makeMap t r=>rfl
 | makeSlice t l c=>simp only[dV];rw[g l (by simp[Op.operands]),g c (by simp[Op.operands])]
 | slice t x lo hi mx=>
  have I:lo.map ev=lo.map w:=by cases lo with|none=>rfl|some y=>simp[g y (by simp[Op.operands])]
  have L:hi.map ev=hi.map w:=by cases hi with|none=>rfl|some y=>simp[g y (by simp[Op.operands])]
  have N:mx.map ev=mx.map w:=by cases mx with|none=>rfl|some y=>simp[g y (by simp[Op.operands])]
  simp only[dV,I,L,N];rw[g x (by simp[Op.operands])]
 | fieldAddr t x i=>simp only[dV];rw[g x (by simp[Op.operands])]
 | field t x i=>simp only[dV];rw[g x (by simp[Op.operands])]
 | indexAddr t x i=>simp only[dV];rw[g x (by simp[Op.operands]),g i (by simp[Op.operands])]
 | index t x i=>simp only[dV];rw[g x (by simp[Op.operands]),g i (by simp[Op.operands])]
 | lookup t m y ok=>
  simp only[dV];rw[K _ (λj D=>J j (by simpa only[Ek]using D)),g m (by simp[Op.operands]),g y (by simp[Op.operands])]
 | mapUpdate t m y x =>
  simp only[dV];have B:∀j∈(ev m).ids,h j=h' j:=λj D=>J j (by simpa only[Ek]using D);rw[<-g m (by simp[Op.operands]),<-g y (by simp[Op.operands]),<-g x (by simp[Op.operands])];cases Ko P t with
  | none=>rfl
  | some q=>
   obtain⟨kt,ee⟩:=q;cases M:ev m<;>try rfl
   rw[M]at B;simp only;rw[B _ (by simp[SV.ids])]
 | extract x i=>simp only[dV];rw[g x (by simp[Op.operands])]
 | call cl =>
  obtain⟨callee,args,R⟩:=cl;cases callee with
  | value f=>rfl
  | invoke r m=>rfl
  | builtin b =>
   have I:args.toList.map ev=args.toList.map w:=jT λx F=>g x (by simp[Op.operands,Call.operands];simpa using F);simp only[dV];rw[<-I];have u:∀s∈args.toList.map ev,∀j∈(match b,s with|.len,.sl ..=>[]|_,v=>v.ids),h j=h' j:=λs E j D=>by
    simp only[qy]at E;obtain⟨x,F,rfl⟩:=E;exact J j (by simp only[Ek,jo];exact⟨x,F,D⟩)
   generalize args.toList.map ev=A at u;by_cases hb:b=.len
   . subst hb;generalize hts:R.toList=T
     match T,A,u with
     | [t],[x],u=>
      simp only[AU];cases x<;>try rfl
      rename_i o;simp only;rw[u (.map o) (by simp) o (by simp[SV.ids])]
     | [],_,_=>rfl
     | _::_::_,_,_=>rfl
     | [_],[],_=>rfl
     | [_],_::_::_,_=>rfl
   have n:∀s∈A,∀j∈s.ids,h j=h' j:=λs E j D=>u s E j (by cases b<;>first|exact absurd rfl hb|(cases s<;>exact D));unfold AU;split
   . rename_i t x _;have B:=n x (by simp);cases x<;>try rfl
     simp only;rw[B _ (by simp[SV.ids])]
   rfl;rename_i t t2 s x _;have B:=C s (n s (by simp));have h2:=C x (n x (by simp));simp only[Cm,h2];cases s with
   | imm z es full=>cases full<;>rfl
   | sl o off z len full=>
    have O:h o=h' o:=n (.sl o off z len full) (by simp) o (by simp[SV.ids]);have Q:∀e,HI h e o off=HI h' e o off:=λe=>by unfold HI;rw[O]
    simp only[B,Q]
   | _=>rfl
   . rename_i t t2 d x _;have B:=n d (by simp);have h2:=C x (n x (by simp));simp only[Oi,h2];cases d<;>try rfl
     simp only;rw[B _ (by simp[SV.ids])]
   . rename_i t d _;have B:=n d (by simp);simp only[LI];cases d<;>try rfl
     simp only;rw[B _ (by simp[SV.ids])]
   rfl;rfl;rename_i t t2 o y _;have B:=n (.map o) (by simp);rw[B _ (by simp[SV.ids])];rfl
 | _=>rfl
def Nn (f:Nat->SV):Operand->SV
 | .tmp t=>f t
 | .const v=>ofValue v
 | .global _=>.junk
 | .func g=>.fn (.func g) [] []
theorem QI (sa:SA):Gp sa=Nn (Ai sa):=by funext x;cases x<;>rfl
def Fu (ops:Array Oper) (f:Nat->SV) (o:Oper):Option Bool:=
 match o.guard with
 | none=>some true
 | some (j,want)=>
  match(ops[j]?).bind (·.dst)with
  | some d=>match f d with|.bool b=>some (b==want)|.tup []=>some false|_=>none
  | none=>none
theorem Id (ops:Array Oper) (sa:SA) (o:Oper):Dg ops sa o=Fu ops (Ai sa) o:=rfl
structure Sa (E:B6) (N:Nat) (f:Nat->SV) (c:Cx) (a:Act):Prop where
 size:a.tmps.size=N
 defers:OO E c a.defers
 val:∀t,V c (f t) (a.tmps.getD t undef)
structure CR where
 dst:Option Tmp
 val:SV
 foot:List Nat:=[]
 wr:List (Nat×Option BT):=[]
 new:List (Nat×Option BT):=[]
def CR.tw (r:CR):List (Nat×SV):=r.dst.toList.map λd=>(d,r.val)
def CR.hw (r:CR):List (Nat×Option BT):=r.wr++r.new
def Ju (E:B6) (P:Program) (N:Nat) (o:Oper) (f:Nat->SV) (h:Hp) (n:Nat) (r:CR):Prop:=
 ∀(f':Nat->SV) (h':Hp) (c:Cx) (a:Act) (Kr:Act->World->Prop) (Qr:Exit->Act->World->Prop),(∀x∈o.op.operands,Nn f' x=Nn f x)->(∀j∈r.foot,h' j=h j)->E.inv c->Bn h' c->Fr n c->
  (∀j∈Aq r.new,c.ρ j=none)->Sa E N f' c a->
  (∀c' u,V c' r.val u->Bn (CN h' r.hw) c'->Fr n c'->DZ c c'->(∀j,j∉Aq r.new->c'.ρ j=c.ρ j)->Kr (a.put o.dst u) c'.w)->o.wpIn E.fc 0 P a c.w Kr Qr
def K8 (E:B6) (P:Program) (g:FuncId) (aS:List SV) (foot:List Nat) (wr:List (Nat×Option BT)) (v:SV) (h:Hp):Prop:=
 ∀(h':Hp) (n:Nat),(∀j∈foot,h' j=h j)->Ak E P g aS h' n λv' h2 n2=>v'=v/\h2=CN h' wr/\n2=n
def Ex (ops:Array Oper) (j i:Nat):Bool:=match ops[i]? with|some o=>o.after.any λe=>Region.binds .any e&&e.on==j|none=>false
def FA (ops:Array Oper):Bool:=(List.range ops.size).all λi=>
 match ops[i]? with
 | some oi=>(oi.after.all λe=>!Region.binds .any e||decide (e.on<i))&&(List.range i).all λj=>Ex ops j i||(match ops[j]? with|some oj=>oj.apart ops oi|none=>true)
 | none=>true
theorem N9 {ops:Array Oper} (h:FA ops=true) {i:Nat} {b:Oper} (hi:ops[i]? = some b):∀e∈b.after,Region.binds .any e=true->e.on<i:=by
 intro e c hb;have a:=(qp.1 hi).1;have:=jj.1 h i (List.mem_range.2 a);simp only[hi,qq]at this;have:=Array.all_eq_true'.1 this.1 e c;simpa[hb]using this
theorem Gs {ops:Array Oper} (h:FA ops=true) {i j:Nat} {c d:Oper} (hi:ops[i]? = some c) (f:ops[j]? = some d) (a:j<i) (e:Ex ops j i=false):d.apart ops c=true:=by
 have b:=(qp.1 hi).1;have:=jj.1 h i (List.mem_range.2 b);simp only[hi,qq]at this;have:=jj.1 this.2 j (List.mem_range.2 a);simpa[e,f]using this
structure Qn (E:B6) (P:Program) (N:Nat) (ops:Array Oper) (f0:Nat->SV) (h0:Hp) (n0 n:Nat) (rs:List CR):Prop where
 len:rs.length=ops.size
 stat:FA ops=true
 dok:∀(i:Nat) (o:Oper),ops[i]? = some o->∀d,o.dst=some d->d<N
 ok:∀(i:Nat) (o:Oper) (r:CR),ops[i]? = some o->rs[i]? = some r->r.dst=o.dst/\(∀j∈Aq r.wr,j∈r.foot)/\
  ((Fu ops (EV (rs.map CR.tw) (λq=>decide (q<i)) 0 f0) o=some false/\r.val=.tup []/\r.foot=[]/\r.wr=[]/\r.new=[])\/
   (Fu ops (EV (rs.map CR.tw) (λq=>decide (q<i)) 0 f0) o=some true/\
    Ju E P N o (EV (rs.map CR.tw) (λq=>decide (q<i)) 0 f0) (EV (rs.map CR.hw) (λq=>decide (q<i)) 0 h0) n r))
 ind:∀(i j:Nat) (ri rj:CR),j<i->rs[i]? = some ri->rs[j]? = some rj->Ex ops j i=false->
  (∀k∈Aq rj.wr,k∉ri.foot)/\(∀k∈Aq ri.wr,k∉rj.foot)/\(∀k∈Aq rj.new,k∉ri.foot)
 newlo:∀(i:Nat) (r:CR),rs[i]? = some r->∀k∈Aq r.new,n0<=k/\k<n
 newne:∀(i j:Nat) (ri rj:CR),i≠j->rs[i]? = some ri->rs[j]? = some rj->∀k∈Aq ri.new,k∉Aq rj.new
 newfoot:∀(i j:Nat) (ri rj:CR),j<=i->rs[i]? = some ri->rs[j]? = some rj->∀k∈Aq ri.new,k∉rj.foot
section
variable {E : B6} {P : Program} {N : Nat} {ops : Array Oper} {f0 : Nat → SV} {h0 : Hp} {n0 n : Nat} {rs : List CR}
theorem LX {f:Nat->SV} {c:Cx} {a:Act} {o:Oper} {b:Bool} (F:Sa E N f c a) (h:Fu ops f o=some b):Region.wanted o (yielded ops a.tmps)=b:=by
 unfold Fu at h;unfold Region.wanted;split at h;rename_i e;rw[e];simpa using h
 . rename_i j want e;rw[e];split at h<;>try cases h
   rename_i d k;split at h<;>try cases h
   rename_i l hb;have g:=F.val d;rw[hb]at g;have:=Gm g;simp only[yielded,k,qJ];have i:a.tmps[d]? = some (.bool l):=by
    rcases ji d a.tmps.size with hl|hl;rw[qZ,jd hl]at this;rw[jd hl];simpa using this;rw[qZ,jg hl]at this;cases this
   rw[i];simp;rename_i hb;have g:=F.val d;rw[hb,V]at g;obtain⟨vs,g,_⟩:=g;simp only[yielded,k,qJ];rcases ji d a.tmps.size with hl|hl;rw[qZ,jd hl]at g;rw[jd hl];simp only[Option.getD_some]at g;rw[g];rfl;rw[jg hl];rfl
theorem OE {r:CR} {t:Nat}:t∈Aq r.tw↔r.dst=some t:=by
 unfold CR.tw Aq;cases h:r.dst<;>simp[eq_comm]
theorem Sa.put {f:Nat->SV} {c:Cx} {a:Act} (h:Sa E N f c a) {r:CR} (g:∀d,r.dst=some d->d<N) {u:Value} (j:V c r.val u):Sa E N (CN f r.tw) c (a.put r.dst u):=by
 unfold CR.tw;cases e:r.dst with
 | none=>exact h
 | some d=>
  refine⟨by simpa[Act.put]using h.size,h.defers,λt=>?_⟩;simp only[Option.toList_some,qu,qS,CN,qM,List.foldl_nil,Sg,Act.put];by_cases b:t=d;subst b;have:=g t e;have i:=h.size;simp[i,this,j];simp only[b,if_false];have:=h.val t;simpa[jH (Ne.symm b)]using this
structure At (E:B6) (P:Program) (N:Nat) (ops:Array Oper) (f0:Nat->SV) (h0:Hp) (n0 n:Nat) (rs:List CR) (c0:Cx) (listed:Array Bool) (c:Cx) (a:Act):Prop where
 size:listed.size=ops.size
 closed:∀(i:Nat) (o:Oper),ops[i]? = some o->listed.getD i false=true->∀e∈o.after,Region.binds .any e=true->listed.getD e.on false=true
 inv:E.inv c
 rel:Bn (EV (rs.map CR.hw) (λq=>listed.getD q false) 0 h0) c
 fr:Sa E N (EV (rs.map CR.tw) (λq=>listed.getD q false) 0 f0) c a
 free:Fr n c
 ext:DZ c0 c
 same:∀j,j<n0->c.ρ j=c0.ρ j
 new:∀(i:Nat) (r:CR),rs[i]? = some r->listed.getD i false=false->∀k∈Aq r.new,c.ρ k=none
theorem Gc {a:Array Bool} {i:Nat} (h:i<a.size) (b:Bool):a.getD i b=a[i]:=by simp[Array.getD,h]
theorem Rl (G:Qn E P N ops f0 h0 n0 n rs) {c0 c:Cx} {b:Array Bool} {a:Act} (A:At E P N ops f0 h0 n0 n rs c0 b c a) {i:Nat} (hi:i∈Region.ready .any ops b)
 {Qr:Exit->Act->World->Prop} {Kr:Act->World->Prop} (hK:∀J a',At E P N ops f0 h0 n0 n rs c0 (b.setIfInBounds i true) J a'->Kr a' J.w):wpOpIn E.fc 0 P ops Qr i Kr a c.w:=by
 obtain⟨hun,o,S,U⟩:=mem_ready.1 hi;have R:=(qp.1 S).1;have z:b.getD i false=false:=by rw[Gc (by rw[A.size];exact R)]at hun ⊢;exact hun
 obtain⟨r,K⟩:∃r,rs[i]? = some r:=⟨rs[i]'(by rw[G.len];exact R),by simp⟩
 obtain⟨L,hwf,hok⟩:=G.ok i o r S K;have H:∀{α:Type} (g:CR->List (Nat×α)) (q:Nat) (w:List (Nat×α)),(rs.map g)[q]? = some w->∃v,rs[q]? = some v/\w=g v:=λg q w f=>by
  simp only[qO,qX]at f;obtain⟨v,Q,rfl⟩:=f;exact⟨v,Q,rfl⟩
 have Z:∀(q:Nat) (v:CR),rs[q]? = some v->∃Z,ops[q]? = some Z:=λq v f=>⟨ops[q]'(by rw[<-G.len];exact(qo.1 f).1),by simp⟩
 have e1:∀q,b.getD q false=false->Ex ops q i=false:=λq f=>by
  unfold Ex;rw[S];simp only;rw[Array.any_eq_false'];intro e he;rw[qq,beq_iff_eq];rintro⟨hb,rfl⟩;rw[U e he hb]at f;cases f
 have e2:∀q,b.getD q false=true->Ex ops i q=false:=λq f=>by
  unfold Ex;cases y:ops[q]? with
  | none=>rfl
  | some Z=>
   simp only;rw[Array.any_eq_false'];intro e he;rw[qq,beq_iff_eq];rintro⟨hb,rfl⟩;have:=A.closed q Z y f e he hb;rw[z]at this;cases this
 have D:∀t,t∈o.looksAt ops->EV (rs.map CR.tw) (λq=>b.getD q false) 0 f0 t=EV (rs.map CR.tw) (λq=>decide (q<i)) 0 f0 t:=λt ht=>by
  refine HE λq w _ hw s=>?_;rw[kF]at hw;obtain⟨v,l,rfl⟩:=H _ q w hw;obtain⟨M,y⟩:=Z q v l;have hdq:=(G.ok q M v y l).1;rw[OE,hdq];intro hdt;rcases Nat.lt_trichotomy q i with f|f|f;have W:b.getD q false=false:=by cases T:b.getD q false with|false=>rfl|true=>rw[T]at s;simp[f]at s
  exact(Oper.apart_spec (Gs G.stat S y f (e1 q W))).1 t hdt ht;subst f;rw[z]at s;simp at s;have hl:b.getD q false=true:=by cases T:b.getD q false with|true=>rfl|false=>rw[T]at s;simp[Nat.not_lt.2 (kx f)]at s
  exact(Oper.apart_spec (Gs G.stat y S f (e2 q hl))).2.2 t hdt ht
 have O:∀k∈r.foot,EV (rs.map CR.hw) (λq=>b.getD q false) 0 h0 k=EV (rs.map CR.hw) (λq=>decide (q<i)) 0 h0 k:=λk B=>by
  refine HE λq w _ hw s=>?_;rw[kF]at hw;obtain⟨v,l,rfl⟩:=H _ q w hw;simp only[CR.hw,Aq,qc,qe];rcases Nat.lt_trichotomy q i with f|f|f;have W:b.getD q false=false:=by cases T:b.getD q false with|false=>rfl|true=>rw[T]at s;simp[f]at s
  have:=G.ind i q r v f K l (e1 q W);rintro(Q|Q);exact this.1 k Q B;exact this.2.2 k Q B;subst f;rw[z]at s;simp at s;have hl:b.getD q false=true:=by cases T:b.getD q false with|true=>rfl|false=>rw[T]at s;simp[Nat.not_lt.2 (kx f)]at s
  have:=G.ind q i v r f l K (e2 q hl);rintro(Q|Q);exact this.2.1 k Q B;exact G.newfoot q i v r (kx f) l K k Q B
 have hD:(λq=>(b.setIfInBounds i true).getD q false)=λq=>b.getD q false||q==i:=by
  funext q;by_cases f:q=i;subst f;simp[A.size,R];have:(q==i)=false:=by simp;exact f
  rw[this,Bool.or_false];simp[jH (Ne.symm f)]
 have insT:∀t,EV (rs.map CR.tw) (λq=>b.getD q false||q==i) 0 f0 t=CN (EV (rs.map CR.tw) (λq=>b.getD q false) 0 f0) r.tw t:=by
  refine JC z (qg _) (by simp[K]) λq w f _ hw hl k B m=>?_;rw[kF]at hw;obtain⟨v,l,rfl⟩:=H _ q w hw;obtain⟨M,y⟩:=Z q v l;rw[OE,L]at B;rw[OE,(G.ok q M v y l).1]at m;exact(Oper.apart_spec (Gs G.stat y S f (e2 q hl))).2.1 k B m
 have insH:∀k,EV (rs.map CR.hw) (λq=>b.getD q false||q==i) 0 h0 k=CN (EV (rs.map CR.hw) (λq=>b.getD q false) 0 h0) r.hw k:=by
  refine JC z (qg _) (by simp[K]) λq w f _ hw hl k B m=>?_;rw[kF]at hw;obtain⟨v,l,rfl⟩:=H _ q w hw;obtain⟨M,y⟩:=Z q v l;have hI:=G.ind q i v r f l K (e2 q hl);have hwq:=(G.ok q M v y l).2.1;simp only[CR.hw,Aq,qc,qe]at B m;rcases B with B|B<;>rcases m with m|m;exact hI.1 k B (hwq k m);exact G.newfoot q i v r (kx f) l K k m (hwf k B);exact hI.2.2 k B (hwq k m);exact G.newne i q r v (by omega) K l k B m
 have F:∀J u,V J r.val u->Bn (CN (EV (rs.map CR.hw) (λq=>b.getD q false) 0 h0) r.hw) J->Fr n J->DZ c J->(∀j,j∉Aq r.new->J.ρ j=c.ρ j)->Kr (a.put o.dst u) J.w:=by
  intro J u hv R' F' X' hρ;refine hK J _ ⟨by simp[A.size],λj oj X hl e he hb=>?_,E.ext X' A.inv,?_,?_,F',A.ext.trans X',λj hj=>?_,λj rj hrj hl k B=>?_⟩;by_cases I:j=i;subst I;rw[S]at X;cases X;exact getD_set_true (U e he hb);rw[getD_set_ne false (Ne.symm I)]at hl;exact getD_set_true (A.closed j oj X hl e he hb);rw[hD];have:EV (rs.map CR.hw) (λq=>b.getD q false||q==i) 0 h0=CN (EV (rs.map CR.hw) (λq=>b.getD q false) 0 h0) r.hw:=funext insH;rw[this];exact R';rw[hD];have:EV (rs.map CR.tw) (λq=>b.getD q false||q==i) 0 f0=CN (EV (rs.map CR.tw) (λq=>b.getD q false) 0 f0) r.tw:=funext insT;rw[this,<-L];have FE:Sa E N (EV (rs.map CR.tw) (λq=>b.getD q false) 0 f0) J a:=⟨A.fr.size,A.fr.defers.mono X',λt=>kR X' (A.fr.val t)⟩
  exact FE.put (λd hd=>G.dok i o S d (by rw[<-L];exact hd)) hv;rw[hρ j λhj2=>by have:=(G.newlo i r K j hj2).1;omega];exact A.same j hj;by_cases I:j=i;subst I;rw[show(b.setIfInBounds j true).getD j false=true by simp[A.size,R]]at hl;cases hl;rw[getD_set_ne false (Ne.symm I)]at hl;rw[hρ k λm=>G.newne j i rj r I hrj K k B m];exact A.new j rj hrj hl k B
 have C:Fu ops (EV (rs.map CR.tw) (λq=>b.getD q false) 0 f0) o=Fu ops (EV (rs.map CR.tw) (λq=>decide (q<i)) 0 f0) o:=by
  unfold Fu;cases hg:o.guard with
  | none=>rfl
  | some p =>
   obtain⟨j,want⟩:=p;simp only;cases hd:(ops[j]?).bind (·.dst)with
   | none=>rfl
   | some d=>
    simp only;rw[D d (by simp[Oper.looksAt,hg,hd])]
 unfold wpOpIn;rw[S];simp only;rcases hok with⟨hg,hv,_,hw0,hn0⟩|⟨hg,Y⟩
 rw[LX A.fr (C.trans hg)];simp only[qj,if_false];refine⟨λ_ _=>trivial,?_⟩;refine F c undef (by rw[hv];exact Ku) ?_ A.free (kZ c) λ_ _=>rfl;have:r.hw=[]:=by simp[CR.hw,hw0,hn0]
 rw[this];exact A.rel;rw[LX A.fr (C.trans hg),if_pos rfl];refine(Y _ _ c a _ _ (λx T=>?_) O A.inv A.rel A.free (A.new i r K z) A.fr F);cases x with
 | tmp t=>exact D t (by simp only[Oper.looksAt,qe,List.mem_filterMap];exact .inl ⟨.tmp t,by simpa using T,rfl⟩)
 | _=>rfl
end
end Go.Proofs.YtgakninlhfkkmaaGreat.Sh
