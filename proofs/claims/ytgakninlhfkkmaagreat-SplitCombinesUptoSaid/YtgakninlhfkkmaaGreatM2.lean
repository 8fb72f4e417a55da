/- A part of the proof (part 2 of 17). -/
import Derived.Test.YtgakninlhfkkmaaGreatM1
import Derived.ArgAppend
import Derived.Tactics
import Derived.TacticsIn
import Derived.OrdersIn
import Derived.RangeFuncSeq
import Derived.RangeFuncLeaves
import Derived.Orders
namespace Go.Proofs.YtgakninlhfkkmaaGreat.Sh
abbrev jS:=@AZ.append
abbrev kL:=@V2.mono
abbrev kR:=@V.mono
abbrev kV:=@V.mono0
abbrev kZ:=@DZ.refl
abbrev va:=@VL.mono0
abbrev vc:=@AZ.mono
section
variable {P : Program} {ev : Operand → Value} {o : Oper} {h : Hp} {k : Nat} {c : Cx}
theorem GG (w:World):w.drew.heap=w.heap:=rfl
def Cx.drew (c:Cx):Cx:={ c with w:=c.w.drew }
theorem Cx.drew_ext (c:Cx):DZ c c.drew:=⟨λ_ _ e=>e,qa _,λ_ _ h=>⟨h,rfl⟩,λ_=>qa _,rfl,rfl,⟨rfl,je _⟩⟩
theorem Bn.drew (R:Bn h c):Bn h c.drew:=
 ⟨λo x e=>(R.obj o x e).mono c.drew_ext λ_ _=>rfl,R.inj2,R.own2⟩
def Cx.kill (c:Cx) (o:Nat):Cx:={ c with own:=λb=>c.own b/\∀st,c.ρ o≠some (b,st) }
theorem Cx.kill_ext (c:Cx) (o:Nat):DZ c (c.kill o):=⟨λ_ _ e=>e,qa _,λ_ _ h=>⟨λg=>h g.1,rfl⟩,λ_=>qa _,rfl,rfl,⟨rfl,qa _⟩⟩
theorem Bn.kill (R:Bn h c) (o:Nat) {x:BT} (ho:h o=some x) (hx2:x.lst=false:=by rfl):Bn (hset h o none) (c.kill o):=by
 have get:∀j y,hset h o none j=some y->j≠o/\h j=some y:=λj y e=>by
  simp only[hset]at e;split at e;cases e;exact⟨by assumption,e⟩
 refine⟨λj y e=>?_,λi j y y' b e1 e2 e3 e4=>?_,λb=>?_⟩;exact(R.obj j y (get j y e).2).mono (c.kill_ext o) λ_ _=>rfl;exact R.inj2 i j y y' b (get i y e1).2 (get j y' e2).2 e3 e4;constructor;rintro⟨g1,g2⟩;obtain⟨j,y,e1,e2⟩:=(R.own2 b).1 g1;have hj:j≠o:=by
  rintro rfl;rw[ho]at e1;cases e1;rcases e2 with⟨st,e2⟩|⟨e2,_⟩
  exact g2 st e2;rw[hx2]at e2;cases e2
 exact⟨j,y,by simp[hset,hj,e1],e2⟩;rintro⟨j,y,e1,e2⟩;obtain⟨hj,e1⟩:=get j y e1;exact⟨(R.own2 b).2 ⟨j,y,e1,e2⟩,λst' e'=>hj (R.inj2 j o y x b e1 ho e2 (.inl ⟨st',e'⟩))⟩
theorem KE {cs:List SV} {ty:Option TypeId} {vs:List Value} {arr:Array Value} {e:TypeId} (R:Bn h c) (hk:c.ρ k=none) (hc:AZ (V c) cs vs) (h1:∀x∈vs,x.oneCell'=true)
 (ha:∀(i:Nat) (x:Value),vs[i]? = some x->arr[i]? = some x) (hty:Ty ty 0 e):Bn (hset h k (some (.cells cs ty))) (c.alloc k (.cells arr e)):=
 R.alloc hk ⟨c.w.heap.size,0,arr,e,vs,by simp[Cx.alloc],by simp[Cx.alloc,Bk],λi x hx=>by simpa using ha i x hx,kL (c.alloc_ext k _ hk) hc,h1,hty⟩
theorem Wp {t2 e2:TypeId} {z m:Nat} {u:Value} {a:Option Addr} {cap:Nat} {vs:List Value} (h2:P.underlying t2=some (.slice e2)) (hu:u=.slice a m cap) (hl:vs.length=m*z)
 (h1:∀x∈vs,x.oneCell'=true) (w:World)
 (hc:match a with|some a=>(vs≠[]->a.spot=none)/\∀(i:Nat) (x:Value),vs[i]? = some x->w.cell? ⟨a.block,a.off+i,none⟩=some x|none=>m=0/\cap=0/\vs=[]):Src P z t2 u m vs w:=by
 subst hu;have hfirst:∀w':World,(∀b,w'.cell? b=w.cell? b)->(Builtin.firstCells z m (.slice a m cap)).run P w'=.ok vs.toArray w':=λw' hw=>by
  cases a with
  | none=>obtain⟨_,_,rfl⟩:=hc;simp[Builtin.firstCells]
  | some a=>
   have:=run_loadCells_list (P:=P) w' a vs (λj v hv=>by rw[Cr (hc.1 (by rintro rfl;simp at hv)),hw];exact hc.2 j v hv);rw[hl]at this;simpa[Builtin.firstCells]using this
 exact⟨.inl ⟨e2,h2⟩,λw'=>by simp[Builtin.lenOf],hfirst w λ_=>rfl,hfirst w.drew λ_=>rfl,hl,h1⟩
theorem Tp {o' off:Nat} {cs xs ys:List SV} {ty ty':Option TypeId} {vx:List Value} {b st n:Nat} (R:Bn h c) (hk:c.ρ k=none) (ho:h o'=some (.cells cs ty)) (hty:∀t,ty'=some t->off=0/\ty=some t) (hρ:c.ρ o'=some (b,st))
 (hx:Bg cs off n=some xs) (hroom:st+off+n+vx.length<=rm c.w b) (hy:AZ (V c) ys vx) (h1:∀x∈vx,x.oneCell'=true):
 ∃c':Cx,c'.w=c.w.setCells b (st+off+n) vx/\c'.ρ=(λj=>if j=k then some (b,st+off)else c.ρ j)/\Bn (hset (hset h o' none) k (some (.cells (xs++ys) ty'))) c'/\DZ c c'/\
  (∀j,j<vx.length->(c.w.cell? ⟨b,st+off+n+j,none⟩).isSome=true)/\(∀j,j<vx.length->c.w.frozen? ⟨b,st+off+n+j,none⟩=false):=by
 have hne:o'≠k:=by rintro rfl;rw[hρ]at hk;cases hk
 have hn:=R.none_of hk;obtain⟨b',st',arr,e,vs,g1,g2,g3,g4,g5,g6⟩:=R.obj _ _ ho;rw[hρ]at g1;cases g1;obtain⟨hle,rfl⟩:=Ef hx;have hrm:rm c.w b=arr.size:=by simp[rm,g2]
 rw[hrm]at hroom;have hlen:=g4.length;have hcells:∀j,j<vx.length->(c.w.cell? ⟨b,st+off+n+j,none⟩).isSome=true:=λj hj=>by
  simp only[World.cell?,g2];rw[jd (by omega)];rfl
 have hfro:∀j,c.w.frozen? ⟨b,st+off+n+j,none⟩=false:=λj=>by simp[World.frozen?,g2]
 have r1:=run_storeCells_cells (P:=default) b (st+off+n) vx 0 c.w (by simpa using hcells) (by simpa using λj _=>hfro j) h1;have r2:=run_storeCells_at (P:=default) b (st+off+n) e vx 0 arr c.w g2 (by omega) h1;rw[r1]at r2;simp only[jJ,Result.ok.injEq,true_and]at r2;have hnew:=setRow_heap c.w b arr (arr.toList.take (st+off+n)++vx++arr.toList.drop (st+off+n+vx.length)).toArray e (0,0) g2;rw[<-r2]at hnew;have hoth:∀b',b'≠b->(c.w.setCells b (st+off+n) vx).heap[b']? = c.w.heap[b']?:=λb' hb=>by rw[r2];exact Ha _ _ _ hb
 have hsz:(c.w.setCells b (st+off+n) vx).heap.size=c.w.heap.size:=by rw[r2];exact IJ _ _ _
 refine⟨{ ρ:=λj=>if j=k then some (b,st+off)else c.ρ j,own:=c.own,w:=c.w.setCells b (st+off+n) vx,bk:=c.bk },rfl,rfl,?_⟩;have E:DZ c { ρ:=λj=>if j=k then some (b,st+off)else c.ρ j,own:=c.own,w:=c.w.setCells b (st+off+n) vx,bk:=c.bk }:=by
  refine⟨λj p ej=>?_,by simp[hsz],λb' hb' hno=>⟨hno,hoth b' ?_⟩,λb'=>?_,by rw[r2];rfl,by rw[r2];rfl,by rw[r2];exact⟨rfl,qa _⟩⟩;simp only;split;subst_vars;rw[hk]at ej;cases ej;exact ej;rintro rfl;exact hno (R.ownI ⟨o',_,st,ho,hρ⟩);by_cases eb:b'=b;subst eb;simp only[rm,g2,hnew];simp;omega;simp[rm,hoth b' eb]
 have get:∀j y,hset (hset h o' none) k (some (.cells ((cs.drop off).take n++ys) ty')) j=some y->(j=k/\y=.cells ((cs.drop off).take n++ys) ty')\/(j≠k/\j≠o'/\h j=some y):=λj y e=>by
  simp only[hset]at e;split at e;cases e;exact .inl ⟨by assumption,rfl⟩;split at e;cases e;exact .inr ⟨by assumption,by assumption,e⟩
 have hne':∀j y b',j≠k->BE { ρ:=λj=>if j=k then some (b,st+off)else c.ρ j,own:=c.own,w:=c.w.setCells b (st+off+n) vx,bk:=c.bk } j y b'->BE c j y b':=λj y b' hj H=>by
  simp only[BE,hj,if_false]at H;exact H
 have hat':∀b',BE { ρ:=λj=>if j=k then some (b,st+off)else c.ρ j,own:=c.own,w:=c.w.setCells b (st+off+n) vx,bk:=c.bk } k (.cells ((cs.drop off).take n++ys) ty') b'->b'=b:=λb' H=>by
  rcases H with⟨st',H⟩|⟨H,_⟩
  simp only[if_true]at H;cases H;rfl;cases H
 refine⟨⟨λj y ej=>?_,λi j y y' b1 e1 e2 e3 e4=>?_,λb'=>?_⟩,E,hcells,λj _=>hfro j⟩;simp only[hset]at ej;split at ej;subst_vars;cases ej;refine⟨b,st+off,_,e,(vs.drop off).take n++vx,by simp,hnew,λi x hx=>?_,jS (kL E ((g4.drop off).take n)) (kL E hy),λx hx=>?_,λt e1=>?_⟩;have hvl:((vs.drop off).take n).length=n:=by simp;omega
 simp only[List.getElem?_toArray,qn];have eA:(arr.toList.take (st+off+n)).length=st+off+n:=by simp;omega
 by_cases hi:i<n;rw[jD (by omega)]at hx ⊢;rw[jf,if_pos hi,qY]at hx;rw[jf,if_pos (by omega)];have:=g3 _ _ hx;rw[qD];simpa using this;rw[qV (by omega),hvl]at hx;have hi2:=(qo.1 hx).1;rw[qV (by omega),eA,jD (by omega),show st+off+i-(st+off+n)=i-n by omega];exact hx;rcases qe.1 hx with hx|hx;exact g5 x (qT (qH hx));exact h1 x hx;obtain⟨q1,q2⟩:=hty t e1;obtain⟨q3,q4⟩:=g6 t q2;exact⟨by omega,q4⟩;split at ej;cases ej;rename_i hj1 hj2;refine(R.obj j y ej).mono E λb2 e'=>hoth b2 ?_;rintro rfl;exact hj2 (R.inj2 j o' y _ b2 ej ho e' (.inl ⟨st,hρ⟩));rcases get i y e1 with⟨rfl,rfl⟩|⟨hi,hio,f1⟩
 rcases get j y' e2 with⟨rfl,rfl⟩|⟨hj,hjo,f2⟩
 rfl;have:=hat' _ e3;subst this;exact absurd (R.inj2 j o' y' _ b1 f2 ho (hne' j y' b1 hj e4) (.inl ⟨st,hρ⟩)) hjo;rcases get j y' e2 with⟨rfl,rfl⟩|⟨hj,hjo,f2⟩
 have:=hat' _ e4;subst this;exact absurd (R.inj2 i o' y _ b1 f1 ho (hne' i y b1 hi e3) (.inl ⟨st,hρ⟩)) hio;exact R.inj2 i j y y' b1 f1 f2 (hne' i y b1 hi e3) (hne' j y' b1 hj e4);rw[R.own2 b'];constructor;rintro⟨j,y,e1,e2⟩;have hj:j≠k:=by rintro rfl;rw[hn]at e1;cases e1
 by_cases hjo:j=o';subst hjo;rw[ho]at e1;cases e1;rcases e2 with⟨s,e2⟩|⟨e2,_⟩
 rw[hρ]at e2;cases e2;exact⟨k,_,by simp[hset];rfl,.inl ⟨st+off,by simp⟩⟩;cases e2;exact⟨j,y,by simp[hset,hj,hjo,e1],by simpa[BE,hj]using e2⟩;rintro⟨j,y,e1,e2⟩;rcases get j y e1 with⟨rfl,rfl⟩|⟨hj,hjo,e1⟩
 rw[hat' _ e2];exact⟨o',_,ho,.inl ⟨st,hρ⟩⟩;exact⟨j,y,e1,hne' j y b' hj e2⟩
theorem P3 {xs ys:List Value} {zs:Array Value} (i:Nat) (x:Value) (hx:(xs++ys)[i]? = some x):((xs++ys).toArray++zs)[i]? = some x:=by
 have hi:=(qo.1 hx).1;rw[jp (by simpa using hi)];simpa using hx
theorem Km (w:World) (t tx ty e:TypeId) (ik:IntKind) (i:TypeInfo) (z:Value) (ht:P.underlying t=some (.slice e)) (htx:P.underlying tx=some (.int ik)) (hi:P.info? e=some i) (hz:i.zero=some z)
 (base:Option Addr) (n:Nat) (hn:0<n) (hs:i.size≠0) (h1:n<=1073741824) (hb:i.bytes<=65536):
 (Builtin.append_ #[t,tx] ty #[.slice base 0 0,.int .i64 n]).run P w =
   .ok (.slice (some ⟨w.heap.size,0,none⟩) n (grownCap w n 0 e)) (w.drew.alloc (.cells (Builtin.zeroCells z.cells n++Builtin.zeroCells z.cells (grownCap w n 0 e-n)) e)):=by
 have hw:IntKind.i64.wrap (n:Int)=n:=by rw[IntKind.wrap_i64];omega
 have hmul:n*i.bytes<=1073741824*65536:=Nat.mul_le_mul h1 hb;have hmul':¬(281474976710656<(n:Int)*(i.bytes:Int)):=by
  have:((n*i.bytes:Nat):Int)<=1073741824*65536:=by omega
  rw[Int.natCast_mul]at this;omega
 have hcap:Builtin.nextslicecap n 0=n:=by unfold Builtin.nextslicecap;rw[if_pos (by omega)]
 have h48:¬(281474976710656<n*i.bytes):=by omega
 have hnn:¬((n:Int)<0):=by omega
 have hmx:max (n:Int) 0=n:=by omega
 have hn0:n≠0:=by omega
 have h63:¬(9223372036854775807<(n:Int)):=by omega
 have hns:n*i.size≠0:=Nat.mul_ne_zero hn0 hs;have hf:(Builtin.firstCells i.size 0 (.slice base 0 0)).run P w.drew=.ok #[] w.drew:=by
  cases base with
  | none=>simp[Builtin.firstCells]
  | some a=>
   have:=run_loadCells_list (P:=P) w.drew a [] (by simp);simpa[Builtin.firstCells]using this
 simp[Builtin.append_,run_underlying ht,run_underlying htx,sizeOf,typeInfo,zeroValue,hi,hz,hw,hmul',hnn,hn0,hcap,h48,h63,Question.forced,newRow,grownCap,asInt,asIntOf,hf,hmx,hns]
theorem Rq {t t2:TypeId} {s x:SV} {us ux:Value} {out:Cs} (hrun:∀(w w':World) (r:Value),(∀cs,(builtin Builtin.append #[t,t2] o.type cs #[us,ux]).run P w=.ok (.value r) w')->(execOp ev o).run P w=.ok (.value r) w')
 (hs:FO P k t t2 s x=some out) (R:Bn h c) (hk:c.ρ k=none) (hvs:V c s us) (hvx:V c x ux):DN P ev o h k c out:=by
 unfold FO at hs;split at hs<;>try cases hs
 rename_i e ik z0 m hte ht2;split at hs<;>try cases hs
 rename_i hc;obtain⟨⟨hm0,hm1⟩,hz0,hby,hst,hzl⟩:=hc;have hu:=A5 hte;obtain⟨ii,hi,hsz⟩:=EZ hz0;obtain⟨i',z,hi',hzz,hze⟩:=CB hst;rw[hi]at hi';cases hi';have hvz:=C9 c z;rw[<-hze]at hvz;have hzsize:z.cells.size=Bh P e:=by have:=(hvz.cells hst).1.length;simp at this;omega
 have hbb : ii.bytes ≤ 65536 := by have : BY P e = ii.bytes := by simp [BY, Program.bytesOf, hi]
                                   omega
 obtain⟨base,rfl⟩:∃base,us=.slice base 0 0:=by
  rw[V]at hvs;rcases hvs with⟨_,rfl⟩|⟨a2,cap2,vs2,e2,_,hf,_⟩
  exact⟨none,rfl⟩;have:=hf rfl;exact⟨_,by rw[e2,this];rfl⟩
 have hux:ux=.int .i64 m:=by rw[V]at hvx;exact hvx
 subst hux;obtain⟨zr,z1⟩:=HJ hvz hst m.toNat;have hmn:(m.toNat:Int)=m:=by omega
 have hr:=Km (P:=P) c.w t t2 o.type e ik ii z hu ht2 hi hzz base m.toNat (by omega) (by omega) (by omega) hbb;rw[hmn]at hr;have hcell:=Em z.cells (by omega) m.toNat;have Rn:=KE (e:=e) (arr:=Builtin.zeroCells z.cells m.toNat++Builtin.zeroCells z.cells (grownCap c.w m.toNat 0 e-m.toNat)) R.drew (by exact hk) (kL c.drew_ext zr) z1
  (λi x hx=>by
    have:(Builtin.zeroCells z.cells m.toNat).toList=(List.replicate m.toNat z.cells.toList).flatten:=hcell;rw[<-this]at hx;have hlt:=(qo.1 hx).1;rw[jp (by simpa using hlt)];simpa using hx) Ty.none
 have En:=c.drew_ext.trans (c.drew.alloc_ext k (.cells (Builtin.zeroCells z.cells m.toNat++Builtin.zeroCells z.cells (grownCap c.w m.toNat 0 e-m.toNat)) e) (by exact hk));have hcap:m.toNat<=grownCap c.w m.toNat 0 e:=by unfold grownCap;exact Nat.le_add_right _ _
 refine⟨.slice (some ⟨c.w.heap.size,0,none⟩) m.toNat (grownCap c.w m.toNat 0 e),_,.inl (hrun _ _ _ λcs=>by simp only[builtin,Sem.run_bind,hr,Result.andThen_ok,Sem.run_pure];rfl),?_,Rn,En,λj hj=>?_⟩;rw[V];refine⟨c.w.heap.size,0,grownCap c.w m.toNat 0 e,by simp[Cx.alloc,Cx.drew,GG],by simp,hcap,by simp,?_⟩;have e6:m.toNat*Bh P e+(grownCap c.w m.toNat 0 e-m.toNat)*Bh P e=grownCap c.w m.toNat 0 e*Bh P e:=by rw[<-jB];congr 1;omega
 have e7:rm (c.drew.alloc k (.cells (Builtin.zeroCells z.cells m.toNat++Builtin.zeroCells z.cells (grownCap c.w m.toNat 0 e-m.toNat)) e)).w c.w.heap.size =
  (Builtin.zeroCells z.cells m.toNat++Builtin.zeroCells z.cells (grownCap c.w m.toNat 0 e-m.toNat)).size:=by
  simp[rm,Cx.alloc,Cx.drew,Bk,GG]
 rw[e7];simp only[Array.size_append,Builtin.zeroCells,Array.size_map,Array.size_range,hzsize];omega;simp at hj;simp[Cx.alloc,Cx.drew,hj]
theorem Ox {ts:Array TypeId} {args:Array Operand} {out:Cs} {evs:Operand->SV} (ho:o.op=.call { callee:=.builtin .append,args:=args,argTypes:=ts })
 (hs:AU P h k .append ts.toList (args.toList.map evs)=some out) (R:Bn h c) (hk:c.ρ k=none) (H:AZ (V c) (args.toList.map evs) (args.map ev).toList):DN P ev o h k c out:=by
 generalize hA:args.toList.map evs=A at hs H;generalize hU:args.map ev=U at H;have hrun:=λ(w w':World) (r:Value)=>Bi (P:=P) (ev:=ev) ho w w' r;rw[hU]at hrun;simp only[AU]at hs;split at hs<;>try (first|contradiction|(cases hs;done))
 rename_i t t2 s x _ e1
 match hU':U.toList,H with
 | [us, ux], H =>
  have e1':=In e1;have e2':=In hU';have hvs:=H.1;have hvx:=H.2.1;subst e1';subst e2';split at hs
  rotate_left
  exact Rq (λw w' r h=>hrun w w' r h) hs R hk hvs hvx;rename_i ht2;obtain⟨et2,ht2⟩:=Ki ht2;unfold Cm at hs;split at hs<;>try cases hs
  rename_i e hte;have hu:=A5 hte;simp only at hs;split at hs<;>try cases hs
  rename_i m ys hm hys;split at hs<;>try cases hs
  rename_i hchk;simp only[js,jM,qq,bne_iff_ne,ne_eq,beq_iff_eq]at hchk;obtain⟨⟨⟨⟨hz1,hz2⟩,hz0⟩,hst⟩,hzl⟩:=hchk;obtain⟨ii,hi,hsz⟩:=EZ hz0;obtain⟨i',z,hi',hzz,hze⟩:=CB hst;rw[hi]at hi';cases hi';have hvz:=C9 c z;rw[<-hze]at hvz;have hzsize:z.cells.size=Bh P e:=by have:=(hvz.cells hst).1.length;simp at this;omega
  obtain⟨ax,capx,vx,hux,hcapx,hxc,hx1,hxz,hxa⟩:=JV R hys hm hvx;have src:∀w:World,w.heap=c.w.heap->Src P (Bh P e) t2 ux m vx w:=λw hw=>
   Wp (A5 ht2) hux (hxz _ hz2) hx1 w (by
    revert hxa;cases ax<;>simp only<;>intro hxa;exact hxa;refine⟨hxa.1,λi x hx=>?_⟩;have:=hxa.2 i x hx;simp only[World.cell?,hw]at *;exact this)
  have grown:∀(c0:Cx) (h0:Hp) (base:Option Addr) (sLen sCap:Nat) (xs:List SV) (vs:List Value),c0.w=c.w->c0.ρ=c.ρ->Bn h0 c0->DZ c c0->us=.slice base sLen sCap->AZ (V c0) xs vs->
   (∀x∈vs,x.oneCell'=true)->vs.length=sLen*Bh P e->
   (match base with|some a=>(vs≠[]->a.spot=none)/\∀(i:Nat) (x:Value),vs[i]? = some x->c.w.cell? ⟨a.block,a.off+i,none⟩=some x|none=>sLen=0/\sCap=0/\vs=[])->sCap<sLen+m->
   C4 (sLen+m) (BY P e)=true->∀ty:Option TypeId,Ty ty 0 e->∀upd:Option (Nat×Option BT),(match upd with|some (j,x)=>hset h j x|none=>h)=h0->
   DN P ev o h k c { val:=.sl k 0 (Bh P e) (sLen+m) false,upd:=upd,new:=some (.cells (xs++ys) ty) }:=by
   intro c0 h0 base sLen sCap xs vs hw hρ R0 E0 hus hc h1 hl ha hlt hroom ty hty upd hupd;simp only[C4,qq,decide_eq_true_eq]at hroom;have hby:BY P e=ii.bytes:=by simp[BY,Program.bytesOf,hi]
   have hmul:(sLen+m)*ii.bytes<=1073741824*65536:=Nat.mul_le_mul hroom.1 (by omega);have BE:(Builtin.firstCells ii.size sLen (.slice base sLen sCap)).run P c.w.drew=.ok vs.toArray c.w.drew:=by
    cases base with
    | none=>obtain⟨_,_,rfl⟩:=ha;simp[Builtin.firstCells]
    | some a=>
     have:=run_loadCells_list (P:=P) c.w.drew a vs (λj v hv=>by rw[Cr (ha.1 (by rintro rfl;simp at hv))];exact ha.2 j v hv);rw[hl,hsz]at this;simpa[Builtin.firstCells]using this
   have hr:=run_append_grow_src (P:=P) c.w t t2 o.type e ii z hu hi hzz base sLen sCap vs BE ux m vx (by rw[<-hsz];exact src c.w rfl) hlt (by omega) (growslice_fits hlt (by omega));rw[<-hus]at hr;have hk0:c0.drew.ρ k=none:=by show c0.ρ k=none;rw[hρ];exact hk
   have Rn:=KE (e:=e) (arr:=(vs++vx).toArray++Builtin.zeroCells z.cells (grownCap c.w (sLen+m) sCap e-(sLen+m))) R0.drew hk0 (jS (kL c0.drew_ext hc) (kL (E0.trans c0.drew_ext) hxc))
    (λx hx=>by rcases qe.1 hx with hx|hx;exact h1 x hx;exact hx1 x hx) P3 hty
   have En:=E0.trans (c0.drew_ext.trans (c0.drew.alloc_ext k (.cells ((vs++vx).toArray++Builtin.zeroCells z.cells (grownCap c.w (sLen+m) sCap e-(sLen+m))) e) hk0));have hw':(c0.drew.alloc k (.cells ((vs++vx).toArray++Builtin.zeroCells z.cells (grownCap c.w (sLen+m) sCap e-(sLen+m))) e)).w =
    c.w.drew.alloc (.cells ((vs++vx).toArray++Builtin.zeroCells z.cells (grownCap c.w (sLen+m) sCap e-(sLen+m))) e):=by
    show(c0.w.drew.alloc _)=_;rw[hw]
   have hcap:sLen+m<=grownCap c.w (sLen+m) sCap e:=by unfold grownCap;exact Nat.le_add_right _ _
   subst hupd;refine⟨.slice (some ⟨c.w.heap.size,0,none⟩) (sLen+m) (grownCap c.w (sLen+m) sCap e),_,.inl (by rw[hw'];exact hrun _ _ _ λcs=>by simp only[builtin,Sem.run_bind,hr,Result.andThen_ok,Sem.run_pure]),?_,Rn,En,λj hj=>?_⟩;rw[V];refine⟨c.w.heap.size,0,grownCap c.w (sLen+m) sCap e,by simp[Cx.alloc,Cx.drew,hw],rfl,hcap,by simp,?_⟩;have hx2:=hxz _ hz2;have e5:(vs++vx).length=(sLen+m)*Bh P e:=by simp[hl,hx2,jB]
   have e6:(sLen+m)*Bh P e+(grownCap c.w (sLen+m) sCap e-(sLen+m))*Bh P e=grownCap c.w (sLen+m) sCap e*Bh P e:=by rw[<-jB];congr 1;omega
   have e7:rm (c0.drew.alloc k (.cells ((vs++vx).toArray++Builtin.zeroCells z.cells (grownCap c.w (sLen+m) sCap e-(sLen+m))) e)).w c.w.heap.size =
    ((vs++vx).toArray++Builtin.zeroCells z.cells (grownCap c.w (sLen+m) sCap e-(sLen+m))).size:=by
    rw[hw'];simp[rm,Bk,GG]
   rw[e7];simp only[Array.size_append,List.size_toArray,e5,Builtin.zeroCells,Array.size_map,Array.size_range,hzsize];omega;simp at hj;simp[Cx.alloc,Cx.drew,hρ,hj]
  by_cases hm0:m=0
  . subst hm0;simp only[if_true,EH,qh]at hs;subst hs;have hx0:vx=[]:=by have:=hxz _ hz2;simpa using this
    subst hx0;obtain⟨base,sLen,sCap,rfl,hle⟩:∃base sLen sCap,us=.slice base sLen sCap/\sLen<=sCap:=by
     cases s<;>simp only[Hd]at hz1<;>try cases hz1
     rw[V]at hvs;obtain⟨b,st,cap,_,rfl,h1,_⟩:=hvs;exact⟨_,_,_,rfl,h1⟩;rw[V]at hvs;rcases hvs with⟨_,rfl⟩|⟨a,cap,vs,rfl,h1,_⟩
     exact⟨none,0,0,rfl,qa _⟩;exact⟨_,_,_,rfl,h1⟩
    have hr:=run_append_nothing (P:=P) c.w t t2 o.type e ii hu hi base sLen sCap hle ux (by rw[<-hsz];exact src c.w rfl);exact BF R _ (hrun _ _ _ λcs=>by simp[builtin,hr]) hvs
  . rw[if_neg hm0]at hs;split at hs
    . rename_i z' es _;split at hs<;>try cases hs
      rename_i hroom;obtain⟨a,cap,vs,hus,hcap,hc,h1,hvz',ha⟩:=JV (n:=es.length) R (by rfl:flat h (.imm z' es true)=some (es.flatMap SV.cells)) rfl hvs;have hcl:cap=es.length:=by
       rw[V]at hvs;rcases hvs with⟨rfl,e2⟩|⟨a2,cap2,vs2,e2,_,hf,_⟩
       rw[hus]at e2;cases e2;rfl;rw[hus]at e2;cases e2;exact hf rfl
      exact grown c h a es.length cap _ vs rfl rfl R (kZ c) hus hc h1 (hvz' _ hz1) ha (by omega) hroom _ Ty.row none rfl
    . rename_i o' off z' len full _;split at hs<;>try cases hs
      rename_i xs hxs;split at hs<;>try cases hs
      rename_i hroom;obtain⟨a,cap,vs,hus,hcap,hc,h1,hvz',ha⟩:=JV (n:=len) R hxs rfl hvs;have hvs':=hvs;rw[V]at hvs';obtain⟨b,st,cap',hρ,hus',hcap',hfull,hrm⟩:=hvs';rw[hus]at hus';cases hus';obtain⟨cs,ty,hob,hxs'⟩:∃cs ty,h o'=some (.cells cs ty)/\Bg cs off (len*z')=some xs:=by
       simp only[flat]at hxs;split at hxs;rename_i cs ty hob;exact⟨cs,ty,hob,hxs⟩;cases hxs
      have hzz':z'=Bh P e:=by simpa[Hd]using hz1
      subst hzz';cases full with
      | true=>exact grown c h _ len cap _ vs rfl rfl R (kZ c) hus hc h1 (hvz' _ hz1) ha (by have:=hfull rfl;omega) hroom _ (λt g=>⟨rfl,(Ty.app g).2.2⟩) none rfl
      | false=>
       by_cases hfit:len+m<=cap;have hx2:=hxz _ hz2;have e6:len*Bh P e+m*Bh P e<=cap*Bh P e:=by rw[<-jB];exact jt _ hfit
       obtain⟨c',hw',hρ',R',E',hcl,hfr⟩:=Tp (k:=k) (ty':=HI h e o' off) R hk hob (λt g=>⟨(Ty.app g).1,by have:=(Ty.app g).2.1;rw[hob]at this;exact this⟩) hρ hxs' (by omega) hxc hx1;have hr:=run_append_room_src (P:=P) c.w t t2 o.type e ii hu hi b (st+off) len cap ux m vx (by rw[<-hsz];exact src c.w rfl) hfit (by rw[<-hsz];exact hcl) (by rw[<-hsz];exact hfr);rw[<-hus,<-hsz,<-hw']at hr;refine⟨.slice (some ⟨b,st+off,none⟩) (len+m) cap,c',.inl (hrun _ _ _ λcs=>by simp only[builtin,Sem.run_bind,hr,Result.andThen_ok,Sem.run_pure]),?_,by simpa[Cs.app]using R',E',λj hj=>?_⟩;rw[V];exact⟨b,st+off,cap,by rw[hρ'];simp,by simp,hfit,by simp,qr hrm (E'.room b)⟩;simp at hj;rw[hρ'];simp[hj];exact grown (c.kill o') (hset h o' none) _ len cap _ vs rfl rfl (R.kill o' hob) (c.kill_ext o') hus (kL (c.kill_ext o') hc) h1 (hvz' _ hz1) ha (by omega) hroom _ (λt g=>⟨rfl,(Ty.app g).2.2⟩) (some (o',none)) rfl
    cases hs
 | [],H=>exact H.elim
 | [_],H=>exact H.2.elim
 | _::_::_::_,H=>exact H.2.2.elim
end
section
variable {P : Program} {ev : Operand → Value} {o : Oper} {h : Hp} {k : Nat} {c : Cx}
theorem SD {z n m cap:Nat} {a:Option Addr} {vs:List Value} (hm:m<=n) (hl:vs.length=n*z) (w:World)
 (hc:match a with|some a=>(vs≠[]->a.spot=none)/\∀(i:Nat) (x:Value),vs[i]? = some x->w.cell? ⟨a.block,a.off+i,none⟩=some x|none=>n=0/\cap=0/\vs=[]):
 (Builtin.firstCells z m (.slice a n cap)).run P w=.ok (vs.take (m*z)).toArray w:=by
 cases a with
 | none=>obtain⟨_,_,rfl⟩:=hc;simp[Builtin.firstCells]
 | some a =>
  have hmz:m*z<=n*z:=jt _ hm;have:=run_loadCells_list (P:=P) w a (vs.take (m*z)) (λj v hv=>by
   rw[Cr (hc.1 (by rintro rfl;simp at hv))];rw[jf]at hv;split at hv;exact hc.2 j v hv;cases hv)
  rw[jr,jO (by omega)]at this;simpa[Builtin.firstCells]using this
theorem Q5 {s:SV} {u:Value} {n:Nat} (hn:Dw s=some n) (hs:∀x,s≠.str x) (hv:V c s u):∃a cap,u=.slice a n cap/\n<=cap:=by
 cases s<;>simp only[Dw]at hn<;>try cases hn
 exact absurd rfl (hs _);rw[V]at hv;obtain⟨b,st,cap,_,rfl,h1,_⟩:=hv;exact⟨_,_,rfl,h1⟩;rw[V]at hv;rcases hv with⟨rfl,rfl⟩|⟨a,cap,vs,rfl,h1,_⟩
 exact⟨_,_,rfl,qa _⟩;exact⟨_,_,rfl,h1⟩
theorem Rp {ts:Array TypeId} {args:Array Operand} {out:Cs} {evs:Operand->SV} (ho:o.op=.call { callee:=.builtin .copy,args:=args,argTypes:=ts })
 (hs:AU P h k .copy ts.toList (args.toList.map evs)=some out) (R:Bn h c) (H:AZ (V c) (args.toList.map evs) (args.map ev).toList):DN P ev o h k c out:=by
 generalize hA:args.toList.map evs=A at hs H;generalize hU:args.map ev=U at H;have hrun:=λ(w w':World) (r:Value)=>Bi (P:=P) (ev:=ev) ho w w' r;rw[hU]at hrun;simp only[AU]at hs;split at hs<;>try (first|contradiction|(cases hs;done))
 rename_i t t2 s x _ e1
 match hU':U.toList,H with
 | [us, ux], H =>
  have e1':=In e1;have e2':=In hU';subst e1';subst e2';have hvs:=H.1;have hvx:=H.2.1;unfold Oi at hs;split at hs<;>try cases hs
  rename_i e dl m ys hte hdl hm hys;have hu:=A5 hte;simp only at hs;split at hs<;>try cases hs
  rename_i hchk;simp only[js,jM,qq,bne_iff_ne,ne_eq]at hchk;obtain⟨⟨hz1,hz2⟩,hz0⟩:=hchk;obtain⟨ii,hi,hsz⟩:=EZ hz0;obtain⟨ax,capx,vx,rfl,hcapx,hxc,hx1,hxz,hxa⟩:=JV R hys hm hvx;obtain⟨ad,capd,rfl,hcapd⟩:=Q5 hdl (by rintro y rfl;simp[Hd]at hz1) hvs;have hfirst:=SD (P:=P) (z:=Bh P e) (m:=Nat.min m dl) (cap:=capx) (Nat.min_le_left _ _) (hxz _ hz2) c.w hxa;have hn:∀w':World,∀a',ad=some a'->(storeCells a' (vx.take (Nat.min m dl*Bh P e))).run P c.w=.ok () w'->(Builtin.copy_ #[t,t2] o.type #[.slice ad dl capd,.slice ax m capx]).run P c.w=.ok (.int .i64 (Nat.min m dl)) w':=λw' a' ha hst=>by
   subst ha;simp[Builtin.copy_,AO hu,sizeOf,typeInfo,hi,<-hsz,Builtin.lenOf,hfirst,hst,goInt]
  by_cases hc0:Nat.min m dl=0;rw[if_pos hc0]at hs;simp only[EH,qh]at hs;subst hs;have h0:(Builtin.copy_ #[t,t2] o.type #[.slice ad dl capd,.slice ax m capx]).run P c.w=.ok (.int .i64 0) c.w:=by
   cases ad with
   | none=>
    rw[hc0]at hfirst;have:=hfirst;simp[Builtin.copy_,AO hu,sizeOf,typeInfo,hi,<-hsz,Builtin.lenOf,goInt,hc0]at this ⊢;simp[this]
   | some a'=>
    have:=hn c.w a' rfl (by rw[hc0];simp[storeCells]);rw[hc0]at this;exact this
  exact BF R (.int .i64 0) (hrun _ _ _ λcs=>by simp only[builtin,Sem.run_bind,h0,Result.andThen_ok,Sem.run_pure]) (by rw[V])
  . rw[if_neg hc0]at hs;split at hs<;>try cases hs
    rename_i o' off z' len full _;simp only[Dw,qh]at hdl;subst hdl;split at hs<;>try cases hs
    rename_i cs ty hob;split at hs<;>try cases hs
    rename_i cs' hsp;obtain⟨hle,rfl⟩:=GD hsp;have hvs':=hvs;rw[V]at hvs';obtain⟨b,st,cap',hρ,hus',_⟩:=hvs';cases hus';have hx2:=hxz _ hz2;have hmul:Nat.min m len*Bh P e<=m*Bh P e:=jt _ (Nat.min_le_left _ _);have hlx:(ys.take (Nat.min m len*Bh P e)).length≠0:=by
     have:=hxc.length;simp only[jr];have:Nat.min m len*Bh P e≠0:=Nat.mul_ne_zero hc0 hz0;omega
    obtain⟨w',hst,R',E'⟩:=Ig (P:=P) R hob hρ hle hlx (hxc.take _) (λx hx=>hx1 x (qH hx));have:=hn w' _ rfl hst;exact⟨.int .i64 (Nat.min m len),{ c with w:=w' },.inl (hrun _ _ _ λcs=>by simp only[builtin,Sem.run_bind,this,Result.andThen_ok,Sem.run_pure]),by rw[V],R',E',λ_ _=>rfl⟩
 | [],H=>exact H.elim
 | [_],H=>exact H.2.elim
 | _::_::_::_,H=>exact H.2.2.elim
theorem QM {ts:Array TypeId} {args:Array Operand} {out:Cs} {evs:Operand->SV} (ho:o.op=.call { callee:=.builtin .clear,args:=args,argTypes:=ts })
 (hs:AU P h k .clear ts.toList (args.toList.map evs)=some out) (R:Bn h c) (H:AZ (V c) (args.toList.map evs) (args.map ev).toList):DN P ev o h k c out:=by
 generalize hA:args.toList.map evs=A at hs H;generalize hU:args.map ev=U at H;have hrun:=λ(w w':World) (r:Value)=>Bi (P:=P) (ev:=ev) ho w w' r;rw[hU]at hrun;simp only[AU]at hs;split at hs<;>try (first|contradiction|(cases hs;done))
 rename_i t x _ e1;obtain⟨u,hsu,hv⟩:=H.single;have e1':=KR e1;have e2:=KR hsu;subst e1';subst e2;unfold LI at hs;split at hs<;>try cases hs
 rename_i e dl hte hdl;have hu:=A5 hte;split at hs<;>try cases hs
 rename_i hchk;simp only[js,jM,qq,bne_iff_ne,ne_eq,beq_iff_eq]at hchk;obtain⟨⟨⟨hz1,hz0⟩,hst⟩,hzl⟩:=hchk;obtain⟨i,z,hi,hzz,hze⟩:=CB hst;have hvz:=C9 c z;rw[<-hze]at hvz;have hzsize:z.cells.size=Bh P e:=by have:=(hvz.cells hst).1.length;simp at this;omega
 obtain⟨ad,capd,rfl,hcapd⟩:=Q5 hdl (by rintro y rfl;simp[Hd]at hz1) hv;by_cases hd0:dl=0;subst hd0;simp only[if_true,EH,qh]at hs;subst hs;have h0:(Builtin.clear_ #[t] o.type #[.slice ad 0 capd]).run P c.w=.ok (.tuple #[]) c.w:=by
  cases ad<;>simp[Builtin.clear_,AO hu]
 exact BF R (.tuple #[]) (hrun _ _ _ λcs=>by simp only[builtin,Sem.run_bind,h0,Result.andThen_ok,Sem.run_pure]) (by simp[V,VL])
 . rw[if_neg hd0]at hs;split at hs<;>try cases hs
   rename_i o' off z' len full;simp only[Dw,qh]at hdl;subst hdl;split at hs<;>try cases hs
   rename_i cs ty hob;split at hs<;>try cases hs
   rename_i cs' hsp;obtain⟨hle,rfl⟩:=GD hsp;have hv':=hv;rw[V]at hv';obtain⟨b,st,cap',hρ,hus',_⟩:=hv';cases hus';obtain⟨zr,z1⟩:=HJ hvz hst len;have hlx:(List.replicate len (BH P e).cells).flatten.length≠0:=by
    rw[List.length_flatten,List.map_replicate,List.sum_replicate_nat,hzl];exact Nat.mul_ne_zero hd0 hz0
   obtain⟨w',hst',R',E'⟩:=Ig (P:=P) R hob hρ hle hlx zr z1;have hcell:=Em z.cells (by omega) len;have h0:(Builtin.clear_ #[t] o.type #[.slice (some ⟨b,st+off,none⟩) len capd]).run P c.w=.ok (.tuple #[]) w':=by
    simp only[Builtin.clear_];cases len with
    | zero=>exact absurd rfl hd0
    | succ n=>
     simp[AO hu,zeroValue,typeInfo,hi,hzz,Builtin.zeroCells]at *;simp[hcell,hst']
   exact⟨.tuple #[],{ c with w:=w' },.inl (hrun _ _ _ λcs=>by simp only[builtin,Sem.run_bind,h0,Result.andThen_ok,Sem.run_pure]),by simp[V,VL],R',E',λ_ _=>rfl⟩
def KD (s:SV) (d:TypeDesc):Prop:=match s with|.int _ _=>(∃i,d=.int i)|.str _=>d=.string|.bool _=>d=.bool|_=>False
theorem I7 {t:TypeId} {s:SV} (hk:CK P t s=true):∃d,P.underlying t=some d/\KD s d:=by
 unfold CK at hk;split at hk;obtain⟨i,hi⟩:=Ki hk;exact⟨_,FY hi,i,rfl⟩;exact⟨_,FD hk,rfl⟩;exact⟨_,Hc hk,rfl⟩;cases hk
theorem Kb {d:TypeDesc} {s s':SV} {v v':Value} {b:Bool} (hd:KD s d)
 (hv:V c s v) (hv':V c s' v') (he:G5 s s'=some b):Instr.sameNow d v v'=some b:=by
 unfold G5 at he;split at he
 . rename_i i a j b';split at he<;>try cases he
   rename_i hij;subst hij;simp only[KD]at hd;obtain⟨x,rfl⟩:=hd;rw[C7 hv,C7 hv'];simp[Instr.sameNow]
 cases he;simp only[KD]at hd;subst hd;rw[Kq hv,Kq hv'];simp[Instr.sameNow];cases he;simp only[KD]at hd;subst hd;rw[Gm hv,Gm hv'];simp[Instr.sameNow];cases he
theorem GF {d:TypeDesc} {s:SV} {v:Value} (hd:KD s d) (hv:V c s v):
 ∀(es:List (SV×SV)) (ents:List MapEntry) (i:Nat) (r:Option (Nat×SV)),AZ (λ(p:SV×SV) (e:MapEntry)=>V c p.1 e.key/\V c p.2 e.val) es ents->DH s es i=some r->
  (r=none/\Instr.findNow d v ents i=some none)\/∃j x y e,r=some (i+j,x)/\Instr.findNow d v ents i=some (some (i+j,y))/\V c x y/\ents[j]? = some e/\Instr.sameNow d v e.key=some true
 | [],ents,i,r,h,hf=>by
  simp only[DH,qh]at hf;subst hf;rw[h.nil_left];exact .inl ⟨rfl,rfl⟩
 | p::es,[],i,r,h,_=>h.elim
 | p::es,e::ents,i,r,h,hf=>by
  obtain⟨⟨h1,h2⟩,h3⟩:=h;simp only[DH]at hf;split at hf;rename_i he;cases hf;have:=Kb hd hv h1 he;exact .inr ⟨0,p.2,e.val,e,rfl,by simp[Instr.findNow,this],h2,rfl,this⟩;rename_i he;have:=Kb hd hv h1 he;rcases GF hd hv es ents (i+1) r h3 hf with⟨rfl,hg⟩|⟨j,x,y,e',rfl,hg,hxy,hj,hs⟩
  exact .inl ⟨rfl,by simp[Instr.findNow,this,hg]⟩;exact .inr ⟨j+1,x,y,e',by congr 2;omega,by rw[show i+(j+1)=i+1+j by omega];simp[Instr.findNow,this,hg],hxy,by simpa using hj,hs⟩;cases hf
theorem GA {t:TypeId} {d:TypeDesc} {s:SV} {v:Value} {b:Bool} (hu:P.underlying t=some d) (hd:KD s d)
 (hv:V c s v) (w:World):(Instr.checkKey b 10000 t v).run P w=.ok () w:=by
 have gen:∀n,(Instr.checkKey b (n+1) t v).run P w=.ok () w:=λn=>by
  cases s<;>simp only[KD]at hd;subst hd;rw[Gm hv];simp[Instr.checkKey,AO hu];obtain⟨i,rfl⟩:=hd;rw[C7 hv];simp[Instr.checkKey,AO hu];subst hd;rw[Kq hv];simp[Instr.checkKey,AO hu]
 exact gen 9999
theorem Oq {es:List (SV×SV)} {ents:Array MapEntry} (j:Nat) {x y:SV} {u v:Value} (hu:V c x u) (hv:V c y v)
 (h:AZ (λ(p:SV×SV) (e:MapEntry)=>V c p.1 e.key/\V c p.2 e.val) es ents.toList):
 AZ (λ(p:SV×SV) (e:MapEntry)=>V c p.1 e.key/\V c p.2 e.val) (HF es j x y) (ents.modify j λe=>{ e with key:=u,val:=v }).toList:=by
 rw[Array.toList_modify];exact AZ.modify (R:=λ(p:SV×SV) (e:MapEntry)=>V c p.1 e.key/\V c p.2 e.val) (λ_=>(x,y)) (λe=>{ e with key:=u,val:=v }) (λ_ _ _=>⟨hu,hv⟩) j h
theorem Hm.modify {ents:Array MapEntry} {clock:Nat} (H:Hm ents.toList clock) (i:Nat) (f:MapEntry->MapEntry) (hf:∀e,(f e).born=e.born):Hm (ents.modify i f).toList clock:=by
 have e:(ents.modify i f).toList.map (·.born)=ents.toList.map (·.born):=by
  rw[Array.toList_modify];apply List.ext_getElem?;intro j;simp only[qO,List.getElem?_modify];cases ents.toList[j]? with
  | none=>rfl
  | some x=>simp only[jk];split<;>simp[hf]
 refine⟨λx hx=>?_,by rw[e];exact H.2⟩;have:x.born∈(ents.modify i f).toList.map (·.born):=qy.2 ⟨x,hx,rfl⟩;rw[e]at this;obtain⟨y,hy,h⟩:=qy.1 this;rw[<-h];exact H.1 y hy
theorem Hm.push {ents:List MapEntry} {clock:Nat} (H:Hm ents clock) (e:MapEntry) (he:e.born=clock):Hm (ents++[e]) (clock+1):=by
 refine⟨λx hx=>?_,?_⟩;rcases qe.1 hx with hx|hx;have:=H.1 x hx;omega;rw[qv.1 hx];omega;rw[qc,List.nodup_append];refine⟨H.2,by simp,λa ha b hb=>?_⟩;obtain⟨x,hx,rfl⟩:=qy.1 ha;simp at hb;have:=H.1 x hx;omega
theorem Hm.sub {ents ents':List MapEntry} {clock:Nat} (H:Hm ents clock) (h:ents'.Sublist ents):Hm ents' clock:=⟨λx hx=>H.1 x (h.subset hx),H.2.sublist (h.map _)⟩
theorem KB {o' b:Nat} {es es':List (SV×SV)} {ents ents':Array MapEntry} {clock clock':Nat} (R:Bn h c) (ho:h o'=some (.map es)) (hρ:c.ρ o'=some (b,0))
 (hb:c.w.heap[b]? = some (.map ents clock)) (he:AZ (λ(p:SV×SV) (e:MapEntry)=>V c p.1 e.key/\V c p.2 e.val) es' ents'.toList) (hB:Hm ents'.toList clock'):
 Bn (hset h o' (some (.map es'))) { c with w:={ c.w with heap:=c.w.heap.setIfInBounds b (.map ents' clock') } }/\DZ c { c with w:={ c.w with heap:=c.w.heap.setIfInBounds b (.map ents' clock') } }:=by
 have hlt:b<c.w.heap.size:=(qp.1 hb).1;refine R.write ho hρ (by simp) (λb' hb'=>by simp[jH (Ne.symm hb')]) ?_ rfl rfl (λE=>?_);simp[rm,hb];exact⟨b,ents',clock',hρ,by simp[hlt],vc (λ_ _ g=>⟨kR E g.1,kR E g.2⟩) he,hB⟩
theorem Fi {t:TypeId} {d:TypeDesc} {v:Value} {ents:List MapEntry} {r:Option (Nat×Value)} (hu:P.underlying t=some d) (hf:Instr.findNow d v ents 0=some r) (w:World):
 (Instr.findKey t v ents).run P w=.ok r w:=by
 simp[Instr.findKey,AO hu,hf]
theorem P5 (a b:ByteArray):(a==b)=true↔a=b:=by
 obtain⟨x⟩:=a;obtain⟨y⟩:=b;have e:((⟨x⟩:ByteArray)==⟨y⟩)=(x==y):=rfl;rw[e,beq_iff_eq,ByteArray.mk.injEq]
theorem Pb {d:TypeDesc} {s:SV} {v v':Value} (hd:KD s d) (hv:V c s v)
 (hs:Instr.sameNow d v v'=some true) (n:Nat):Instr.sameBits n v' v=true:=by
 cases s<;>simp only[KD]at hd;subst hd;rw[Gm hv]at *;cases v'<;>simp[Instr.sameNow]at hs;cases n<;>simp[Instr.sameBits,hs];obtain⟨i,rfl⟩:=hd;rw[C7 hv]at *;cases v'<;>simp[Instr.sameNow]at hs;cases n<;>simp[Instr.sameBits,hs];subst hd;rw[Kq hv]at *;cases v'<;>simp[Instr.sameNow]at hs;have:=(P5 _ _).1 hs;subst this;cases n<;>simp only[Instr.sameBits]<;>exact(P5 _ _).2 rfl
theorem MZ {t:TypeId} {m y x:Operand} {out:Cs} {evs:Operand->SV} (ho:o.op=.mapUpdate t m y x) (hs:C2 P evs h k o.op=some out) (R:Bn h c)
 (H:∀x∈o.op.operands,V c (evs x) (ev x)):DN P ev o h k c out:=by
 rw[ho]at hs H;simp only[C2]at hs;have hm:=H m (by simp[Op.operands]);have hy:=H y (by simp[Op.operands]);have hx:=H x (by simp[Op.operands]);split at hs<;>try cases hs
 rename_i kt e o' ht hmm;split at hs<;>try cases hs
 rename_i hko;simp only[js,jM]at hko;obtain⟨d,hd,hdd⟩:=I7 hko;split at hs<;>try cases hs
 rename_i es hob;split at hs<;>try cases hs
 rename_i hst;rw[hmm,V]at hm;obtain⟨b,hρ,hmv⟩:=hm;obtain⟨b',ents,clock,g1,g2,g3,hB⟩:=R.obj _ _ hob;rw[hρ]at g1;cases g1;have hck:=λw=>GA (P:=P) (b:=false) hd hdd hy w;have hget:∀(f:Obj->Sem Unit),((getObj b).bind f).run P c.w=(f (.map ents clock)).run P c.w:=λf=>by
  simp[getObj,Sem.bind,Sem.run,g2]
 have fin:∀(es':List (SV×SV)) (ents':Array MapEntry) (clock':Nat),AZ (λ(p:SV×SV) (e:MapEntry)=>V c p.1 e.key/\V c p.2 e.val) es' ents'.toList->Hm ents'.toList clock'->
  (Instr.mapUpdate t (ev m) (ev y) (ev x)).run P c.w=.ok () { c.w with heap:=c.w.heap.setIfInBounds b (.map ents' clock') }->
  DN P ev o h k c { val:=.tup [],upd:=some (o',some (.map es')) }:=λes' ents' clock' he hB' hr=>by
  obtain⟨R',E'⟩:=KB (clock':=clock') R hob hρ g2 he hB';exact⟨undef,_,.inr ⟨rfl,by simp[execOp,ho,hr]⟩,by simp[V,undef,VL],R',E',λ_ _=>rfl⟩
 have hset':∀ob:Obj,(setObj b ob).run P c.w=.ok () { c.w with heap:=c.w.heap.setIfInBounds b ob }:=λob=>by
  simp[setObj,Sem.run,g2]
 have hgo:(getObj b).run P c.w=.ok (.map ents clock) c.w:=by simp[getObj,Sem.run,g2]
 split at hs<;>try cases hs
 rename_i i x' hfs;rcases GF hdd hy es ents.toList 0 _ g3 hfs with⟨hc,_⟩|⟨j,x2,y2,e2,hr,hf,hxy,hj,hsame⟩
 cases hc;simp only[jc,qh,Prod.mk.injEq]at hr;obtain⟨rfl,rfl⟩:=hr;refine fin _ _ clock (Oq i hy hx g3) (Hm.modify hB i _ λ_=>rfl) ?_;have hfk:=λw=>Fi (P:=P) hd hf w;have hsb:=Pb hdd hy hsame 10000;have hj':ents[i]? = some e2:=by simpa using hj
 simp[Instr.mapUpdate,AO (EE ht),hmv,hgo,hck,hfk,Instr.keyThatStays,hj',hsb,hset'];rename_i hfs;rcases GF hdd hy es ents.toList 0 _ g3 hfs with⟨_,hf⟩|⟨j,x2,y2,e2,hr,_⟩
 refine fin _ (ents.push { key:=ev y,val:=ev x,born:=clock }) (clock+1) (by rw[Array.toList_push];exact jS g3 (as':=[(evs y,evs x)]) ⟨⟨hy,hx⟩,trivial⟩) (by rw[Array.toList_push];exact hB.push _ rfl) ?_;have hfk:=λw=>Fi (P:=P) hd hf w;simp[Instr.mapUpdate,AO (EE ht),hmv,hgo,hck,hfk,hset'];cases hr
theorem Qc {t:TypeId} {m y:Operand} {ok:Bool} {out:Cs} {evs:Operand->SV} (ho:o.op=.lookup t m y ok) (hs:C2 P evs h k o.op=some out) (R:Bn h c)
 (H:∀x∈o.op.operands,V c (evs x) (ev x)):DN P ev o h k c out:=by
 rw[ho]at hs H;simp only[C2]at hs;have hm:=H m (by simp[Op.operands]);have hy:=H y (by simp[Op.operands]);split at hs<;>try cases hs
 rename_i kt e ht;split at hs<;>try cases hs
 rename_i hko;simp only[kH,js,not_or,jM]at hko;obtain⟨hko,hst⟩:=hko;obtain⟨d,hd,hdd⟩:=I7 hko;obtain⟨i,z,hi,hzz,hze⟩:=CB hst;have hvz:=C9 c z;rw[<-hze]at hvz;obtain⟨es,ents,hes,hall,hrun⟩:∃(es:List (SV×SV)) (ents:Array MapEntry),
  KX h (evs m)=some es/\
  AZ (λ(p:SV×SV) (e:MapEntry)=>V c p.1 e.key/\V c p.2 e.val) es ents.toList/\
  ∀r:Value×Bool,(match Instr.findNow d (ev y) ents.toList 0 with|some (some (_,v))=>r=(v,true)|some none=>r=(z,false)|none=>False)->
   (Instr.lookup t (ev m) (ev y) ok).run P c.w=.ok (if ok then .tuple #[r.1,.bool r.2]else r.1) c.w:=by
  split at hs<;>try cases hs
  rename_i es hes;cases hev:evs m<;>rw[hev]at hes hm<;>simp only[KX]at hes<;>try cases hes
  rw[V]at hm;refine⟨[],#[],rfl,trivial,λr hr=>?_⟩;have hck:=λb w=>GA (P:=P) (b:=b) hd hdd hy w;simp[Instr.findNow]at hr;subst hr;cases ok<;>simp[Instr.lookup,AO (EE ht),hm,hck,Instr.findKey,AO hd,Instr.findNow,E5 hi hzz]
  . rename_i o';split at hes<;>try cases hes
    rename_i hob;rw[V]at hm;obtain⟨b,hρ,hmv⟩:=hm;obtain⟨b',ents,clock,g1,g2,g3,_⟩:=R.obj _ _ hob;rw[hρ]at g1;cases g1;refine⟨es,ents,by simp only[KX,hob],g3,λr hr=>?_⟩;have hck:=λb w=>GA (P:=P) (b:=b) hd hdd hy w;have hgo:(getObj b).run P c.w=.ok (.map ents clock) c.w:=by simp[getObj,Sem.run,g2]
    cases hf:Instr.findNow d (ev y) ents.toList 0 with
    | none=>rw[hf]at hr;exact hr.elim
    | some q =>
     have hfk:=λw=>Fi (P:=P) hd hf w;rw[hf]at hr;cases q with
     | none=>
      simp only at hr;subst hr;cases ok<;>simp[Instr.lookup,AO (EE ht),hmv,hgo,hck,hfk,E5 hi hzz]
     | some q=>
      obtain⟨q1,q2⟩:=q;simp only at hr;subst hr;cases ok<;>simp[Instr.lookup,AO (EE ht),hmv,hgo,hck,hfk]
 rw[hes]at hs;simp only at hs;cases hfs:DH (evs y) es 0 with
 | none=>simp[hfs]at hs
 | some r=>
  simp only[hfs,EH,qh]at hs;subst hs;rcases GF hdd hy es ents.toList 0 r hall hfs with⟨rfl,hf⟩|⟨j,x2,y2,e2,rfl,hf,hxy,_,_⟩
  have hr:=hrun (z,false) (by rw[hf]);refine BF R _ (by simp only[execOp,ho,Sem.run_bind,hr,Result.andThen_ok,Sem.run_pure];rfl) ?_;cases ok<;>simp[V,VL,hvz];have hr:=hrun (y2,true) (by rw[hf]);refine BF R _ (by simp only[execOp,ho,Sem.run_bind,hr,Result.andThen_ok,Sem.run_pure];rfl) ?_;cases ok<;>simp[V,VL,hxy]
end
section
variable {P : Program} {ev : Operand → Value} {o : Oper} {h : Hp} {k : Nat} {c : Cx}
theorem Oy {ts:Array TypeId} {args:Array Operand} {out:Cs} {evs:Operand->SV} (ho:o.op=.call { callee:=.builtin .delete,args:=args,argTypes:=ts })
 (hs:AU P h k .delete ts.toList (args.toList.map evs)=some out) (R:Bn h c) (H:AZ (V c) (args.toList.map evs) (args.map ev).toList):DN P ev o h k c out:=by
 generalize hA:args.toList.map evs=A at hs H;generalize hU:args.map ev=U at H;have hrun:=λ(w w':World) (r:Value)=>Bi (P:=P) (ev:=ev) ho w w' r;rw[hU]at hrun;simp only[AU]at hs;split at hs<;>try (first|contradiction|(cases hs;done))
 rename_i t t2 o' y _ e1
 match hU':U.toList,H with
 | [um, uy], H =>
  have e1':=In e1;have e2':=In hU';subst e1';subst e2';have hm:=H.1;have hy:=H.2.1;split at hs<;>try cases hs
  rename_i kt e es ht hob;split at hs<;>try cases hs
  rename_i hko;simp only[js,jM]at hko;obtain⟨d,hd,hdd⟩:=I7 hko;rw[V]at hm;obtain⟨b,hρ,hmv⟩:=hm;subst hmv;obtain⟨b',ents,clock,g1,g2,g3,hB⟩:=R.obj _ _ hob;rw[hρ]at g1;cases g1;have hck:=λb w=>GA (P:=P) (b:=b) hd hdd hy w;have hset':∀ob:Obj,(setObj b ob).run P c.w=.ok () { c.w with heap:=c.w.heap.setIfInBounds b ob }:=λob=>by
   simp[setObj,Sem.run,g2]
  have hgo:(getObj b).run P c.w=.ok (.map ents clock) c.w:=by simp[getObj,Sem.run,g2]
  have fin:∀(es':List (SV×SV)) (ents':Array MapEntry) (clock':Nat),AZ (λ(p:SV×SV) (e:MapEntry)=>V c p.1 e.key/\V c p.2 e.val) es' ents'.toList->Hm ents'.toList clock'->
   (Builtin.delete_ #[t,t2] o.type #[.map (some b),uy]).run P c.w=.ok (.tuple #[]) { c.w with heap:=c.w.heap.setIfInBounds b (.map ents' clock') }->
   DN P ev o h k c { val:=.tup [],upd:=some (o',some (.map es')) }:=λes' ents' clock' he hB' hr=>by
   obtain⟨R',E'⟩:=KB (clock':=clock') R hob hρ g2 he hB';exact⟨.tuple #[],_,.inl (hrun _ _ _ λcs=>by simp only[builtin,Sem.run_bind,hr,Result.andThen_ok,Sem.run_pure]),by simp[V,VL],R',E',λ_ _=>rfl⟩
  split at hs<;>try cases hs
  rename_i i x' hfs;rcases GF hdd hy es ents.toList 0 _ g3 hfs with⟨hc,_⟩|⟨j,x2,y2,e2,hr,hf,hxy,hj,hsame⟩
  cases hc;simp only[jc,qh,Prod.mk.injEq]at hr;obtain⟨rfl,rfl⟩:=hr;have hj':ents[i]? = some e2:=by simpa using hj
  have hlt:=(qp.1 hj').1;refine fin _ (ents.eraseIdxIfInBounds i) clock (by simpa[Array.eraseIdxIfInBounds,hlt]using AZ.eraseIdx i g3) (hB.sub (by simp[Array.eraseIdxIfInBounds,hlt];exact List.eraseIdx_sublist _ _)) ?_;have hfk:=λw=>Fi (P:=P) hd hf w;simp[Builtin.delete_,AO (EE ht),hgo,hck,hfk,hset'];rename_i hfs;rcases GF hdd hy es ents.toList 0 _ g3 hfs with⟨_,hf⟩|⟨j,x2,y2,e2,hr,_⟩
  refine fin _ ents clock g3 hB ?_;have hfk:=λw=>Fi (P:=P) hd hf w;simp[Builtin.delete_,AO (EE ht),hgo,hck,hfk,hset'];cases hr
 | [],H=>exact H.elim
 | [_],H=>exact H.2.elim
 | _::_::_::_,H=>exact H.2.2.elim
theorem KN {out:Cs} {evs:Operand->SV} (hs:C2 P evs h k o.op=some out) (R:Bn h c) (hk:c.ρ k=none) (H:∀x∈o.op.operands,V c (evs x) (ev x)):DN P ev o h k c out:=by
 cases ho:o.op with
 | move x=>exact Pm (.inl ho) hs R H
 | assign x=>exact Pm (.inr ho) hs R H
 | pick a b d=>exact T9 ho hs R H
 | alloc e=>exact SJ ho hs R hk
 | box e x=>exact VA ho hs R hk H
 | build t ps=>exact SL ho hs R H
 | buildSlice t l ps=>exact L3 ho hs R hk H
 | load t a=>exact T8 ho hs R H
 | store t a x=>exact SR ho hs R H
 | nilCheck x=>exact N7 ho hs R H
 | binOp op t x y t2=>exact SK ho hs R H
 | unOp op t x=>exact UA ho hs R H
 | convert a b x=>exact Pj ho hs R H
 | makeFunc f a b=>exact N6 ho hs R H
 | makeMap t r=>exact Pl ho hs R hk
 | makeSlice t l c=>exact MY ho hs R hk H
 | slice t x lo hi mx=>exact SQ ho hs R H
 | fieldAddr t x i=>exact MW ho hs R H
 | field t x i=>exact SM ho hs R H
 | indexAddr t x i=>exact MX ho hs R H
 | index t x i=>exact SN ho hs R H
 | lookup t m y ok=>exact Qc ho hs R H
 | mapUpdate t m y x=>exact MZ ho hs R H
 | extract x i=>exact Pk ho hs R H
 | call cl =>
  obtain⟨callee,args,ts⟩:=cl;cases callee with
  | value f=>rw[ho]at hs;simp[C2]at hs
  | invoke r m=>rw[ho]at hs;simp[C2]at hs
  | builtin b=>
   have hb:AU P h k b ts.toList (args.toList.map evs)=some out:=by rw[ho]at hs;simpa only[C2]using hs
   have H':AZ (V c) (args.toList.map evs) (args.map ev).toList:=Gg args λx hx=>H x (by rw[ho];simp[Op.operands,Call.operands];simpa using hx);cases b with
   | len=>exact TP ho hb R H'
   | cap=>exact TN ho hb R H'
   | append=>exact Ox ho hb R hk H'
   | copy=>exact Rp ho hb R H'
   | clear=>exact QM ho hb R H'
   | min=>exact TR ho hb R H'
   | max=>exact TQ ho hb R H'
   | delete=>exact Oy ho hb R H'
   | _=>unfold AU at hb;split at hb<;>first|contradiction|cases hb
 | _=>rw[ho]at hs;simp[C2]at hs
end
structure B6 where
 ro:Option Nat
 mks:Bool
 base:Nat
 inv:Cx->Prop
 ext:∀{c c':Cx},DZ c c'->inv c->inv c'
def B6.plain:B6:=⟨none,false,0,λ_=>True,λ_ _=>trivial⟩
def B6.fc (E:B6):Fence:={ Fence.wide with round:=E.ro }
def Ti (D:Nat):Deferred:={ target:=.collected D,args:=#[] }
structure OO (E:B6) (c:Cx) (ds:List Deferred):Prop where
 base:E.base<=c.w.heap.size
 none:E.mks=false->ds=[]
 nodup:ds.Nodup
 ok:∀d∈ds,∃D,E.base<=D/\d=Ti D/\c.w.heap[D]? = some (.deferred (some []))/\¬c.own D
theorem OO.mono {E:B6} {c c':Cx} {ds:List Deferred} (x:DZ c c') (H:OO E c ds):OO E c' ds:=
 ⟨qr H.base x.size,H.none,H.nodup,λd hd=>by
  obtain⟨D,h1,h2,h3,h4⟩:=H.ok d hd;have hb:=(qp.1 h3).1;exact⟨D,h1,h2,by rw[(x.keep D hb h4).2];exact h3,(x.keep D hb h4).1⟩⟩
structure FR (E:B6) (N:Nat) (sa:SA) (c:Cx) (a:Act):Prop where
 size:a.tmps.size=N
 defers:OO E c a.defers
 val:∀t,V c (Ai sa t) (a.tmps.getD t undef)
def Fr (n:Nat) (c:Cx):Prop:=∀j,n<=j->c.ρ j=none
theorem FR.ext {E:B6} {N:Nat} {sa:SA} {c c':Cx} {a:Act} (h:FR E N sa c a) (x:DZ c c'):FR E N sa c' a:=⟨h.size,h.defers.mono x,λt=>kR x (h.val t)⟩
theorem FR.ev {E:B6} {N:Nat} {sa:SA} {c:Cx} {a:Act} (h:FR E N sa c a) (x:Operand):V c (Gp sa x) (a.eval x):=by
 cases x with
 | tmp t=>exact h.val t
 | const v=>exact C9 c v
 | global g=>simp[Gp,V]
 | func f=>simp[Gp,Act.eval,V,VL]
theorem FR.put {E:B6} {N:Nat} {sa:SA} {c:Cx} {a:Act} (h:FR E N sa c a) {dst:Option Tmp} (hd:∀d,dst=some d->d<N) {s:SV} {u:Value} (hv:V c s u):FR E N (EB sa dst s) c (a.put dst u):=by
 cases dst with
 | none=>exact h
 | some d=>
  refine⟨by simpa[Act.put]using h.size,h.defers,λt=>?_⟩;simp only[EB,Ai,Act.put];by_cases e:d=t;subst e;have:=hd d rfl;have hs:=h.size;simp[hs,this,hv];simp only[e,if_false];have:=h.val t;simpa[jH e]using this
theorem Ku {c:Cx}:V c (.tup []) undef:=by rw[V];exact⟨[],rfl,by simp[VL]⟩
theorem FR.weaken {E:B6} {N:Nat} {sa sb:SA} {c:Cx} {a:Act} (h:FR E N sa c a) (hw:∀p∈sb,Ai sa p.1=p.2):FR E N sb c a:=by
 refine⟨h.size,h.defers,λt=>?_⟩;have key:∀l:SA,(∀p∈l,Ai sa p.1=p.2)->Ai l t=.junk\/Ai l t=Ai sa t:=by
  intro l
  induction l with
  | nil=>intro _;exact .inl rfl
  | cons p l ih=>
   intro hl;obtain⟨k,x⟩:=p;simp only[Ai];by_cases e:k=t;subst e;simp only[if_true];exact .inr (hl (k,x) (by simp)).symm;simp only[e,if_false];exact ih λq hq=>hl q (by simp[hq])
 rcases key sb hw with e|e;rw[e];simp[V];rw[e];exact h.val t
structure Fq (n:Nat) (c:Cx) (n':Nat) (c':Cx):Prop where
 ext:DZ c c'
 le:n<=n'
 same:∀j,j<n->c'.ρ j=c.ρ j
theorem Fq.refl (n:Nat) (c:Cx):Fq n c n c:=⟨kZ c,qa _,λ_ _=>rfl⟩
theorem Fq.trans {n1 n2 n3:Nat} {a b c:Cx} (h:Fq n1 a n2 b) (g:Fq n2 b n3 c):Fq n1 a n3 c:=
 ⟨h.ext.trans g.ext,qr h.le g.le,λj hj=>(g.same j (kq hj h.le)).trans (h.same j hj)⟩
abbrev Ce:=Exit->SA->Hp->Nat->Prop
def Sl (E:B6) (N n:Nat) (c:Cx) (Q:Ce):Exit->Act->World->Prop:=λe a' w'=>
 ∃sa' h' n' c',Q e sa' h' n'/\c'.w=w'/\Bn h' c'/\Fr n' c'/\FR E N sa' c' a'/\Fq n c n' c'
def Code.dok (N:Nat):Code->Bool
 | .region _ ops _=>ops.toList.all λo=>o.dst.all (· < N)
 | .seq a b=>Code.dok N a&&Code.dok N b
 | .cond _ a b=>Code.dok N a&&Code.dok N b
 | .block _ b=>Code.dok N b
 | .loop b=>Code.dok N b
 | .rangeFunc _ ps a b=>ps.toList.all (· < N)&&(Code.dok N a&&Code.dok N b)
 | .skip|.exit _|.ret=>true
 | _=>false
def Fs (E:B6) (P:Program) (N:Nat) (code:Code) (Q:Ce) (sa:SA) (h:Hp) (n:Nat):Prop:=
 Code.dok N code=true->∀c a,E.inv c->Bn h c->Fr n c->FR E N sa c a->code.wpIn E.fc 0 P (Sl E N n c Q) a c.w
def Kk (P:Program) (f:FuncId):Bool:=
 match P.funcs[f]? with
 | some fn=>fn.body.isSome&&fn.name != "runtime.NumGoroutine"
 | none=>false
def Ak (E:B6) (P:Program) (f:FuncId) (args:List SV) (h:Hp) (n:Nat) (Q:SV->Hp->Nat->Prop):Prop:=
 Kk P f=true/\∀c vs,E.inv c->Bn h c->Fr n c->AZ (V c) args vs->Calls P f vs.toArray c.w (λe w'=>
  ∃u v h' n' c',e=.returned u/\Q v h' n'/\c'.w=w'/\V c' v u/\Bn h' c'/\Fr n' c'/\Fq n c n' c')
theorem Ak.mono {E:B6} {P:Program} {f:FuncId} {args:List SV} {h:Hp} {n:Nat} {Q Q':SV->Hp->Nat->Prop} (H:Ak E P f args h n Q) (hq:∀v h' n',Q v h' n'->Q' v h' n'):Ak E P f args h n Q':=
 ⟨H.1,λc vs I R F A=>(H.2 c vs I R F A).mono λ_ _ ⟨u,v,h',n',c',e,q,r⟩=>⟨u,v,h',n',c',e,hq _ _ _ q,r⟩⟩
def callee:SV->List SV->Option (FuncId×List SV)
 | .fn (.func f) a b,args=>some (f,a++args++b)
 | _,_=>none
def FJ (E:B6) (P:Program) (l:Nat) (args:List SV) (h:Hp) (n:Nat) (Q:SV->Hp->Nat->Prop):Prop:=
 ∀c vs,E.inv c->Bn h c->Fr n c->AZ (V c) args vs->YieldAt Fence.wide 0 P l vs.toArray c.w (λe w'=>
  ∃u v h' n' c',e=.returned u/\Q v h' n'/\c'.w=w'/\V c' v u/\Bn h' c'/\Fr n' c'/\Fq n c n' c')
def Nh:SV->Option Nat
 | .fn (.yield l) [] []=>some l
 | _=>none
def EI (E:B6) (P:Program) (evs:Operand->SV) (o:Oper) (h:Hp) (n:Nat) (K:SV->Hp->Nat->Prop):Prop:=
 (∀c,o.op≠.defer c)/\∀(c:Cx) (ev:Operand->Value),(∀v,ev (.const v)=v)->E.inv c->Bn h c->Fr n c->(∀x,V c (evs x) (ev x))->
   ∃u v h' n' c',(execOp ev o).run P c.w=.ok (.value u) c'.w/\V c' v u/\Bn h' c'/\Fr n' c'/\Fq n c n' c'/\K v h' n'
def XM (E:B6) (P:Program) (evs:Operand->SV) (o:Oper) (h:Hp) (n:Nat) (K:SV->Hp->Nat->Prop):Prop:=
 (∀c,o.op≠.defer c)/\∀(c:Cx) (ev:Operand->Value),(∀v,ev (.const v)=v)->E.inv c->Bn h c->Fr n c->(∀x,V c (evs x) (ev x))->
   ∃h' n' c',(execOp ev o).run P c.w=.ok .skip c'.w/\Bn h' c'/\Fr n' c'/\Fq n c n' c'/\K (.tup []) h' n'
def OU (P:Program) (evs:Operand->SV) (o:Oper) (v:SV):Prop:=
 (∀c,o.op≠.defer c)/\∀(c:Cx) (ev:Operand->Value),(∀v,ev (.const v)=v)->(∀x∈o.op.operands,V c (evs x) (ev x))->∃u,(execOp ev o).run P c.w=.ok (.value u) c.w/\V c v u
theorem OU.op {E:B6} {P:Program} {evs:Operand->SV} {o:Oper} {v:SV} (H:OU P evs o v) {h:Hp} {n:Nat} {K:SV->Hp->Nat->Prop} (hk:K v h n):EI E P evs o h n K:=
 ⟨H.1,λc ev hc _ R F hv=>let⟨u,h1,h2⟩:=H.2 c ev hc λx _=>hv x;⟨u,v,h,n,c,h1,h2,R,F,Fq.refl n c,hk⟩⟩
def Ke (E:B6) (P:Program) (o:Oper) (sa:SA) (h:Hp) (n:Nat) (K:SV->Hp->Nat->Prop):Prop:=
 match o.op with
 | .call { callee:=.value f,args,.. }=>
  match callee (Gp sa f) (args.toList.map (Gp sa))with
  | some (g,aS)=>Ak E P g aS h n K
  | none=>match Nh (Gp sa f)with|some l=>FJ E P l (args.toList.map (Gp sa)) h n K|none=>False
 | op=>
  match C2 P (Gp sa) h n op with
  | some out=>K out.val (out.app h n) (if out.new.isSome then n+1 else n)
  | none=>match op with|.mapUpdate ..=>XM E P (Gp sa) o h n K|_=>EI E P (Gp sa) o h n K
def Dg (ops:Array Oper) (sa:SA) (o:Oper):Option Bool:=
 match o.guard with
 | none=>some true
 | some (j,want)=>
  match(ops[j]?).bind (·.dst)with
  | some d=>match Ai sa d with|.bool b=>some (b==want)|.tup []=>some false|_=>none
  | none=>none
def IL (E:B6) (P:Program) (ops:Array Oper) (Q:SA->Hp->Nat->Prop):List Oper->SA->Hp->Nat->Prop
 | [],sa,h,n=>Q sa h n
 | o::rest,sa,h,n=>
  match Dg ops sa o with
  | some b=>if b=true then Ke E P o sa h n λv h' n'=>IL E P ops Q rest (EB sa o.dst v) h' n' else IL E P ops Q rest (EB sa o.dst (.tup [])) h n
  | none=>False
section
variable {E : B6} {P : Program} {N : Nat} {ops : Array Oper}
theorem Gz {sa:SA} {c:Cx} {a:Act} {o:Oper} {b:Bool} (F:FR E N sa c a) (hg:Dg ops sa o=some b):Region.wanted o (yielded ops a.tmps)=b:=by
 unfold Dg at hg;unfold Region.wanted;split at hg;rename_i e;rw[e];simpa using hg
 . rename_i j want e;rw[e];split at hg<;>try cases hg
   rename_i d hd;split at hg<;>try cases hg
   rename_i b' hb;have hv:=F.val d;rw[hb]at hv;have:=Gm hv;simp only[yielded,hd,qJ];have hget:a.tmps[d]? = some (.bool b'):=by
    rcases ji d a.tmps.size with hl|hl;rw[qZ,jd hl]at this;rw[jd hl];simpa using this;rw[qZ,jg hl]at this;cases this
   rw[hget];simp;rename_i hb;have hv:=F.val d;rw[hb,V]at hv;obtain⟨vs,hv,_⟩:=hv;simp only[yielded,hd,qJ];rcases ji d a.tmps.size with hl|hl;rw[qZ,jd hl]at hv;rw[jd hl];simp only[Option.getD_some]at hv;rw[hv];rfl;rw[jg hl];rfl
theorem IK {ev:Operand->SV} {h:Hp} {k:Nat} {op:Op} {out:Cs} (hs:C2 P ev h k op=some out):∀c,op≠.defer c:=by
 rintro c rfl;simp[C2]at hs
theorem IN {o:Oper} {sa:SA} {h:Hp} {n:Nat} {K:SV->Hp->Nat->Prop} {Kr:Act->World->Prop} {Qr:Exit->Act->World->Prop} {c:Cx} {a:Act}
 (H:Ke E P o sa h n K) (I:E.inv c) (R:Bn h c) (F:Fr n c) (A:FR E N sa c a)
 (hK:∀v h' n' c' u,K v h' n'->V c' v u->Bn h' c'->Fr n' c'->Fq n c n' c'->Kr (a.put o.dst u) c'.w):o.wpIn E.fc 0 P a c.w Kr Qr:=by
 refine⟨λ_ _=>trivial,?_⟩;have plain:∀out,C2 P (Gp sa) h n o.op=some out->K out.val (out.app h n) (if out.new.isSome then n+1 else n)->o.uponIn E.fc 0 P a Kr Qr ((o.semAt E.fc.round a.eval).run P c.w):=λout hs hk=>by
  obtain⟨u,c',hr,hv,R',X,hρ⟩:=KN (ev:=a.eval) hs R (F n (qa _)) λx _=>A.ev x;have F':Fr (if out.new.isSome then n+1 else n) c':=λj hj=>by
   have:c'.ρ j=c.ρ j:=hρ j (by cases hn:out.new<;>simp[hn]at hj ⊢;omega);rw[this];exact F j (by cases hn:out.new<;>simp[hn]at hj<;>omega)
  have A':Fq n c (if out.new.isSome then n+1 else n) c':=⟨X,by split<;>omega,λj hj=>hρ j (.inr (by omega))⟩
  have:=hK _ _ _ c' u hk hv R' F' A';rw[Oper.semAt_eq _ _ _ (IK hs)];rcases hr with hr|⟨rfl,hr⟩
  rw[hr];exact this;rw[hr];exact this
 unfold Ke at H;split at H
 . rename_i f args ts ho;rw[Oper.semAt_eq _ _ _ (by rw[ho];simp)];split at H
   . rename_i g aS hc;have hf:=A.ev f;unfold callee at hc;split at hc<;>try cases hc
     rename_i s args' g' x y e1;rw[e1,V]at hf;obtain⟨xs,ys,hfv,h1,h2⟩:=hf;have hargs:AZ (V c) (x++args.toList.map (Gp sa)++y) (xs++(args.map a.eval).toList++ys):=
      jS (jS (BN.1 h1) (Gg args λz _=>A.ev z)) (BN.1 h2)
     obtain⟨hok,hcall⟩:=H;have hc:=hcall c _ I R F hargs;unfold Kk at hok;cases hfn:P.funcs[g]? with
     | none=>simp[hfn]at hok
     | some fn =>
      simp only[hfn,qq,bne_iff_ne,ne_eq]at hok;have hrun:(execOp a.eval o).run P c.w=.ok (.enter g (xs.toArray++args.map a.eval++ys.toArray)) c.w:=by
       have hb:fn.body≠none:=by intro e;simp[e]at hok
       simp[execOp,ho,resolve,Deferred.ofValue,hfv,invoke,callFunc,hfn,hok.2,hb]
      have earr:xs.toArray++args.map a.eval++ys.toArray=(xs++(args.map a.eval).toList++ys).toArray:=by
       apply Array.ext';simp
      rw[hrun,Oper.uponIn_enter,earr];refine⟨λh=>by simp[B6.fc,Fence.wide]at h,(callsIn_wide.2 (hc.mono λe w' ⟨u,v,h',n',c',he,q,hw,hv,R',F',X⟩=>?_):CallsIn Fence.wide _ P g _ c.w _)⟩;subst he;subst hw;exact hK v h' n' c' u q hv R' F' X
   . split at H
     . rename_i l hl;have hf:=A.ev f;unfold Nh at hl;split at hl<;>try cases hl
       rename_i e1;rw[e1,V]at hf;obtain⟨xs,ys,hfv,h1,h2⟩:=hf;simp only[VL]at h1 h2;subst h1;subst h2;obtain⟨fn,tm,aS,bd,hy,hr⟩:=H c _ I R F (Gg args λz _=>A.ev z);have hrun:(execOp a.eval o).run P c.w=.ok (.round l fn tm aS bd) c.w:=by
        have e:(args.map a.eval)=(args.map a.eval).toList.toArray:=by apply Array.ext';simp
        rw[<-e]at hy;simp[execOp,ho,resolve,Deferred.ofValue,hfv,invoke];simpa using hy
       rw[hrun,Oper.uponIn_round];refine⟨λh=>by simp[B6.fc,Fence.wide]at h,(hr.mono λe w' ⟨u,v,h',n',c',he,q,hw,hv,R',F',X⟩=>?_:RoundIn Fence.wide _ P l _ _ _ _ c.w _)⟩;subst he;subst hw;exact hK v h' n' c' u q hv R' F' X
     exact H.elim
 split at H;rename_i out hs;exact plain out hs H;split at H;obtain⟨hd,H⟩:=H;rw[Oper.semAt_eq _ _ _ hd];obtain⟨h',n',c',hr,R',F',X,hk⟩:=H c a.eval (λ_=>rfl) I R F A.ev;rw[hr];exact hK (.tup []) h' n' c' undef hk (by simp[V,undef,VL]) R' F' X;obtain⟨hd,H⟩:=H;rw[Oper.semAt_eq _ _ _ hd];obtain⟨u,v,h',n',c',hr,hv,R',F',X,hk⟩:=H c a.eval (λ_=>rfl) I R F A.ev;rw[hr];exact hK v h' n' c' u hk hv R' F' X
theorem IM {Q:SA->Hp->Nat->Prop} (Qp:Ce) (hQ:∀sa h n,Q sa h n->Qp .normal sa h n):∀(l:List Oper) (sa:SA) (h:Hp) (n n0:Nat) (c0 c:Cx) (a:Act),(∀o∈l,o.dst.all (· < N)=true)->
 IL E P ops Q l sa h n->E.inv c->Bn h c->Fr n c->FR E N sa c a->Fq n0 c0 n c->wpListIn E.fc 0 P ops (Sl E N n0 c0 Qp) l a c.w
 | [],sa,h,n,n0,c0,c,a,_,H,I,R,F,A,X=>⟨sa,h,n,c,hQ _ _ _ H,rfl,R,F,A,X⟩
 | o :: rest, sa, h, n, n0, c0, c, a, hd, H, I, R, F, A, X => by
  have hdo:∀d,o.dst=some d->d<N:=λd e=>by have:=hd o (by simp);rw[e]at this;simpa using this
  simp only[IL]at H;simp only[wpListIn];split at H
  case h_2=>exact H.elim
  rename_i b hg;cases b
  case true=>
   rw[if_pos rfl]at H;rw[Gz A hg,if_pos rfl];refine IN H I R F A λv h' n' c' u hk hv R' F' X'=>?_;exact IM Qp hQ rest _ h' n' n0 c0 c' _ (λo ho=>hd o (by simp[ho])) hk (E.ext X'.ext I) R' F' ((A.ext X'.ext).put hdo hv) (X.trans X')
  case false=>
   rw[Gz A hg];simp only[qj,if_false]at H ⊢;exact⟨λ_ _=>trivial,IM Qp hQ rest _ h n n0 c0 c _ (λo ho=>hd o (by simp[ho])) H I R F (A.put hdo Ku) X⟩
theorem Pz {id:Nat} {Q:Ce} {sa:SA} {h:Hp} {n:Nat} (H:IL E P ops (Q .normal) ops.toList sa h n):Fs E P N (.region id ops false) Q sa h n:=by
 intro hd c a I R F A;simp only[Code.dok,jj]at hd;exact wpIn_region_list (IM Q (λ_ _ _ h=>h) _ sa h n n c c a hd H I R F A (Fq.refl n c))
theorem GJ {code:Code} {Q Q':Ce} {sa:SA} {h:Hp} {n:Nat} (H:Fs E P N code Q sa h n) (hq:∀e sa h n,Q e sa h n->Q' e sa h n):Fs E P N code Q' sa h n:=
 λhd c a I R F A=>wpIn_mono (H hd c a I R F A) λ_ _ _ ⟨sa',h',n',c',q,r⟩=>⟨sa',h',n',c',hq _ _ _ _ q,r⟩
theorem Gv {Q:Ce} {sa:SA} {h:Hp} {n:Nat} (H:Q .normal sa h n):Fs E P N .skip Q sa h n:=
 λ_ c _ _I R F A=>wpIn_skip ⟨sa,h,n,c,H,rfl,R,F,A,Fq.refl n c⟩
theorem Sn {id:Nat} {Q:Ce} {sa:SA} {h:Hp} {n:Nat} (H:Q (.exit id) sa h n):Fs E P N (.exit id) Q sa h n:=
 λ_ c _ _I R F A=>wpIn_exit ⟨sa,h,n,c,H,rfl,R,F,A,Fq.refl n c⟩
theorem UU {Q:Ce} {sa:SA} {h:Hp} {n:Nat} (H:Q .ret sa h n):Fs E P N .ret Q sa h n:=
 λ_ c _ _I R F A=>wpIn_ret ⟨sa,h,n,c,H,rfl,R,F,A,Fq.refl n c⟩
def DX (K:SA->Hp->Nat->Prop) (Q:Ce):Ce
 | .normal=>K
 | e=>Q e
theorem JJ {x y:Code} {Q:Ce} {sa:SA} {h:Hp} {n:Nat} (H:Fs E P N x (DX (Fs E P N y Q) Q) sa h n):Fs E P N (.seq x y) Q sa h n:=by
 intro hd c a I R F A;simp only[Code.dok,qq]at hd;refine wpIn_seq (wpIn_mono (H hd.1 c a I R F A) ?_);rintro e a' w' ⟨sa',h',n',c',q,rfl,R',F',A',X⟩;cases e with
 | normal=>
  refine wpIn_mono (q hd.2 c' a' (E.ext X.ext I) R' F' A') ?_;rintro e2 a2 w2 ⟨sa2,h2,n2,c2,q2,hw2,R2,F2,A2,E2⟩;exact⟨sa2,h2,n2,c2,q2,hw2,R2,F2,A2,X.trans E2⟩
 | _=>exact⟨sa',h',n',c',q,rfl,R',F',A',X⟩
theorem Ah {x:Operand} {y z:Code} {b:Bool} {Q:Ce} {sa:SA} {h:Hp} {n:Nat} (hb:Gp sa x=.bool b) (H:Fs E P N (if b then y else z) Q sa h n):Fs E P N (.cond x y z) Q sa h n:=by
 intro hd c a I R F A;simp only[Code.dok,qq]at hd;have hv:=A.ev x;rw[hb]at hv;refine wpIn_cond (Gm hv) ?_;cases b;exact H hd.2 c a I R F A;exact H hd.1 c a I R F A
def FP (id:Nat) (Q:Ce):Ce
 | .exit id'=>λsa h n=>if id'=id then Q .normal sa h n else Q (.exit id') sa h n
 | e=>Q e
theorem Mb {id:Nat} {x:Code} {Q:Ce} {sa:SA} {h:Hp} {n:Nat} (H:Fs E P N x (FP id Q) sa h n):Fs E P N (.block id x) Q sa h n:=by
 intro hd c a I R F A;simp only[Code.dok]at hd;refine wpIn_block (wpIn_mono (H hd c a I R F A) ?_);rintro e a' w' ⟨sa',h',n',c',q,hw,R',F',A',X⟩;cases e with
 | exit id'=>
  simp only[FP]at q;simp only[Exit.inBlock];split;rename_i e;rw[if_pos e]at q;exact⟨sa',h',n',c',q,hw,R',F',A',X⟩;rename_i e;rw[if_neg e]at q;exact⟨sa',h',n',c',q,hw,R',F',A',X⟩
 | _=>exact⟨sa',h',n',c',q,hw,R',F',A',X⟩
theorem P1 {code:Code} {Q:Ce} {sa sb:SA} {h:Hp} {n:Nat} (H:Fs E P N code Q sb h n) (hw:∀p∈sb,Ai sa p.1=p.2):Fs E P N code Q sa h n:=
 λhd c a I R F A=>H hd c a I R F (A.weaken hw)
theorem OQ {x:Code} {Q:Ce} {sa:SA} {h:Hp} {n:Nat} (μ:Nat) (J:Nat->SA->Hp->Nat->Prop) (h0:J μ sa h n)
 (round:∀m sa h n,J m sa h n->Fs E P N x (DX (λsa' h' n'=>∃m',m'<m/\J m' sa' h' n') Q) sa h n):Fs E P N (.loop x) Q sa h n:=by
 intro hd c a I R F A;have hd':Code.dok N x=true:=by simpa[Code.dok]using hd
 classical
 let L:Nat->Act->World->Prop:=λm a' w'=>∃sa' h' n' c',J m sa' h' n'/\c'.w=w'/\Bn h' c'/\Fr n' c'/\FR E N sa' c' a'/\Fq n c n' c';have hex:∀(a':Act) (w':World),(∃m,L m a' w')->∃m,L m a' w'/\∀k,k<m->¬L k a' w':=by
  intro a' w' ⟨m,hm⟩
  induction m using Nat.strongRecOn with
  | _ m ih=>
   by_cases hk:∃k,k<m/\L k a' w';obtain⟨k,hk,hl⟩:=hk;exact ih k hk hl;exact⟨m,hm,λk hk' hl=>hk ⟨k,hk',hl⟩⟩
 let μ':Act->World->Nat:=λa' w'=>if hx:∃m,L m a' w' then(hex a' w' hx).choose else 0
 have hμ:∀a' w' m,L m a' w'->L (μ' a' w') a' w'/\μ' a' w'<=m:=by
  intro a' w' m hm;have hx:∃m,L m a' w':=⟨m,hm⟩
  have:=(hex a' w' hx).choose_spec;have e:μ' a' w'=(hex a' w' hx).choose:=by simp only[μ',hx,dif_pos]
  rw[e];exact⟨this.1,Nat.le_of_not_lt λhlt=>this.2 m hlt hm⟩
 refine wpIn_loop (I:=λa' w'=>∃m,L m a' w') (μ:=μ') ⟨μ,sa,h,n,c,h0,rfl,R,F,A,Fq.refl n c⟩ ?_;intro a1 w1 ⟨m,hm⟩;obtain⟨⟨sa1,h1,n1,c1,hJ,hw,R1,F1,A1,E1⟩,hle⟩:=hμ a1 w1 m hm;subst hw;refine wpIn_mono (round _ sa1 h1 n1 hJ hd' c1 a1 (E.ext E1.ext I) R1 F1 A1) ?_;rintro e a2 w2 ⟨sa2,h2,n2,c2,q,hw2,R2,F2,A2,E2⟩;cases e with
 | normal=>
  obtain⟨m',hlt,hJ'⟩:=q;have hL:L m' a2 w2:=⟨sa2,h2,n2,c2,hJ',hw2,R2,F2,A2,E1.trans E2⟩
  exact⟨⟨m',hL⟩,Nat.lt_of_le_of_lt (hμ a2 w2 m' hL).2 hlt⟩
 | _=>exact⟨sa2,h2,n2,c2,q,hw2,R2,F2,A2,E1.trans E2⟩
end
abbrev BA:=Ak B6.plain
theorem Ak.lift {E:B6} {P:Program} {f:FuncId} {args:List SV} {h:Hp} {n:Nat} {Q:SV->Hp->Nat->Prop} (H:Ak B6.plain P f args h n Q):Ak E P f args h n Q:=
 ⟨H.1,λc vs _ R F A=>H.2 c vs trivial R F A⟩
mutual
def closed (n:Nat):SV->Bool
 | .agg cs=>closedL n cs
 | .tup cs=>closedL n cs
 | .fn _ a b=>closedL n a&&closedL n b
 | .ptr o _=>decide (o<n)
 | .iptr cs=>closedL n cs
 | .sl o _ _ _ _=>decide (o<n)
 | .slc o _ _ _ _=>decide (o<n)
 | .imm _ es _=>closedL n es
 | .map o=>decide (o<n)
 | _=>true
def closedL (n:Nat):List SV->Bool
 | []=>true
 | s::ss=>closed n s&&closedL n ss
end
def BQ (n:Nat):BT->Bool
 | .cells cs _=>closedL n cs
 | .map es=>es.all λp=>closed n p.1&&closed n p.2
 | .loop _=>true
 | .iter left last=>(left.all λp=>closed n p.1&&closed n p.2)&&last.all λp=>closed n p.1&&closed n p.2
 | .list _ es=>closedL n (es.flatMap SV.cells)
theorem BU {n:Nat}:∀{l:List SV},closedL n l=true↔∀s∈l,closed n s=true
 | []=>by simp[closedL]
 | s::ss=>by simp[closedL,BU (l:=ss)]
mutual
theorem DC {c:Cx} {n:Nat} (F:Fr n c):∀{s:SV} {v:Value},V c s v->closed n s=true
 | .agg cs,v,h=>by rw[V]at h;obtain⟨vs,_,hl,_⟩:=h;rw[closed];exact DD F hl
 | .tup cs,v,h=>by rw[V]at h;obtain⟨vs,_,hl⟩:=h;rw[closed];exact DD F hl
 | .fn f a b,v,h=>by rw[V]at h;obtain⟨xs,ys,_,h1,h2⟩:=h;rw[closed,DD F h1,DD F h2];rfl
 | .ptr o off,v,h=>by
  rw[V]at h;obtain⟨b,st,h1,_⟩:=h;rw[closed];exact decide_eq_true (kC λhl=>by rw[F o hl]at h1;cases h1)
 | .iptr cs,v,h=>by rw[V]at h;obtain⟨a,vs,_,_,hl,_⟩:=h;rw[closed];exact DD F hl
 | .sl o _ _ _ _,v,h=>by
  rw[V]at h;obtain⟨b,st,cap,h1,_⟩:=h;rw[closed];exact decide_eq_true (kC λhl=>by rw[F o hl]at h1;cases h1)
 | .slc o _ _ _ _,v,h=>by
  rw[V]at h;obtain⟨b,st,h1,_⟩:=h;rw[closed];exact decide_eq_true (kC λhl=>by rw[F o hl]at h1;cases h1)
 | .imm z es full,v,h=>by
  rw[V]at h;rw[closed];rcases h with⟨rfl,_⟩|⟨a,cap,vs,_,_,_,_,hE⟩
  rfl;exact JM F hE
 | .map o,v,h=>by
  rw[V]at h;obtain⟨b,h1,_⟩:=h;rw[closed];exact decide_eq_true (kC λhl=>by rw[F o hl]at h1;cases h1)
 | .bool _,_,_=>rfl
 | .int _ _,_,_=>rfl
 | .str _,_,_=>rfl
 | .nilp,_,_=>rfl
 | .nilf,_,_=>rfl
 | .nilm,_,_=>rfl
 | .junk,_,_=>rfl
theorem DD {c:Cx} {n:Nat} (F:Fr n c):∀{s:List SV} {v:List Value},VL c s v->closedL n s=true
 | [],_,_=>rfl
 | s::ss,v,h=>by rw[VL]at h;obtain⟨u,r,_,h1,h2⟩:=h;rw[closedL,DC F h1,DD F h2];rfl
theorem JM {c:Cx} {n z:Nat} (F:Fr n c):∀{s:List SV} {v:List Value},VE c z s v->closedL n s=true
 | [],_,_=>rfl
 | s::ss,v,h=>by rw[VE]at h;obtain⟨u,r,_,_,_,h1,h2⟩:=h;rw[closedL,DC F h1,JM F h2];rfl
end
theorem HP {c:Cx} {n o:Nat} {x:BT} (F:Fr n c) (h:Dl c o x):o<n/\BQ n x=true:=by
 refine⟨?_,?_⟩;obtain⟨b,st,h1,_⟩:=h.block;exact kC λhl=>by rw[F o hl]at h1;cases h1
 cases x with
 | cells cs ty=>obtain⟨b,st,arr,e,vs,_,_,_,h4,_⟩:=h;exact DD F (BN.2 h4)
 | map es=>
  obtain⟨b,ents,clock,_,_,h3,_⟩:=h;simp only[BQ,jj,qq];intro p hp;obtain⟨i,hi⟩:=List.getElem?_of_mem hp;obtain⟨e,_,h4,h5⟩:=h3.get hi;exact⟨DC F h4,DC F h5⟩
 | loop r=>rfl
 | iter left last=>
  obtain⟨b,bm,ents,clock,seen,_,_,_,_,_,h3,h7⟩:=h;simp only[BQ,jj,qq,Option.all_eq_true];refine⟨λp hp=>?_,λp hp=>?_⟩;obtain⟨i,hi⟩:=List.getElem?_of_mem hp;obtain⟨e,_,h4,h5⟩:=h3.get hi;exact⟨DC F h4,DC F h5⟩;obtain⟨e,_,_,h4,h5⟩:=h7 p hp;exact⟨DC F h4,DC F h5⟩
 | list z es=>
  obtain⟨b,Po,arr,e,v,_,_,_,_,⟨rfl,_,_⟩|⟨B,st,arr2,e2,vs,cap,_,_,_,_,_,_,_,_,h8,_⟩⟩:=h;rfl;exact DD F (BN.2 h8)
def Cx.cut (c:Cx) (h:Hp) (n:Nat):Cx:=
 { ρ:=λj=>if j<n then c.ρ j else none,own:=λb=>∃o x,h o=some x/\o<n/\BE c o x b,w:=c.w,bk:=c.bk }
section
variable {c : Cx} {h h2 : Hp} {n : Nat}
theorem Nk (R:Bn h c) (hs:∀o x,h2 o=some x->h o=some x) {b:Nat} (hb:(c.cut h2 n).own b):c.own b:=by
 obtain⟨o,x,e1,_,e2⟩:=hb;exact(R.own2 b).2 ⟨o,x,hs o x e1,e2⟩
theorem GZ.cut (R:Bn h c) (hs:∀o x,h2 o=some x->h o=some x) {a:Addr} {vs:List Value} (g:GZ c a vs):GZ (c.cut h2 n) a vs:=
 ⟨g.spot,λhv hb=>g.free hv (Nk R hs hb),g.cell,g.one⟩
mutual
theorem V.cut (R:Bn h c) (hs:∀o x,h2 o=some x->h o=some x):∀{s:SV} {v:Value},closed n s=true->V c s v->V (c.cut h2 n) s v
 | .agg cs,v,hc,g=>by rw[V]at *;rw[closed]at hc;obtain⟨vs,e,hl,ho⟩:=g;exact⟨vs,e,VL.cut R hs hc hl,ho⟩
 | .tup cs,v,hc,g=>by rw[V]at *;rw[closed]at hc;obtain⟨vs,e,hl⟩:=g;exact⟨vs,e,VL.cut R hs hc hl⟩
 | .fn f a b,v,hc,g=>by rw[V]at *;rw[closed,qq]at hc;obtain⟨xs,ys,e,h1,h2⟩:=g;exact⟨xs,ys,e,VL.cut R hs hc.1 h1,VL.cut R hs hc.2 h2⟩
 | .ptr o off,v,hc,g=>by rw[V]at *;rw[closed]at hc;obtain⟨b,st,h1,h2⟩:=g;exact⟨b,st,by simp[Cx.cut,of_decide_eq_true hc,h1],h2⟩
 | .iptr cs,v,hc,g=>by rw[V]at *;rw[closed]at hc;obtain⟨a,vs,e,h1,h2,h3⟩:=g;exact⟨a,vs,e,h1.cut R hs,VL.cut R hs hc h2,h3⟩
 | .sl o off z len full,v,hc,g=>by rw[V]at *;rw[closed]at hc;obtain⟨b,st,cap,h1,h2⟩:=g;exact⟨b,st,cap,by simp[Cx.cut,of_decide_eq_true hc,h1],h2⟩
 | .slc o off z len cap,v,hc,g=>by rw[V]at *;rw[closed]at hc;obtain⟨b,st,h1,h2⟩:=g;exact⟨b,st,by simp[Cx.cut,of_decide_eq_true hc,h1],h2⟩
 | .imm z es full,v,hc,g=>by
  rw[V]at *;rw[closed]at hc;rcases g with g|⟨a,cap,vs,e,h1,h2,h3,h4⟩
  exact .inl g;exact .inr ⟨a,cap,vs,e,h1,h2,h3.cut R hs,VE.cut R hs hc h4⟩
 | .map o,v,hc,g=>by rw[V]at *;rw[closed]at hc;obtain⟨b,h1,h2⟩:=g;exact⟨b,by simp[Cx.cut,of_decide_eq_true hc,h1],h2⟩
 | .bool _,_,_,g=>g
 | .int _ _,_,_,g=>g
 | .str _,_,_,g=>g
 | .nilp,_,_,g=>g
 | .nilf,_,_,g=>g
 | .nilm,_,_,g=>g
 | .junk,_,_,_=>trivial
theorem VL.cut (R:Bn h c) (hs:∀o x,h2 o=some x->h o=some x):∀{s:List SV} {v:List Value},closedL n s=true->VL c s v->VL (c.cut h2 n) s v
 | [],_,_,g=>by rw[VL]at *;exact g
 | s::ss,v,hc,g=>by rw[VL]at *;rw[closedL,qq]at hc;obtain⟨u,r,e,h1,h2⟩:=g;exact⟨u,r,e,V.cut R hs hc.1 h1,VL.cut R hs hc.2 h2⟩
theorem VE.cut (R:Bn h c) (hs:∀o x,h2 o=some x->h o=some x) {z:Nat}:∀{s:List SV} {v:List Value},closedL n s=true->VE c z s v->VE (c.cut h2 n) z s v
 | [],_,_,g=>by rw[VE]at *;exact g
 | s::ss,v,hc,g=>by rw[VE]at *;rw[closedL,qq]at hc;obtain⟨u,r,e,hz,hst,h1,h2⟩:=g;exact⟨u,r,e,hz,hst,V.cut R hs hc.1 h1,VE.cut R hs hc.2 h2⟩
end
theorem Bn.cut (R:Bn h c) (hs:∀o x,h2 o=some x->h o=some x/\o<n/\BQ n x=true):Bn h2 (c.cut h2 n):=by
 have hs':∀o x,h2 o=some x->h o=some x:=λo x e=>(hs o x e).1;have hh:∀o x b,o<n->(BE (c.cut h2 n) o x b↔BE c o x b):=λo x b ho=>by simp[BE,Cx.cut,ho]
 refine⟨λo x e=>?_,λi j x y b e1 e2 e3 e4=>?_,λb=>?_⟩;obtain⟨e1,e2,e3⟩:=hs o x e;have g:=R.obj o x e1;cases x with
 | cells cs ty=>
  obtain⟨b,st,arr,el,vs,h1,h2',h3,h4,h5⟩:=g;exact⟨b,st,arr,el,vs,by simp[Cx.cut,e2,h1],h2',h3,BN.1 (VL.cut R hs' e3 (BN.2 h4)),h5⟩
 | map es=>
  obtain⟨b,ents,clock,h1,h2',h3,hB⟩:=g;simp only[BQ,jj,qq]at e3;refine⟨b,ents,clock,by simp[Cx.cut,e2,h1],h2',AZ.of_get h3.length λi p q hp hq=>?_,hB⟩;obtain⟨q',hq',h4,h5⟩:=h3.get hp;rw[hq]at hq';cases hq';have:=e3 p (jb hp);exact⟨V.cut R hs' this.1 h4,V.cut R hs' this.2 h5⟩
 | iter left last=>
  obtain⟨b,bm,ents,clock,seen,h1,h2',h3,h4,h5,h6,h7⟩:=g;simp only[BQ,jj,qq,Option.all_eq_true]at e3;refine⟨b,bm,ents,clock,seen,by simp[Cx.cut,e2,h1],h2',h3,?_,h5,AZ.of_get h6.length λi p q hp hq=>?_,λp hp=>?_⟩;exact λhb=>h4 (Nk R hs' hb);obtain⟨q',hq',h4,h5⟩:=h6.get hp;rw[hq]at hq';cases hq';have:=e3.1 p (jb hp);exact⟨V.cut R hs' this.1 h4,V.cut R hs' this.2 h5⟩;obtain⟨e,g1,g2,g3,g4⟩:=h7 p hp;have:=e3.2 p hp;exact⟨e,g1,g2,V.cut R hs' this.1 g3,V.cut R hs' this.2 g4⟩
 | loop r=>
  obtain⟨b,h1,h2'⟩:=g;exact⟨b,by simp[Cx.cut,e2,h1],h2'⟩
 | list z es=>
  obtain⟨b,Po,arr,e,v,h1,h2',h3,h4,h5⟩:=g;refine⟨b,Po,arr,e,v,by simp[Cx.cut,e2,h1],h2',h3,h4,?_⟩;rcases h5 with⟨g1,g2,g3⟩|⟨B,st,arr2,e2,vs,cap,g1,gb,g2,g3,g4,g5,g6,g7,g8,g9⟩
  exact .inl ⟨g1,g2,V.cut R hs' (by rfl) g3⟩;exact .inr ⟨B,st,arr2,e2,vs,cap,g1,gb,g2,g3,g4,g5,g6,g7,BN.1 (VL.cut R hs' e3 (BN.2 g8)),g9⟩
 exact R.inj2 i j x y b (hs' _ _ e1) (hs' _ _ e2) ((hh i x b (hs i x e1).2.1).1 e3) ((hh j y b (hs j y e2).2.1).1 e4);constructor;rintro⟨o,x,e1,e2,e3⟩;exact⟨o,x,e1,(hh o x b e2).2 e3⟩;rintro⟨o,x,e1,e2⟩;have:=(hs o x e1).2.1;exact⟨o,x,e1,this,(hh o x b this).1 e2⟩
theorem S9:Fr n (c.cut h2 n):=λj hj=>by simp[Cx.cut,Nat.not_lt.2 hj]
theorem Qz {c0:Cx} {n0:Nat} (R:Bn h c) (hs:∀o x,h2 o=some x->h o=some x) (F0:Fr n0 c0) (hn:n0<=n) (E:DZ c0 c):DZ c0 (c.cut h2 n):=by
 refine⟨λo p e=>?_,E.size,λb hb ho=>⟨λg=>(E.keep b hb ho).1 (Nk R hs g),(E.keep b hb ho).2⟩,E.room,E.os,E.out,E.td⟩;have:o<n0:=kC λhl=>by rw[F0 o hl]at e;cases e
 simp only[Cx.cut,show o<n by omega,if_true];exact E.ρ o p e
end
def Cx.less (c:Cx) (h:Hp):Cx:={ c with own:=λb=>∃o x,h o=some x/\BE c o x b }
section
variable {c : Cx} {h h2 : Hp}
theorem DU (R:Bn h c) (hs:∀o x,h2 o=some x->h o=some x):DZ c (c.less h2):=
 ⟨λ_ _ e=>e,qa _,λb _ hb=>⟨λ⟨o,x,e1,e2⟩=>hb ((R.own2 b).2 ⟨o,x,hs o x e1,e2⟩),rfl⟩,λ_=>qa _,rfl,rfl,⟨rfl,qa _⟩⟩
theorem Bn.less (R:Bn h c) (hs:∀o x,h2 o=some x->h o=some x):Bn h2 (c.less h2):=
 ⟨λo x e=>(R.obj o x (hs o x e)).mono (DU R hs) λ_ _=>rfl,λi j x y b e1 e2 e3 e4=>R.inj2 i j x y b (hs _ _ e1) (hs _ _ e2) e3 e4,λ_=>Iff.rfl⟩
end
def Fz (h h2:Hp):Nat->SV->SV->Prop
 | 0,v,r=>v=r
 | k + 1, v, r => v = r ∨
  match v,r with
  | _,.junk=>True
  | .sl o off z len full,.imm z' es full'=>h2 o=none/\(full'=true->full=true)/\es.length=len/\z'=z/\∃cs xs,h o=some (.cells cs)/\Bg cs off (len*z)=some xs/\
   (∀e∈es,e.storable=true/\e.cells.length=z)/\AZ (Fz h h2 k) xs (es.flatMap SV.cells)
  | .ptr o off,.iptr ds=>h2 o=none/\∃cs,h o=some (.cells cs)/\off<=cs.length/\AZ (Fz h h2 k) (cs.drop off) ds
  | .agg cs,.agg ds=>AZ (Fz h h2 k) cs ds
  | .tup cs,.tup ds=>AZ (Fz h h2 k) cs ds
  | .fn f a b,.fn f' a' b'=>f=f'/\AZ (Fz h h2 k) a a'/\AZ (Fz h h2 k) b b'
  | .iptr cs,.iptr ds=>AZ (Fz h h2 k) cs ds
  | .imm z es full,.imm z' es' full'=>(full'=true->full=true)/\(es=[]\/z'=z)/\AZ (Fz h h2 k) es es'/\∀e∈es',e.storable=true
  | .slc o off z len cap,.sl o' off' z' len' full'=>o'=o/\off'=off/\z'=z/\len'=len/\(full'=true->cap=len)
  | _,_=>False
theorem Fz.same {h h2:Hp}:∀{k:Nat} {v:SV},Fz h h2 k v v
 | 0,_=>Eq.refl _
 | _+1,_=>.inl (Eq.refl _)
theorem AZ.trans3 {α β γ:Type} {R:α->β->Prop} {S:α->γ->Prop} {T:γ->β->Prop} (hrs:∀a b g,R a b->S a g->T g b):∀{aS:List α} {bs:List β} {gs:List γ},AZ R aS bs->AZ S aS gs->AZ T gs bs
 | [],[],[],_,_=>trivial
 | _::_,_::_,_::_,h,g=>⟨hrs _ _ _ h.1 g.1,AZ.trans3 hrs h.2 g.2⟩
 | [],_::_,_,h,_=>h.elim
 | _::_,[],_,h,_=>h.elim
 | [],[],_::_,_,g=>g.elim
 | _::_,_::_,[],_,g=>g.elim
theorem S6 {c:Cx} {z:Nat}:∀{es:List SV} {vs:List Value},(∀e∈es,e.storable=true/\e.cells.length=z)->AZ (V c) (es.flatMap SV.cells) vs->(∀x∈vs,x.oneCell'=true)->VE c z es vs
 | [],vs,_,h,_=>by rw[VE];exact h.nil_left
 | e :: es, vs, he, h, h1 => by
  rw[VE];simp only[qK]at h;have hl:=h.length;obtain⟨hst,hz⟩:=he e (by simp);have hA:AZ (V c) e.cells (vs.take z):=by have:=h.take z;rwa [List.take_left' hz]at this
  have hB:AZ (V c) (es.flatMap SV.cells) (vs.drop z):=by have:=h.drop z;rwa [List.drop_left' hz]at this
  have h1A:∀x∈vs.take z,x.oneCell'=true:=λx hx=>h1 x (qH hx);have hzl:(vs.take z).length=z:=by rw[<-hA.length];exact hz
  obtain⟨u,hu1,hu2,hu3⟩:∃u:Value,u.cells.toList=vs.take z/\u.cells.size=z/\V c e u:=by
   by_cases hag:∃cs,e=.agg cs;obtain⟨cs,rfl⟩:=hag;exact⟨.agg (vs.take z).toArray,by simp[Value.cells],by simp only[Value.cells,List.size_toArray];exact hzl,by rw[V];exact⟨_,rfl,BN.2 hA,h1A⟩⟩;have hc:e.cells=[e]:=by cases e<;>simp[SV.cells]at hag ⊢
   rw[hc]at hA;obtain⟨u,hu,hv⟩:=hA.single;have ho:=h1A u (by rw[hu];simp);have hcu:u.cells = #[u]:=by cases u<;>simp[Value.oneCell']at ho<;>rfl
   rw[hc]at hz;exact⟨u,by rw[hcu,hu],by rw[hcu];simpa using hz,hv⟩
  exact⟨u,vs.drop z,by rw[hu1,ja],hu2,hst,hu3,S6 (λx hx=>he x (by simp[hx])) hB λx hx=>h1 x (qT hx)⟩
theorem Fz.sound {c:Cx} {h h2:Hp} (R:Bn h c) (hs:∀o x,h2 o=some x->h o=some x):∀(k:Nat) {v r:SV} {u:Value},Fz h h2 k v r->V c v u->V (c.less h2) r u
 | 0,v,r,u,hf,hv=>by cases hf;exact hv.mono (DU R hs)
 | k + 1, v, r, u, hf, hv => by
  have ih:∀{v r:SV} {u:Value},Fz h h2 k v r->V c v u->V (c.less h2) r u:=λhf hv=>Fz.sound R hs k hf hv;have ihL:∀{aS bs:List SV} {us:List Value},AZ (Fz h h2 k) aS bs->AZ (V c) aS us->AZ (V (c.less h2)) bs us:=λhf hv=>AZ.trans3 (R:=V c) (S:=Fz h h2 k) (T:=V (c.less h2)) (λa b g h1 h2=>ih h2 h1) hv hf;have notown:∀o b st x,h2 o=none->h o=some x->c.ρ o=some (b,st)->¬(c.less h2).own b:=λo b st x hn ho hρ=>by
   rintro⟨o',x',e1,e3⟩;have:=R.inj2 o o' x x' b ho (hs _ _ e1) (.inl ⟨st,hρ⟩) e3;subst this;rw[hn]at e1;cases e1
  rcases hf with rfl|hf;exact hv.mono (DU R hs);split at hf;simp[V];rename_i o off z len full z' es full';obtain⟨hn,hfl,hlen,rfl,cs,xs,ho,htk,hes,hall⟩:=hf;rw[V]at hv;obtain⟨b,st,cap,hρ,rfl,hcap,hfull,_⟩:=hv;obtain⟨b',st',vs,hρ',hc,h1,hcell⟩:=(R.obj _ _ ho).cell;rw[hρ]at hρ';cases hρ';obtain⟨hle,rfl⟩:=Ef htk;have h1':∀x∈(vs.drop off).take (len*z'),x.oneCell'=true:=λx hx=>h1 x (qT (qH hx));have hfr:=ihL hall ((hc.drop off).take (len*z'));rw[V];refine .inr ⟨⟨b,st+off,none⟩,cap,(vs.drop off).take (len*z'),by rw[hlen],by rw[hlen];exact hcap,λhf=>by rw[hlen];exact hfull (hfl hf),⟨λ_=>rfl,λ_=>notown o b st _ hn ho hρ,λi x hx=>?_,h1'⟩,S6 hes hfr h1'⟩;rw[jf]at hx;split at hx;rw[qY]at hx;simp only[qD];exact hcell _ _ hx;cases hx;rename_i o off ds;obtain⟨hn,cs,ho,hle,hall⟩:=hf;rw[V]at hv;obtain⟨b,st,hρ,rfl⟩:=hv;obtain⟨b',st',vs,hρ',hc,h1,hcell⟩:=(R.obj _ _ ho).cell;rw[hρ]at hρ';cases hρ';rw[V];refine⟨⟨b,st+off,none⟩,vs.drop off,rfl,⟨λ_=>rfl,λ_=>notown o b st _ hn ho hρ,λi x hx=>?_,λx hx=>h1 x (qT hx)⟩,BN.2 (ihL hall (hc.drop off)),rfl⟩;rw[qY]at hx;simp only[qD];exact hcell _ _ hx;rw[V]at hv ⊢;obtain⟨vs,e,hl,h1⟩:=hv;exact⟨vs,e,BN.2 (ihL hf (BN.1 hl)),h1⟩;rw[V]at hv ⊢;obtain⟨vs,e,hl⟩:=hv;exact⟨vs,e,BN.2 (ihL hf (BN.1 hl))⟩;obtain⟨rfl,h1,h2⟩:=hf;rw[V]at hv ⊢;obtain⟨xs,ys,e,hl,hl2⟩:=hv;exact⟨xs,ys,e,BN.2 (ihL h1 (BN.1 hl)),BN.2 (ihL h2 (BN.1 hl2))⟩;rw[V]at hv ⊢;obtain⟨a,vs,e,hst,hl,hsp⟩:=hv;exact⟨a,vs,e,hst.mono (DU R hs),BN.2 (ihL hf (BN.1 hl)),hsp⟩;rename_i z es full z' es' full';obtain⟨hfl,hz,hall,hst'⟩:=hf;rw[V]at hv ⊢;have hlen:=hall.length;rcases hv with⟨rfl,e⟩|⟨a,cap,vs,e,h1,h2,h3,h4⟩
  exact .inl ⟨by simpa using hlen.symm,e⟩;obtain⟨us,g1,g2,g3,g4⟩:=Ho.1 h4;refine .inr ⟨a,cap,vs,by rw[e,hlen],by omega,λhf=>by rw[h2 (hfl hf),hlen],h3.mono (DU R hs),Ho.2 ⟨us,ihL hall g1,?_,hst',g4⟩⟩;rcases hz with rfl|rfl;intro u hu;rw[g1.nil_left]at hu;cases hu;exact g2;obtain⟨rfl,rfl,rfl,rfl,hfl⟩:=hf;have hv2:=hv.mono (DU R hs);simp only[V]at hv2 ⊢;obtain⟨b,st,h1,h2,h3,h4⟩:=hv2;exact⟨b,st,_,h1,h2,h3,hfl,h4⟩;exact hf.elim
def MS (P:Program) (sa:SA) (h:Hp):List ResultVar->Option (List SV)
 | []=>some []
 | .tmp t::r=>(MS P sa h r).map (Ai sa t :: ·)
 | .cell a t::r=>match Jd P h t (Ai sa a),MS P sa h r with|some v,some vs=>some (v::vs)|_,_=>none
def Jh:List SV->SV
 | [v]=>v
 | vs=>.tup vs
def Ec:Nat->List SV->SA
 | _,[]=>[]
 | i,a::aS=>(i,a)::Ec (i+1) aS
def B8 (n:Nat) (h':Hp) (n':Nat) (v:SV) (K:SV->Hp->Nat->Prop):Prop:=
 K v h' n'\/∃k r h2,Fz h' h2 k v r/\closed n r=true/\(∀o x,h2 o=some x->h' o=some x/\o<n/\BQ n x=true)/\K r h2 n
def MT (P:Program) (fn:Func) (n:Nat) (K:SV->Hp->Nat->Prop):Ce:=λe sa' h' n'=>
 (e=.normal\/e=.ret)/\∃rs,MS P sa' h' fn.results.toList=some rs/\B8 n h' n' (Jh rs) K
section
variable {P : Program}
theorem NA:∀(args:List SV) (i t:Nat),Ai (Ec i args) t=if i<=t then(args[t-i]?).getD .junk else .junk
 | [],i,t=>by simp[Ec,Ai]
 | a::aS,i,t=>by
  simp only[Ec,Ai];by_cases h:i=t;subst h;simp;rw[if_neg h,NA aS (i+1) t];by_cases h2:i<=t;rw[if_pos h2,if_pos (by omega),show t-i=(t-(i+1))+1 by omega];simp;rw[if_neg h2,if_neg (by omega)]
theorem Qm {E:B6} {N:Nat} {c:Cx} {args:List SV} {vs:List Value} (hE:E.base<=c.w.heap.size) (h:AZ (V c) args vs) (hl:args.length<=N):
 FR E N (Ec 0 args) c { tmps:=vs.toArray++Array.replicate (N-vs.toArray.size) undef,defers:=[] }:=by
 have hlen:=h.length;refine⟨by simp;omega,⟨hE,λ_=>rfl,by simp,by simp⟩,λt=>?_⟩;rw[NA,if_pos (qg _),kF];cases ha:args[t]? with
 | none=>simp[V]
 | some s=>
  obtain⟨u,hu,hv⟩:=h.get ha;have hlt:=(qo.1 hu).1;simp only[Option.getD_some,qZ];rw[jp (by simpa using hlt)];simpa[hu]using hv
def N4 (tmps:Array Value):ResultVar->Sem Value
 | .tmp t=>pure (tmps.getD t undef)
 | .cell x t=>do loadVar t (<-asAddr (tmps.getD x undef))
theorem IC {E:B6} {N:Nat} {sa:SA} {c:Cx} {h:Hp} {a:Act} (R:Bn h c) (A:FR E N sa c a):∀(l:List ResultVar) (rs:List SV),MS P sa h l=some rs->
 ∃us,(l.mapM (N4 a.tmps)).run P c.w=.ok us c.w/\AZ (V c) rs us
 | [],rs,hr=>by
  simp only[MS,qh]at hr;subst hr;exact⟨[],by simp,trivial⟩
 | .tmp t::l,rs,hr=>by
  simp only[MS,qX]at hr;obtain⟨rs',h1,rfl⟩:=hr;obtain⟨us,g1,g2⟩:=IC R A l rs' h1;exact⟨a.tmps.getD t undef::us,by simp only[List.mapM_cons,N4,Sem.run_bind,Sem.run_pure,Result.andThen_ok,g1],A.val t,g2⟩
 | .cell x t::l,rs,hr0=>by
  simp only[MS]at hr0;split at hr0<;>try cases hr0
  rename_i v vs h1 h2;obtain⟨us,g1,g2⟩:=IC R A l vs h2;obtain⟨ad,r,hu,hr,hv⟩:=M9 R h1 (A.val x);exact⟨r::us,by simp only[List.mapM_cons,N4,Sem.run_bind,Sem.run_pure,Result.andThen_ok,hu,asAddr,hr,g1],hv,g2⟩
theorem Ts {c:Cx} {rs:List SV} {us:List Value} (h:AZ (V c) rs us):V c (Jh rs) (if hs:us.toArray.size=1 then us.toArray[0]else .tuple us.toArray):=by
 match rs,us,h with
 | [],[],_=>simp[Jh,V,VL]
 | [r],[u],h=>simpa[Jh]using h.1
 | r::r2::rs,u::u2::us,h=>
  rw[dif_neg (by simp)];simp only[Jh];rw[V];exact⟨_,rfl,BN.2 h⟩
 | [_],[],h=>exact h.elim
 | [],_::_,h=>exact h.elim
 | [_],_::_::_,h=>exact h.2.elim
 | _::_::_,[],h=>exact h.elim
 | _::_::_,[_],h=>exact h.2.elim
def B6.call (E:B6) (m:Bool) (B:Nat):B6:={ ro:=none,mks:=m,base:=B,inv:=E.inv,ext:=E.ext }
theorem PV {E':B6} {fn:Func} {c c':Cx} {a':Act} {h':Hp} {n n':Nat} {sa':SA} {K:SV->Hp->Nat->Prop} {rs:List SV} (F:Fr n c)
 (hrs:MS P sa' h' fn.results.toList=some rs) (hret:B8 n h' n' (Jh rs) K) (R':Bn h' c') (F':Fr n' c') (A':FR E' fn.ntmps sa' c' a') (X:Fq n c n' c'):
 ∃u v h2 n2 c2,(results fn a'.tmps).run P c'.w=.ok u c'.w/\K v h2 n2/\c2.w=c'.w/\V c2 v u/\Bn h2 c2/\Fr n2 c2/\Fq n c n2 c2:=by
 obtain⟨us,g1,g2⟩:=IC (P:=P) R' A' _ rs hrs;have hrun:(results fn a'.tmps).run P c'.w=.ok (if hs:us.toArray.size=1 then us.toArray[0]else .tuple us.toArray) c'.w:=by
  have e:results fn a'.tmps=(do let vs <-fn.results.mapM (N4 a'.tmps);pure (if hs:vs.size=1 then vs[0]else .tuple vs)):=by
   unfold results;congr 2
  rw[e,Array.mapM_eq_mapM_toList];simp only[Sem.run_bind,Sem.run_map,g1,Result.andThen_ok,Sem.run_pure]
 have hv:=Ts g2;rcases hret with hk|⟨k,r,h2,hfz,hcr,hs,hk⟩
 exact⟨_,_,h',n',c',hrun,hk,rfl,hv,R',F',X⟩;have hs':∀o x,h2 o=some x->h' o=some x:=λo x e=>(hs o x e).1;have RL:=R'.less hs';have hv2:V ((c'.less h2).cut h2 n) r _:=(hfz.sound R' hs' k hv).cut RL (λ_ _ e=>e) hcr;refine⟨_,r,h2,n,(c'.less h2).cut h2 n,hrun,hk,rfl,hv2,RL.cut (λo x e=>⟨e,(hs o x e).2⟩),S9,⟨Qz RL (λ_ _ e=>e) F (qa _) (X.ext.trans (DU R' hs')),qa _,λj hj=>?_⟩⟩;simp only[Cx.cut,hj,if_true];exact X.same j hj
theorem KS {c:Cx} {n:Nat} {args:List SV} {vs:List Value} (F:Fr n c) (A:AZ (V c) args vs):∀a∈args,closed n a=true:=λa ha=>by
 obtain⟨i,hi⟩:=List.getElem?_of_mem ha;obtain⟨u,_,hv⟩:=A.get hi;exact DC F hv
theorem Ma {E:B6} {f:FuncId} {fn:Func} {code:Code} {args:List SV} {h:Hp} {n:Nat} {K:SV->Hp->Nat->Prop} (hf:P.funcs[f]? = some fn) (hb:fn.body=some code)
 (hn:(fn.name != "runtime.NumGoroutine")=true) (hd:Code.dok fn.ntmps code=true) (hl:args.length<=fn.ntmps)
 (H:(∀a∈args,closed n a=true)->(∀o x,h o=some x->o<n/\BQ n x=true)->Fs (E.call false 0) P fn.ntmps code (MT P fn n K) (Ec 0 args) h n):Ak E P f args h n K:=by
 refine⟨by simp[Kk,hf,hb];simpa using hn,λc vs I R F A=>?_⟩;refine calls_of_wp hf hb (wp_mono (wpIn_wide.1 (H (KS F A) (λo x e=>HP F (R.obj o x e)) hd c _ I R F (Qm (qg _) A hl))) ?_);rintro e a' w' ⟨sa',h',n',c',⟨he,rs,hrs,hret⟩,rfl,R',F',A',X⟩;obtain⟨u,v,h2,n2,c2,hrun,hk,hw,hv2,R2,F2,E2⟩:=PV F hrs hret R' F' A' X;have hpost:a'.defers=[]/\∃u,(results fn a'.tmps).run P c'.w=.ok u c'.w/\∃u' v h' n' c'',Ending.returned u=.returned u'/\K v h' n'/\c''.w=c'.w/\V c'' v u'/\Bn h' c''/\Fr n' c''/\Fq n c n' c'':=
  ⟨A'.defers.none rfl,_,hrun,_,v,h2,n2,c2,rfl,hk,hw,hv2,R2,F2,E2⟩
 rcases he with rfl|rfl<;>exact hpost
def Cx.shut (c:Cx) (D:Nat):Cx:={ c with w:=c.w.putObj D (.deferred none) }
theorem HG {c:Cx} {D b:Nat} (h:b≠D):(c.shut D).w.heap[b]? = c.w.heap[b]?:=World.putObj_heap_other h
theorem KM {c:Cx} {D:Nat} (hD:c.w.heap[D]? = some (.deferred (some []))):ON c (c.shut D):=by
 refine⟨λ_ _ e=>e,λb ho ⟨x,hb,hx⟩=>⟨ho,?_⟩,λb=>?_⟩;have:b≠D:=by rintro rfl;rw[hD]at hb;cases hb;exact hx _ rfl
 exact HG this;by_cases e:b=D;subst e;simp[rm,hD];simp[rm,HG e]
theorem T7 {h:Hp} {c:Cx} {D:Nat} (hD:c.w.heap[D]? = some (.deferred (some []))) (R:Bn h c):Bn h (c.shut D):=by
 refine⟨λo x e=>?_,R.inj2,R.own2⟩;refine(R.obj o x e).mono0 (KM hD) λb hb'=>HG ?_;rintro rfl;have g:=R.obj o x e;rcases hb' with⟨st,hb⟩|⟨hl,hb⟩
 rotate_left
 cases x with
 | list z es=>
  obtain⟨b',Po,arr,el,v,h1,h2,h3,h4,⟨_,h5,_⟩|⟨B,st,arr2,e2,vs,cap,_,_,h5,h6,_⟩⟩:=g;rw[hb]at h5;cases h5;rw[hb]at h5;cases h5;rw[hD]at h6;cases h6
 | cells cs ty=>cases hl
 | map es=>cases hl
 | loop r=>cases hl
 | iter left last=>cases hl
 cases x with
 | cells cs ty=>obtain⟨b',st',arr,el,vs,h1,h2,_⟩:=g;rw[hb]at h1;cases h1;rw[hD]at h2;cases h2
 | map es=>obtain⟨b',ents,clock,h1,h2,_⟩:=g;rw[hb]at h1;cases h1;rw[hD]at h2;cases h2
 | loop r=>obtain⟨b',h1,h2⟩:=g;rw[hb]at h1;cases h1;rw[hD]at h2;cases h2
 | iter left last=>obtain⟨b',bm,ents,clock,seen,h1,h2,_⟩:=g;rw[hb]at h1;cases h1;rw[hD]at h2;cases h2
 | list z es=>obtain⟨b',Po,arr,el,v,h1,h2,_⟩:=g;rw[hb]at h1;cases h1;rw[hD]at h2;cases h2
theorem Qa {c0 c:Cx} {D:Nat} (X:DZ c0 c) (h:c0.w.heap.size<=D) (hD:c.w.heap[D]? = some (.deferred (some []))):DZ c0 (c.shut D):=by
 refine⟨X.ρ,by simpa[Cx.shut]using X.size,λb hb ho=>⟨(X.keep b hb ho).1,?_⟩,λb=>qr (X.room b) ((KM hD).room b),X.os,X.out,X.td⟩;rw[HG (by omega)];exact(X.keep b hb ho).2
theorem Jc {fn:Func} {E':B6} {c:Cx} {tmps:Array Value} {R:Ending->World->Prop} (hB:c.w.heap.size<=E'.base) {n n':Nat} {h':Hp} {sa':SA} {K:SV->Hp->Nat->Prop} {rs:List SV} (F:Fr n c)
 (hrs:MS P sa' h' fn.results.toList=some rs) (hret:B8 n h' n' (Jh rs) K)
 (hR:∀u v h2 n2 c2,K v h2 n2->V c2 v u->Bn h2 c2->Fr n2 c2->Fq n c n2 c2->R (.returned u) c2.w):
 ∀(ds:List Deferred) (c':Cx),(∀d∈ds,∃D,E'.base<=D/\d=Ti D/\c'.w.heap[D]? = some (.deferred (some []))/\¬c'.own D)->ds.Nodup->Bn h' c'->Fr n' c'->tmps.size=fn.ntmps->(∀t,V c' (Ai sa' t) (tmps.getD t undef))->Fq n c n' c'->LeavesInM Fence.wide 0 P fn tmps R ds .returning c'.w
 | [],c',_,_,R',F',hs,hv,X=>by
  obtain⟨u,v,h2,n2,c2,hrun,hk,hw,hv2,R2,F2,E2⟩:=PV (E':=B6.plain) (a':={ tmps:=tmps,defers:=[] }) F hrs hret R' F' ⟨hs,⟨qg _,λ_=>rfl,by simp,by simp⟩,hv⟩ X;exact⟨u,hrun,hw▸hR u v h2 n2 c2 hk hv2 R2 F2 E2⟩
 | d::ds,c',hm,hnd,R',F',hs,hv,X=>by
  obtain⟨D,h1,hdm,h3,h4⟩:=hm d (by simp);subst hdm;refine⟨by simp,.inl ⟨D,(c'.shut D).w,rfl,run_takeDeferred h3,?_⟩⟩;refine Jc hB F hrs hret hR ds (c'.shut D) (λd hd=>?_) (jA.1 hnd).2 (T7 h3 R') F' hs (λt=>kV (KM h3) (hv t)) ⟨Qa X.ext (by omega) h3,X.le,X.same⟩;obtain⟨D',g1,g2,g3,g4⟩:=hm d (by simp[hd]);have:D'≠D:=by rintro rfl;exact(jA.1 hnd).1 (g2▸hd)
  exact⟨D',g1,g2,by rw[HG this];exact g3,g4⟩
theorem K7 {E:B6} {f:FuncId} {fn:Func} {code:Code} {args:List SV} {h:Hp} {n:Nat} {K:SV->Hp->Nat->Prop} (hf:P.funcs[f]? = some fn) (hb:fn.body=some code)
 (hn:(fn.name != "runtime.NumGoroutine")=true) (hd:Code.dok fn.ntmps code=true) (hl:args.length<=fn.ntmps)
 (H:(∀a∈args,closed n a=true)->(∀o x,h o=some x->o<n/\BQ n x=true)->∀B,Fs (E.call true B) P fn.ntmps code (MT P fn n K) (Ec 0 args) h n):Ak E P f args h n K:=by
 refine⟨by simp[Kk,hf,hb];simpa using hn,λc vs I R F A=>?_⟩;refine(callsIn_wide (n:=0)).1 (callsIn_of_wp_marks hf hb trivial (wpIn_mono (H (KS F A) (λo x e=>HP F (R.obj o x e)) c.w.heap.size hd c _ I R F (Qm (qa _) A hl)) ?_));rintro e a' w' ⟨sa',h',n',c',⟨he,rs,hrs,hret⟩,rfl,R',F',A',X⟩;have:=Jc (P:=P) (E':=E.call true c.w.heap.size) (R:=λe w'=>∃u v h' n' c',e=.returned u/\K v h' n'/\c'.w=w'/\V c' v u/\Bn h' c'/\Fr n' c'/\Fq n c n' c') (qa _) F hrs hret
  (λu v h2 n2 c2 hk hv2 R2 F2 E2=>⟨u,v,h2,n2,c2,rfl,hk,rfl,hv2,R2,F2,E2⟩) a'.defers c' A'.defers.ok A'.defers.nodup R' F' A'.size A'.val X
 rcases he with rfl|rfl<;>exact this
end
section plain
variable {α : Type}
def Sg (f:Nat->α) (p:Nat×α):Nat->α:=λk=>if k=p.1 then p.2 else f k
def CN (f:Nat->α) (w:List (Nat×α)):Nat->α:=w.foldl Sg f
def Aq (w:List (Nat×α)):List Nat:=w.map (·.1)
theorem GK {w:List (Nat×α)} {k:Nat}:∀{f:Nat->α},k∉Aq w->CN f w k=f k:=by
 induction w with
 | nil=>intro f _;rfl
 | cons p w ih=>
  intro f hk;simp only[Aq,qu,qk,not_or]at hk;show CN (Sg f p) w k=f k;rw[ih (by simpa[Aq]using hk.2)];simp[Sg,hk.1]
theorem LB {w:List (Nat×α)} {k:Nat}:∀{f g:Nat->α},f k=g k->CN f w k=CN g w k:=by
 induction w with
 | nil=>intro f g h;exact h
 | cons p w ih=>
  intro f g h;exact ih (f:=Sg f p) (g:=Sg g p) (by simp only[Sg];rw[h])
theorem UX {w:List (Nat×α)} {k:Nat}:∀{f g:Nat->α},k∈Aq w->CN f w k=CN g w k:=by
 induction w with
 | nil=>intro f g h;simp[Aq]at h
 | cons p w ih=>
  intro f g h;by_cases hk:k∈Aq w;exact ih (f:=Sg f p) (g:=Sg g p) hk;have:k=p.1:=by simp only[Aq,qu,qk]at h;rcases h with h|h;exact h;exact absurd (by simpa[Aq]using h) hk
  show CN (Sg f p) w k=CN (Sg g p) w k;rw[GK hk,GK hk];simp[Sg,this]
theorem Re {w v:List (Nat×α)} (hd:∀k,k∈Aq w->k∉Aq v) (f:Nat->α) (k:Nat):CN (CN f w) v k=CN (CN f v) w k:=by
 by_cases h1:k∈Aq w;rw[GK (hd k h1)];exact UX h1;rw[GK h1 (f:=CN f v)];exact LB (GK h1)
def EV:List (List (Nat×α))->(Nat->Bool)->Nat->(Nat->α)->(Nat->α)
 | [],_,_,f=>f
 | w::l,D,i,f=>EV l D (i+1) (if D i then CN f w else f)
theorem KI {D:Nat->Bool} {k:Nat}:∀{l:List (List (Nat×α))} {i:Nat} {f g:Nat->α},f k=g k->EV l D i f k=EV l D i g k
 | [],_,_,_,h=>h
 | w::l,i,f,g,h=>by
  simp only[EV];refine KI ?_;split;exact LB h;exact h
theorem RT {D:Nat->Bool} {k:Nat}:∀{l:List (List (Nat×α))} {i:Nat} {f:Nat->α},(∀q w,l[q]? = some w->D (i+q)=true->k∉Aq w)->EV l D i f k=f k
 | [],_,_,_=>rfl
 | w::l,i,f,h=>by
  simp only[EV];rw[RT λq v hq hD=>h (q+1) v (by simpa using hq) (by rw[show i+(q+1)=i+1+q by omega];exact hD)];split;rename_i hD;exact GK (h 0 w rfl hD);rfl
theorem RS {D:Nat->Bool} {v:List (Nat×α)}:∀{l:List (List (Nat×α))} {i:Nat} {f:Nat->α},(∀q w,l[q]? = some w->D (i+q)=true->∀k,k∈Aq v->k∉Aq w)->
 ∀k,EV l D i (CN f v) k=CN (EV l D i f) v k
 | [],_,_,_,_=>rfl
 | w::l,i,f,h,k=>by
  simp only[EV];have ih:=λg=>RS (D:=D) (v:=v) (l:=l) (i:=i+1) (f:=g) λq w hq hD=>h (q+1) w (by simpa using hq) (by rw[show i+(q+1)=i+1+q by omega];exact hD);by_cases hD:D i=true;rw[if_pos hD,if_pos hD,<-ih];exact KI (Re (h 0 w rfl hD) f k);rw[if_neg hD,if_neg hD,ih]
theorem JC {D:Nat->Bool} {p:Nat} {v:List (Nat×α)} (hp:D p=false):∀{l:List (List (Nat×α))} {i:Nat} {f:Nat->α},i<=p->l[p-i]? = some v->
 (∀q w,p<q->i<=q->l[q-i]? = some w->D q=true->∀k,k∈Aq v->k∉Aq w)->∀k,EV l (λq=>D q||q==p) i f k=CN (EV l D i f) v k
 | [],_,_,_,h,_,_=>by simp at h
 | w::l,i,f,hi,hv,h,k=>by
  simp only[EV];by_cases e:i=p;subst e;simp only[Nat.sub_self,jG,qh]at hv;subst hv;have e1:∀g:Nat->α,∀k,EV l (λq=>D q||q==i) (i+1) g k=EV l D (i+1) g k:=by
   intro g;have gen:∀(l:List (List (Nat×α))) (j:Nat) (g:Nat->α),i<j->∀k,EV l (λq=>D q||q==i) j g k=EV l D j g k:=by
    intro l
    induction l with
    | nil=>intros;rfl
    | cons u l ih=>
     intro j g hj k;simp only[EV];have:(j==i)=false:=by simp;omega
     simp only[this,Bool.or_false];exact ih (j+1) _ (by omega) k
   exact gen l (i+1) g (by omega)
  simp only[beq_self_eq_true,Bool.or_true,if_true,hp,qj,if_false];rw[e1];exact RS (λq u hq hD k hk=>h (i+1+q) u (by omega) (by omega) (by rw[show i+1+q-i=q+1 by omega];simpa using hq) hD k hk) k;have hne:(i==p)=false:=by simp;exact e
  simp only[hne,Bool.or_false];refine JC hp (by omega) ?_ ?_ k;rw[show p-i=(p-(i+1))+1 by omega]at hv;simpa using hv;intro q u h1 h2 h3 h4;exact h q u h1 (by omega) (by rw[show q-i=(q-(i+1))+1 by omega];simpa using h3) h4
theorem HE {D E:Nat->Bool} {k:Nat}:∀{l:List (List (Nat×α))} {i:Nat} {f:Nat->α},(∀q w,i<=q->l[q-i]? = some w->D q≠E q->k∉Aq w)->EV l D i f k=EV l E i f k
 | [],_,_,_=>rfl
 | w::l,i,f,h=>by
  simp only[EV];have ih:=λg=>HE (D:=D) (E:=E) (k:=k) (l:=l) (i:=i+1) (f:=g) λq u hq hu hne=>h q u (by omega) (by rw[show q-i=(q-(i+1))+1 by omega];simpa using hu) hne;by_cases e:D i=E i;rw[e];exact ih _;have hw:=h i w (qa _) (by simp) e;rw[ih];refine KI ?_;have a1:∀b:Bool,(if b=true then CN f w else f) k=f k:=λb=>by cases b;rfl;exact GK hw
  rw[a1,a1]
end plain
theorem SO {P:Program} {ev ev':Operand->SV} {h h':Hp} {k:Nat} {op:Op} (hev:∀x∈op.operands,ev x=ev' x) (hh:∀j∈Ek ev op,h j=h' j):C2 P ev h k op=C2 P ev' h' k op:=by
 have hflat:∀s:SV,(∀j∈s.ids,h j=h' j)->flat h s=flat h' s:=λs hs=>by
  cases s<;>simp only[flat];rw[hs _ (by simp[SV.ids])]
 have hload:∀(t:TypeId) (s:SV),(∀j∈s.ids,h j=h' j)->Jd P h t s=Jd P h' t s:=λt s hs=>by
  cases s<;>simp only[Jd];rw[hs _ (by simp[SV.ids])]
 have hmap:∀s:SV,(∀j∈s.ids,h j=h' j)->KX h s=KX h' s:=λs hs=>by
  cases s<;>simp only[KX];rw[hs _ (by simp[SV.ids])]
 cases op with
 | move x|assign x=>simp only[C2];rw[hev x (by simp[Op.operands])]
 | pick a b d=>simp only[C2];rw[hev a (by simp[Op.operands]),hev b (by simp[Op.operands]),hev d (by simp[Op.operands])]
 | alloc e=>rfl
 | box e x=>simp only[C2];rw[hev x (by simp[Op.operands])]
 | build t ps=>
  have:(ps.toList.map λp=>(p.1,ev p.2))=ps.toList.map λp=>(p.1,ev' p.2):=jT λp hp=>by rw[hev p.2 (NG hp)]
  simp only[C2,this]
 | buildSlice t l ps=>
  have:(ps.toList.map λp=>(p.1,ev p.2))=ps.toList.map λp=>(p.1,ev' p.2):=jT λp hp=>by rw[hev p.2 (H7 hp)]
  simp only[C2,this]
 | load t a=>
  simp only[C2];rw[hload t _ (λj hj=>hh j (by simpa only[Ek]using hj)),hev a (by simp[Op.operands])]
 | store t a x=>
  simp only[C2];have h1:∀j∈(ev a).ids,h j=h' j:=λj hj=>hh j (by simpa only[Ek]using hj);rw[<-hev a (by simp[Op.operands]),<-hev x (by simp[Op.operands])];cases he:ev a<;>simp only[OB];rw[he]at h1;rw[h1 _ (by simp[SV.ids])]
 | nilCheck x=>simp only[C2];rw[hev x (by simp[Op.operands])]
 | binOp op t x y t2=>simp only[C2];rw[hev x (by simp[Op.operands]),hev y (by simp[Op.operands])]
 | unOp op t x=>simp only[C2];rw[hev x (by simp[Op.operands])]
 | convert a b x=>simp only[C2];rw[hev x (by simp[Op.operands])]
 | makeFunc f a b=>
  have e1:a.toList.map ev=a.toList.map ev':=jT λx hx=>hev x (by simp[Op.operands]at hx ⊢;exact .inl hx);have e2:b.toList.map ev=b.toList.map ev':=jT λx hx=>hev x (by simp[Op.operands]at hx ⊢;exact .inr hx);simp only[C2,e1,e2]
 | makeMap t r=>rfl
 | makeSlice t l c=>simp only[C2];rw[hev l (by simp[Op.operands]),hev c (by simp[Op.operands])]
 | slice t x lo hi mx=>
  have e1:lo.map ev=lo.map ev':=by cases lo with|none=>rfl|some y=>simp[hev y (by simp[Op.operands])]
  have e2:hi.map ev=hi.map ev':=by cases hi with|none=>rfl|some y=>simp[hev y (by simp[Op.operands])]
  have e3:mx.map ev=mx.map ev':=by cases mx with|none=>rfl|some y=>simp[hev y (by simp[Op.operands])]
  simp only[C2,e1,e2,e3];rw[hev x (by simp[Op.operands])]
 | fieldAddr t x i=>simp only[C2];rw[hev x (by simp[Op.operands])]
 | field t x i=>simp only[C2];rw[hev x (by simp[Op.operands])]
 | indexAddr t x i=>simp only[C2];rw[hev x (by simp[Op.operands]),hev i (by simp[Op.operands])]
 | index t x i=>simp only[C2];rw[hev x (by simp[Op.operands]),hev i (by simp[Op.operands])]
 | lookup t m y ok=>
  simp only[C2];rw[hmap _ (λj hj=>hh j (by simpa only[Ek]using hj)),hev m (by simp[Op.operands]),hev y (by simp[Op.operands])]
 | mapUpdate t m y x =>
  simp only[C2];have h1:∀j∈(ev m).ids,h j=h' j:=λj hj=>hh j (by simpa only[Ek]using hj);rw[<-hev m (by simp[Op.operands]),<-hev y (by simp[Op.operands]),<-hev x (by simp[Op.operands])];cases Ko P t with
  | none=>rfl
  | some q=>
   obtain⟨kt,ee⟩:=q;cases he:ev m<;>try rfl
   rw[he]at h1;simp only;rw[h1 _ (by simp[SV.ids])]
 | extract x i=>simp only[C2];rw[hev x (by simp[Op.operands])]
 | call cl =>
  obtain⟨callee,args,ts⟩:=cl;cases callee with
  | value f=>rfl
  | invoke r m=>rfl
  | builtin b =>
   have e1:args.toList.map ev=args.toList.map ev':=jT λx hx=>hev x (by simp[Op.operands,Call.operands];simpa using hx);simp only[C2];rw[<-e1];have hids0:∀s∈args.toList.map ev,∀j∈(match b,s with|.len,.sl ..=>[]|_,v=>v.ids),h j=h' j:=λs hs j hj=>by
    simp only[qy]at hs;obtain⟨x,hx,rfl⟩:=hs;exact hh j (by simp only[Ek,jo];exact⟨x,hx,hj⟩)
   generalize args.toList.map ev=A at hids0;by_cases hb:b=.len
   . subst hb;generalize hts:ts.toList=T
     match T,A,hids0 with
     | [t],[x],hids0=>
      simp only[AU];cases x<;>try rfl
      rename_i o;simp only;rw[hids0 (.map o) (by simp) o (by simp[SV.ids])]
     | [],_,_=>rfl
     | _::_::_,_,_=>rfl
     | [_],[],_=>rfl
     | [_],_::_::_,_=>rfl
   have hids:∀s∈A,∀j∈s.ids,h j=h' j:=λs hs j hj=>hids0 s hs j (by cases b<;>first|exact absurd rfl hb|(cases s<;>exact hj));unfold AU;split
   . rename_i t x _;have h1:=hids x (by simp);cases x<;>try rfl
     simp only;rw[h1 _ (by simp[SV.ids])]
   rfl;rename_i t t2 s x _;have h1:=hflat s (hids s (by simp));have h2:=hflat x (hids x (by simp));simp only[Cm,h2];cases s with
   | imm z es full=>cases full<;>rfl
   | sl o off z len full=>
    have h3:h o=h' o:=hids (.sl o off z len full) (by simp) o (by simp[SV.ids]);have h4:∀e,HI h e o off=HI h' e o off:=λe=>by unfold HI;rw[h3]
    simp only[h1,h4]
   | _=>rfl
   . rename_i t t2 d x _;have h1:=hids d (by simp);have h2:=hflat x (hids x (by simp));simp only[Oi,h2];cases d<;>try rfl
     simp only;rw[h1 _ (by simp[SV.ids])]
   . rename_i t d _;have h1:=hids d (by simp);simp only[LI];cases d<;>try rfl
     simp only;rw[h1 _ (by simp[SV.ids])]
   rfl;rfl;rename_i t t2 o y _;have h1:=hids (.map o) (by simp);rw[h1 _ (by simp[SV.ids])];rfl
 | _=>rfl
end Go.Proofs.YtgakninlhfkkmaaGreat.Sh
