/- A part of the proof (part 17 of 17). -/
import Derived.Test.YtgakninlhfkkmaaGreatM16
import Derived.Test.YtgakninlhfkkmaaGreatMF
namespace Go.Proofs.YtgakninlhfkkmaaGreat.Sh
open Proofs
set_option maxRecDepth 10000
def AI.flat (d:AI):List SV:=[AG d.flow]++d.«end».flat++[Ao d.revs]++d.settings.flat
theorem ZV (x:AF) (hx:x.sized):PC 58 [x.enc,x.enc] (.bool true):=by simpa using c58 x x hx hx
theorem cS (l:List Er) (hl:l.length<=1048576):PC 125 [Af l,Af l] (.bool true):=by simpa using XU l l hl hl
theorem cV (l:List Er) (hl:l.length<=1048576):PC 130 [Af l,Af l] (.bool true):=by
 intro h n;refine gq Tryz.func130 rfl λho=>?_;simp[go_sem];refine(cS l hl).use ?_;simp[go_sem];exact As ho rfl rfl
theorem q55 (x:Fb) (hx:x.levels.length<=1048576):PC 55 [x.enc,x.enc] (.bool true):=by
 intro h n;refine gq Tryz.func55 rfl λho=>?_;have hh:∀y z,∀o x,h o=some x->hset (hset h n y) (n+1) z o=some x:=λy z=>by repeat(first|exact AB|refine AQ ho (by omega) ?_)
 simp[go_sem,Fb.enc,AC,AD];refine(q56 _ hx).use ?_;simp[go_sem];exact Ay ho (hh _ _) rfl rfl
theorem cU (x:A6) (hx:x.props.length<=1048576):PC 129 [x.enc,x.enc] (.bool true):=by
 intro h n;refine gq Tryz.func129 rfl λho=>?_;have hh:∀y z,∀o x,h o=some x->hset (hset h n y) (n+1) z o=some x:=λy z=>by repeat(first|exact AB|refine AQ ho (by omega) ?_)
 simp[go_sem,A6.enc,AC,AD];refine(cV _ hx).use ?_;simp[go_sem];exact Ay ho (hh _ _) rfl rfl
theorem q60 (l:List A6) (hl:l.length<=1048576) (hp:∀x∈l,x.props.length<=1048576):PC 60 [Ae l,Ae l] (.bool true):=by
 intro h n;refine gq Tryz.func60 rfl λho=>?_;simp[go_sem];refine(cT l hl 129 λx hx=>cU x (hp x hx)).use ?_;simp[go_sem];exact As ho rfl rfl
theorem cZ (x:Cell) (hx:x.head.sized) (hf:PC 57 [AG x.flow,AG x.flow] (.bool true)):PC 259 [x.enc,x.enc] (.bool true):=by
 intro h n;refine gq Tryz.func259 rfl λho=>?_;have hh:∀y z,∀o x,h o=some x->hset (hset h n y) (n+1) z o=some x:=λy z=>by repeat(first|exact AB|refine AQ ho (by omega) ?_)
 have e:=ZV _ hx;rw[AF.enc,AF.flat]at e;simp[go_sem,jh,AC,AD];refine e.use ?_;simp[go_sem,AC,AD];refine hf.use ?_;simp[go_sem];exact Ay ho (hh _ _) rfl rfl
theorem cX (x:Aa) (hx:x.head.sized) (hl:x.cells.length<=1048576) (hf:∀c∈x.cells,PC 259 [c.enc,c.enc] (.bool true)):PC 192 [x.enc,x.enc] (.bool true):=by
 intro h n;refine gq Tryz.func192 rfl λho=>?_;have hh:∀y z,∀o x,h o=some x->hset (hset h n y) (n+1) z o=some x:=λy z=>by repeat(first|exact AB|refine AQ ho (by omega) ?_)
 have e:=ZV _ hx;rw[AF.enc,AF.flat]at e;simp[go_sem,qQ,AC,AD];refine e.use ?_;simp[go_sem,AC,AD];refine(cY _ hl 259 hf).use ?_;simp[go_sem];exact Ay ho (hh _ _) rfl rfl
theorem cR (x:AE) (hx:x.head.sized) (hf:PC 57 [AG x.flow,AG x.flow] (.bool true)) (hl:x.rows.length<=1048576) (hr:∀r∈x.rows,PC 192 [r.enc,r.enc] (.bool true)):PC 124 [x.enc,x.enc] (.bool true):=by
 intro h n;refine gq Tryz.func124 rfl λho=>?_;have hh:∀y z,∀o x,h o=some x->hset (hset h n y) (n+1) z o=some x:=λy z=>by repeat(first|exact AB|refine AQ ho (by omega) ?_)
 have e:=ZV _ hx;rw[AF.enc,AF.flat]at e;simp[go_sem,qx,AC,AD];refine e.use ?_;simp[go_sem,AC,AD];refine hf.use ?_;simp[go_sem,AC,AD];refine(cW _ hl 192 hr).use ?_;simp[go_sem];exact Ay ho (hh _ _) rfl rfl
theorem ca {hp:AF->Prop} (hh:∀x,hp x->x.sized) {K:Nat} (hK:K<=1048576):∀(N:Nat) (l:List AE),Da hp K N l->PC 57 [AG l,AG l] (.bool true)
 | 0,_,H=>H.elim
 | N + 1, l, H => by
  obtain⟨h1,h2,h3⟩:=C1.1 H;have hi:∀x∈l,PC 124 [x.enc,x.enc] (.bool true):=λx hx=>by
   obtain⟨a,b,c,d⟩:=h3 x hx;exact cR x (hh _ a) (ca hh hK N _ b) (by omega) λr hr=>cX r (hh _ (d r hr).1) (by have:=(d r hr).2.1;omega) λe he=>cZ e (hh _ ((d r hr).2.2 e he).1) (ca hh hK N _ ((d r hr).2.2 e he).2)
  intro h n;refine gq Tryz.func57 rfl λho=>?_;simp[go_sem];refine(cQ l (by omega) 124 hi).use ?_;simp[go_sem];exact As ho rfl rfl
theorem cb (l:List Fb) (hl:l.length<=1048576) (hp:∀x∈l,x.levels.length<=1048576):PC 61 [Di l,Di l,.fn (.func 55) [] []] (.bool true):=q61 l hl 55 λx hx=>q55 x (hp x hx)
def Vn:Tr:=.pure 0<|.pure 1<|.pure 2<|.pure 3<|.two 4 5 (.one 5 (.one 6 (.one 7 .nil))) (.one 4 (.one 6 (.one 7 .nil)))
theorem q17 {hp:AF->Prop} (hh:∀x,hp x->x.sized) {K:Nat} (hK:K<=1048576) (N:Nat) (d:AI) (hl:Da hp K N d.flow) (he:d.«end».sized) (hr:d.revs.length<=1048576) (hs:d.settings.sized):PC 17 [d.enc,d.enc] (.bool true):=by
 intro h n;refine Db Tryz.func17 rfl λho=>?_;have hHb:=ho.lt;obtain⟨X,hX⟩:∃X:SV,X=.iptr ([AG d.flow]++d.«end».flat++[Ao d.revs]++d.settings.flat):=⟨_,rfl⟩
 refine AY 1 [(2,X),(3,X)] h n ?_ (λm hm=>?_);rw[hX];simp[go_sem,AI.enc,AF.flat,AK.flat];exact⟨by omega,⟨AV (ho.none (by omega)) (by simp[hset]),AV (ho.none (by omega)) (by simp[hset])⟩,λj y e=>by have:=hHb j y e;simp only[hset];grind⟩;have hHm:∀j y,h j=some y->j<m:=λj y e=>by have:=hHb j y e;omega
 refine AT 1 (α:=Unit) (λ_=>[(2,X),(3,X),(5,.iptr d.settings.flat),(6,.iptr d.settings.flat)]) (λ_=>h) (λ_ m=>n<=m) (BX Vn rfl (by kernel_rfl) (by kernel_rfl) ?_) (λ_ m hm=>?_);rw[hX];simp[go_sem,Vn,AF.flat,AK.flat,AC,AD];have k0:∀q,m<=q->h q=none:=λq hq=>by cases e:h q with|none=>rfl|some y=>(have:=hHm q y e;omega)
 refine⟨⟨by omega,⟨AV (k0 _ (by omega)) (by simp[hset]),AV (k0 _ (by omega)) (by simp[hset])⟩,λj y e=>?_⟩,by omega,⟨AV (k0 _ (by omega)) (by simp[hset]),AV (k0 _ (by omega)) (by simp[hset])⟩,λj y e=>?_⟩ <;>
 . have:=hHm j y e;simp only[hset];grind
 have e:=ZV _ he;rw[AF.enc,AF.flat]at e;refine AH ?_;rw[hX];simp[go_sem,AF.flat,AK.flat];refine(ca hh hK N _ hl).use ?_;simp[go_sem];refine e.use ?_;simp[go_sem];refine(q59 _ hr).use ?_;simp[go_sem];refine(q60 _ hs.styles hs.props).use ?_;simp[go_sem];refine(cb _ hs.lists hs.levels).use ?_;simp[go_sem];refine(q62 _ hs.comments).use ?_;simp[go_sem];refine(q63 _ hs.vars).use ?_;simp[go_sem];exact As ho rfl rfl
theorem WZ {m2:List Int} {h:AF} (H:J5 m2 h) (rev:Int):(Fx rev h.moves).length<=17:=by
 refine qr (PO _ _) ?_;have a:=H.2.dlen;have b:=IY h.dels;unfold AF.moves AF.mv0;rw[qt];split<;>simp<;>omega
theorem Yh {hp:AF->Prop} {K N:Nat} {l:List AE} (h:Da hp K N l):PC 17 [zD.enc,zD.enc] (.bool true):=by
 cases N with
 | zero=>exact h.elim
 | succ N=>
  have l0:Da AF.sized 0 (N+1) zD.flow:=C1.2 ⟨by simp[zD],by simp[zD,Ap],λx hx=>by cases hx⟩;exact q17 (hp:=AF.sized) (λ_ g=>g) (K:=0) (by omega) (N+1) zD l0 ⟨by simp[zD,z0],by simp[zD,z0],by simp[zD,z0]⟩ (by simp[zD]) ⟨by simp[zD,FG],by simp[zD,FG],by simp[zD,FG],by simp[zD,FG],by simp[zD,FG],by simp[zD,FG]⟩
theorem Rv {m2:List Int} {h:AF} (H:J5 m2 h):h.moves.length<=17:=by
 have a:=H.2.dlen;have b:=IY h.dels;unfold AF.moves AF.mv0;rw[qt];split<;>simp<;>omega
theorem Nr {α β:Type} {f:α->List β} {k:Nat}:∀{l:List α},(∀x∈l,(f x).length<=k)->(l.flatMap f).length<=k*l.length
 | [],_=>by simp
 | x::l,h=>by
  have h1:=Nr (l:=l) λy hy=>h y (qL _ hy);have h2:=h x (jP ..);rw[qK,qt,qF,Nat.mul_add];omega
theorem Ny {revs:List Int} {A:Nat->List Int} {k:Nat} (h:∀i,(A i).length<=k):∀i,(Ln revs A i).length<=k*i
 | 0=>by simp[Ln]
 | i+1=>by
  have h1:=Ny (revs:=revs) h i;have h2:=Lp (A i) 0;have h3:=qU (λx=>decide (0<x)) (A i);have h4:=h i;rw[Ln,qt,qd,Nat.mul_add];omega
theorem Uf {_N:Nat} {d:AI} {m2:List Int} (hm2:m2=Bd [] (d.revs.map (·.id))) (ht:Px d.revs) {l:List Int} {to:Ax} (hz:XK d l to):(0:Int)∉l/\∀h,C6 m2 h->Sk l to.id h:=by
 have nz:(0:Int)∉l:=λg=>by
  obtain⟨r,hr,e⟩:=NM (hz.find 0 g);exact Wt ht hr e
 refine⟨nz,λh H=>⟨WM H.inc,nz,λx hx g e=>?_⟩⟩;exact g (e▸hz.to (Lx ((WU hm2).1 (e▸H.dels x hx))))
theorem N0 {a b:AI} (h1:Ac a.flow=Ac b.flow) (h2:a.«end» = b.«end») (h3:a.revs=b.revs) (h4:a.settings=b.settings):a.normal=b.normal:=by
 unfold AI.normal IS AI.norm1;rw[h1,h2,h3,h4]
set_option maxHeartbeats 1000000 in
theorem S7 {B N:Nat} (_hB:B<=1048576) {d:AI} (hl:Da AF.sized B N d.flow) (he:d.«end».sized) (hs:d.settings.sized) (hd:Hk N d) (hf:MP N d.flow) (ht:MK N d.flow<=150) (l:List Int) (hln:l.length<=40) (to:Ax):
 ∃(R:AI) (e:Int),PC 27 [d.enc,.imm 1 (l.map AA) false,to.enc] (.tup [R.enc,AA e])/\PC 28 [d.enc,.imm 1 (l.map AA) false,to.enc] (.tup [R.enc,AA e])/\PC 17 [R.enc,R.enc] (.bool true):=by
 obtain⟨m2,hm2⟩:∃m2,m2=Bd [] (d.revs.map (·.id)):=⟨_,rfl⟩
 have hrl:=Ka hd.revs;have hm:m2.length<=998:=by
  have:=OV (d.revs.map (·.id)) [];rw[hm2];simp at this;omega
 have h1:Da (J5 m2) 150000 N d.flow:=Np hl hf (hm2▸hd.flow);have h2:J5 m2 d.«end»:=⟨he,hm2▸hd.end.toRB⟩
 have htb:=Ry hd;have hrs:d.revs.length<=1048576:=by omega
 have W:=Tq hm2 hd h1;have hw:=UJ W;obtain⟨hv,hn⟩:=TU (λi h=>h) W ⟨h2,hm2▸hd.end⟩;obtain⟨Hs,hHs⟩:∃Hs,Hs=Hx N d:=⟨_,rfl⟩
 have hlook:=QS (l:=l) h1 hd;rw[<-hHs]at hv hn hlook;obtain⟨M,hMe⟩:∃M,M=Hs.flatMap AF.moves:=⟨_,rfl⟩
 have hMl:M.length<=17*301:=by
  rw[hMe];refine qr (Nr λh hh=>Rv (hv h hh).1) ?_;exact Nat.mul_le_mul_left _ (by omega)
 obtain⟨bad,hbad⟩:∃bad,bad=Hs.any (JN l):=⟨_,rfl⟩
 rw[<-hbad,<-hMe]at hlook;obtain⟨L,hL⟩:∃L,L=WX l M:=⟨_,rfl⟩
 obtain⟨A,hA⟩:∃A:Nat->List Int,A=λi=>Hs.flatMap λh=>Fx (l.getD i 0) h.moves:=⟨_,rfl⟩
 have hAl:∀i,(A i).length<=17*301:=λi=>by
  rw[hA];refine qr (Nr λh hh=>WZ (hv h hh).1 _) ?_;exact Nat.mul_le_mul_left _ (by omega)
 have w2:=JP (W:=(BR (CH (QC l)) AX N d d.revs (false,[])).1) (m2:=m2) (K:=450000) (by omega) (by omega) (HW (λs p g=>g) N 0 d.flow false (false,[]) h1).1 h2 hrs hs;have w3:=λrev=>JP (W:=(G8 (UP rev) AX N d []).1) (m2:=m2) (K:=450000) (by omega) (by omega) (If (λs p _=>TV m2) N 0 d.flow AX false [] h1) (TV m2) (by simp[G8,Gf]) hs;obtain⟨Wd,hWd⟩:∃Wd,Wd=(BR (XA l L to.id) AX N d (OK d l to) ()).1:=⟨_,rfl⟩
 obtain⟨Wl,hWl⟩:∃Wl,Wl=(Gf (UN l L to.id) AX N d (OK d l to) false).1:=⟨_,rfl⟩
 have hT:to.id∈to.id::m2:=jP ..;have h1':Da (J5 (to.id::m2)) 150000 N d.flow:=h1.mono (λx g=>O0 g) (qa _);have lW:Da (J5 (to.id::m2)) 450000 N Wd.flow:=by
  rw[hWd];exact(HW (λs p g=>VW hT g) N 0 d.flow false () h1').1
 have eW:J5 (to.id::m2) Wd.«end»:=by rw[hWd];exact VW hT (O0 h2)
 have sW:Wd.settings.sized:=by rw[hWd];exact hs
 by_cases hz:EK d l to=0
 rotate_left
 have k27:=c27 d l (by omega) to bad M (by omega) zD hrs htb (λg=>absurd g hz) (λg=>absurd g hz);have k28:=c28 d l (by omega) to [] bad zD zD hrs htb (λg=>absurd g hz) (λg=>absurd g hz) (λ_=>rfl);have e:Sd (Sz d l to bad) zD=zD:=by unfold Sd;split<;>rfl
 rw[e]at k27 k28;exact⟨zD,_,k27,k28,Yh h1⟩;have hok:=Nj hz;obtain⟨nz,hjo⟩:=Uf (_N:=N) hm2 htb hok;obtain⟨_,_,_,tT,_⟩:=QB htb hz;have hLn:L=Ln l A l.length:=by rw[hL,hMe,hA];exact WY hok.inc nz Hs λh hh=>(hv h hh).2
 have hLl:L.length<=1073741824:=by
  rw[hLn];refine qr (Ny hAl _) ?_;have:17*301*l.length<=17*301*40:=Nat.mul_le_mul_left _ hln;omega
 have hclash:(Gf (UN l L to.id) AX N d (OK d l to) false).2=bad:=by
  rw[Oh,<-hHs,hbad];rw[Bool.eq_iff_iff,List.any_eq_true,List.any_eq_true];constructor;rintro⟨h,hh,g⟩;exact⟨h,hh,by rw[<-(JZ (L:=L) (hjo h (hv h hh).2)).1];exact g⟩;rintro⟨h,hh,g⟩;exact⟨h,hh,by rw[(JZ (L:=L) (hjo h (hv h hh).2)).1];exact g⟩
 have hsame:Pc (hpR m2) (UN l L to.id) (XA l L to.id):=λs t p g=>by
  obtain⟨_,j2,j3⟩:=JZ (L:=L) (hjo p.head g.2);exact⟨j2,j3⟩
 have hflow:Ac Wl.flow=Ac Wd.flow:=by
  rw[hWl,hWd];exact Lc hsame (λi h=>h) N 0 d.flow false false () W (.inr (by decide))
 have hend:Wl.«end» = Wd.«end»:=by
  rw[hWl,hWd];obtain⟨_,j2,j3⟩:=JZ (L:=L) (hjo d.«end» (hm2▸hd.end));refine j3 ?_;show(!(decide (d.«end».ins∈l)&&_))=true;rw[hd.endI];simp[nz]
 have hN:Wl.normal=Wd.normal:=N0 hflow hend (by rw[hWl,hWd];rfl) (by rw[hWl,hWd];rfl);have rW:Wd.revs.length<=256:=by rw[hWd];exact tT.1
 have rL:Wl.revs.length<=256:=by rw[hWl];exact tT.1
 have lL:Da (J5 (to.id::m2)) 450000 N Wl.flow:=by
  rw[hWl];exact If (f:=UN l L to.id) (λs p g=>YP nz hT g) N 0 d.flow AX false false h1'
 have eL:J5 (to.id::m2) Wl.«end»:=by rw[hend];exact eW
 have w5:=JP (W:=Wd) (m2:=to.id::m2) (K:=450000) (by simp;omega) (by omega) lW eW (by omega) sW;have w6:=JP (W:=Wl) (m2:=to.id::m2) (K:=450000) (by simp;omega) (by omega) lL eL (by omega) (by rw[hWl];exact hs);have k27:=c27 d l (by omega) to bad M (by omega) Wd.normal hrs htb (λ_ p q n0 hpq hp hq H n hnn hHp hHq=>?_) (λ_ _ q n0 hq H n hnn hHq=>?_);have k28:=c28 d l (by omega) to L bad Wd.normal Wl.normal hrs htb (λ_=>?_) (λ_ q n0 H n hq hnn hHq=>?_) (λ_=>hN);refine⟨_,_,k27,k28,?_⟩;unfold Sd;split;exact q17 (hp:=J5 (to.id::m2)) (λx g=>g.1) (K:=450000) (by omega) N _ (FT lW) eW.1 (qr (qU _ _) (by omega)) sW;exact Yh h1;have e:∀i (hi:i<l.length),l.getD i 0=l[i]:=λi hi=>by simp[List.getD,hi]
 rw[hLn];refine Zm d l (by omega) A (λi=>by have:=hAl i;omega) (λi hi=>?_) (λi hi q n0 hq H n hnn hHq=>?_);have h3:=Ny (revs:=l) hAl i;have h4:=hAl i;have:17*301*i<=17*301*40:=Nat.mul_le_mul_left _ (by omega);omega;have hst:(G8 (UP l[i]) AX N d []).2=A i:=by rw[Rs,<-hHs,hA];simp only[e i hi]
 refine kS (d39 (sc:=AX) (dH hq l false i hi) (J5 m2) 150000 (by omega) (λh g=>⟨g.1,g.1⟩) N d [] h1 h2 (by rw[hst];have:=hAl i;omega) (w3 _).1 (w3 _).2.1 (w3 _).2.2 hnn λo y g=>?_) λv h' n' g=>?_;simp only[UD]at g;split at g;subst_vars;cases g;exact hHq;cases g;obtain⟨g1,g2,g3⟩:=g;exact⟨⟨_,g1⟩,by rw[g2,hst],g3⟩;have:=X6 (sc:=AX) (dG hq l (by omega) L hLl to) (J5 m2) 150000 (by omega) (λh g=>⟨g.1,g.1⟩) N d (OK d l to) false h1 h2 (qg _) (by rw[<-hWl];exact w6.1) (by rw[<-hWl];exact w6.2.1) (by rw[<-hWl];exact w6.2.2) (H:=H) (n:=n) hnn (λo y g=>by
  simp only[Qf]at g;split at g;subst_vars;cases g;exact hHq;cases g)
 rw[hclash,<-hWl]at this;exact this;have:=Xz (sc:=AX) (v93 hpq hp hq l (by omega) false) (J5 m2) 150000 (by omega) (λh g=>⟨g.1,g.1⟩) N d (false,[]) h1 h2 (by rw[hlook];show M.length<=_;omega) w2.1 w2.2.1 w2.2.2 (H:=H) (n:=n) hnn (λo y g=>by
  simp only[KP,qS]at g;split at g;subst_vars;cases g;exact hHp;split at g;subst_vars;cases g;exact hHq;cases g)
 rw[hlook]at this;exact this;rw[<-hL]at hHq;have:=d49 (sc:=AX) (dF hq l (by omega) false L to) (J5 m2) 150000 (by omega) (λh g=>⟨⟨g.1,by have:=g.2.dlen;omega⟩,g.1⟩) N d (OK d l to) () h1 h2 (by rw[<-hWd];exact w5.1) (by rw[<-hWd];exact w5.2.1) (by rw[<-hWd];exact w5.2.2) (H:=H) (n:=n) hnn (λo y g=>by
  simp only[N8]at g;split at g;subst_vars;cases g;exact hHq;cases g)
 have hup:Aj (N8 q L) (BR (XA l L to.id) AX N d (OK d l to) ()).2 H=H:=by
  funext j;simp only[Aj,N8];by_cases c:j=q;rw[if_pos c,c,hHq];rw[if_neg c]
 rw[hup,<-hWd]at this;exact this
set_option maxHeartbeats 4000000 in
theorem splitCombines (d:AI) (l:List Int) (to:Ax) {B N:Nat} (hB:B<=1048576) (hd:d.sizedT B N):PC 8 [d.enc,.imm 1 (l.map AA) false,to.enc] (.bool true):=by
 intro h n;refine Db Tryz.func8 rfl λho=>?_;have hHb:=ho.lt;obtain⟨X,hX⟩:∃X:SV,X=.iptr ([AG d.flow]++d.«end».flat++[Ao d.revs]++d.settings.flat):=⟨_,rfl⟩
 obtain⟨V,hV⟩:∃V:SV,V=.iptr [AA to.id,.str to.author,AA to.time]:=⟨_,rfl⟩
 obtain⟨J,hJ⟩:∃J:SV,J=.imm 1 (l.map AA) false:=⟨_,rfl⟩
 refine AY 1 [(1,J),(3,X),(5,V)] h n ?_ (λm hm=>?_);rw[hX,hV,hJ];simp[go_sem,AI.enc,Ax.enc,AF.flat,AK.flat,IO];exact⟨by omega,⟨AV (ho.none (by omega)) (by simp[hset]),AV (ho.none (by omega)) (by simp[hset])⟩,λj y e=>by have:=hHb j y e;simp only[hset];grind⟩;refine AT 0 (α:=Unit) (λ_=>[(1,J),(3,X),(5,V)]) (λ_=>h) (λb m=>n<=m/\(Hk N d/\MP N d.flow/\MK N d.flow<=150)/\l.length<=40) ?_ (λ_ m hm=>?_);refine BM 0 (α:=Bx) (λb=>[(1,J),(3,X),(5,V),(28,.bool b.b)]) (λ_=>h) (λb m=>n<=m/\(b.b=false->(Hk N d/\MP N d.flow/\MK N d.flow<=150)/\l.length<=40)) ?_ (λb m hm=>?_);rw[hX,hV,hJ];simp[go_sem,AF.flat,AK.flat];refine qw k11 ?_;simp[go_sem];refine kW (by simpa[AI.enc,AF.flat,AK.flat]using Wr d hB hd) ?_;rintro v ⟨b,rfl,hb⟩;cases b with
 | false=>simp[go_sem,IO,hm];exact⟨⟨true⟩,by simp,rfl⟩
 | true=>
  by_cases c:(40:Int)<(l.length:Int);simp[go_sem,c,IO,hm];exact⟨⟨true⟩,by simp,rfl⟩;simp[go_sem,c,IO,hm];exact⟨⟨_⟩,λ_=>⟨hb rfl,by omega⟩,rfl⟩
 obtain⟨b⟩:=b;obtain⟨hm,hb⟩:=hm;dsimp only at hb ⊢;cases b with
 | true=>
  refine AH ?_;simp[go_sem];refine qw k11 ?_;simp[go_sem];exact As ho rfl rfl
 | false=>
  have hb:=hb rfl;refine AH ?_;simp[go_sem,IO,hm];exact hb
 obtain⟨hm,⟨h1,h2,h3⟩,hln⟩:=hm;obtain⟨A,e,k27,k28,k17⟩:=S7 hB hd.flow hd.end hd.settings.tosized h1 h2 h3 l hln to;rw[<-hJ]at k27 k28;refine AY 1 [(1,J),(3,X),(5,V),(7,.iptr A.flat),(8,AA e)] h n ?_ (λm hm=>?_);have hHm:∀j y,h j=some y->j<m:=λj y e=>by have:=hHb j y e;omega
 rw[hX,hV];simp[go_sem,AF.flat,AK.flat];refine qw (by simpa[AI.enc,Ax.enc,AF.flat,AK.flat]using k27) ?_;simp[go_sem,AI.flat,AF.flat,AK.flat,IO,AC,AS];exact⟨by omega,AV (AW hHm (qa _)) (AC _ _ _),AJ hHm AB⟩;refine AY 1 [(7,.iptr A.flat),(8,AA e),(9,.iptr A.flat),(10,AA e)] h n ?_ (λm hm=>?_);have hHm:∀j y,h j=some y->j<m:=λj y e=>by have:=hHb j y e;omega
 rw[hX,hV];simp[go_sem,AF.flat,AK.flat];refine qw (by simpa[AI.enc,Ax.enc,AF.flat,AK.flat]using k28) ?_;simp[go_sem,AI.flat,AF.flat,AK.flat,IO,AC,AS];exact⟨by omega,AV (AW hHm (qa _)) (AC _ _ _),AJ hHm AB⟩;refine AH ?_;simp[go_sem,AI.flat,AF.flat,AK.flat];refine qw (by simpa[AI.enc,AF.flat,AK.flat]using k17) ?_;simp[go_sem];exact As ho rfl rfl
end Go.Proofs.YtgakninlhfkkmaaGreat.Sh
namespace Go.Proofs.YtgakninlhfkkmaaGreat.splitCombines
open Go.ChangeShapes Go.WideShapes Go.ChangeAt Go.RowKit
open Go.Proofs.YtgakninlhfkkmaaGreat.Sh
set_option maxRecDepth 10000
theorem own : ownKnob Tryz.prog.godebug = none := by kernel_rfl
theorem contract (H : Type) (enc : TypeId × Value → H) (W : World) (base : Nat) (args : Array Value) (ds gs : List (DataW H)) (before : List MemPlace)
 (hval : ∀ (j : Nat) t v, Tryz.f8.params[j]? = some t → args[j]? = some v → Value.okWide Tryz.prog W .any base t v)
 (hW : DataW.Whole enc Tryz.prog Tryz.f8.params.toList Rows.splitCombinesSpec.vars false W args.toList ds gs before) (hk : Rows.uptoSmall H (ds ++ gs) = true) :
 Calls Tryz.prog 8 args W fun e W' => ∃ v, e = .returned v ∧ Rows.splitCombinesSpec.post enc Tryz.prog Tryz.f8 false true false false W args v W' := by
 have hW' := hW;obtain ⟨p, q, hA, hV, rfl, hfz, hnd⟩ := hW;rw [Tryz.params8] at hA hval;obtain ⟨v0, vs0, d0, ds0, p0, q0, hargs, rfl, rfl, ⟨n0, h0⟩, r0⟩ := trodAll_cons hA;obtain ⟨v1, vs1, d1, ds1, p1, q1, rfl, rfl, rfl, ⟨n1, h1⟩, r1⟩ := trodAll_cons r0;obtain ⟨v2, vs2, d2, ds2, p2, q2, rfl, rfl, rfl, ⟨n2, h2⟩, r2⟩ := trodAll_cons r1;obtain ⟨rfl, rfl, rfl⟩ := trodAll_nil r2;obtain rfl : args = #[v0, v1, v2] := by cases args; simp_all
 obtain ⟨rfl, rfl⟩ := trodVars_none hV;rw [jq] at hk;have hb : Rows.uptoBulkAll [d0, d1, d2] ≤ 1048576 := of_decide_eq_true hk;simp only [Rows.uptoBulkAll] at hb;obtain ⟨d, a1, a2⟩ := (R7 n0).arg Tryz.underlying38 (hval 0 38 v0 rfl rfl) h0 (by unfold BB; dsimp only; omega);obtain ⟨r, b1⟩ : ∃ r : List Int, V (TA W) (.imm 1 (r.map AA) false) v1 := by
  have hv := hval 1 61 v1 rfl rfl;obtain ⟨r, r1, _⟩ := Yj n1 _ _ h1 (by unfold BB; dsimp only; omega);refine ⟨r, ?_⟩;obtain ⟨u, rest, hc, hu, hr⟩ := r1;rw [VL] at hr;subst hr;cases v1 <;> simp [Value.okWide, Go.Cell.okWide, Go.Cell.ok, Tryz.underlying61] at hv <;> (simp [Value.cells] at hc; rw [hc]; exact hu)
 obtain ⟨c, c1, c2⟩ := (Yk n2).arg Tryz.underlying42 (hval 2 42 v2 rfl rfl) h2 (by unfold BB; dsimp only; omega);have hBB : BB ≤ 1048576 := by unfold BB; exact qa _
 have hc := PC.calls (Sh.splitCombines d r c hBB a2) (W := W) (vs := [v0, v1, v2]) ⟨a1, b1, c1, trivial⟩;refine Calls.mono hc ?_;rintro e W' ⟨u, c', rfl, rfl, hV, hE⟩;have hu : u = .bool true := by rw [V] at hV; exact hV
 subst hu;refine ⟨_, rfl, QT (x := .lit (.bool true)) hW' rfl (by rw [Tryz.params8]; exact of_decide_eq_true (by kernel_rfl)) hE.os hE.out (fun b hb => Rm hE hb) rfl (fun _ _ _ => trodAll_cons_mk (shut_bool Tryz.underlying4 _) trodAll_mk0) (ok_one (by kernel_rfl) rfl (okWide_bool_mk Tryz.underlying4 _))⟩
def zi : Value := .int .i64 0
def zl : Value := .slice none 0 0
def witD : Value := .agg #[zl, zl, zi, zi, zl, zl, zl, zl, zl, zl, zl]
def witC : Value := .agg #[zi, .string .empty, zi]
def li {H : Type} : DataW H := .lit (.int .i64 0)
set_option maxRecDepth 100000 in
theorem lifted (os : Os) (started : os.Started) (H : Type) (enc : TypeId × Value → H) (F : Stop.Interp) :
 ReturnsInHanded {} Tryz.checked os 8 .any ((Rows.OpenSpec.upto Rows.splitCombinesSpec).pre6 enc Tryz.prog Tryz.f8 Rows.splitCombinesUptoRow.domain false) (((Rows.OpenSpec.upto Rows.splitCombinesSpec).at F).post enc Tryz.prog Tryz.f8 false true false false) := by
 refine returnsInHanded_of_cond (C := Tryz.checked) (s := Rows.OpenSpec.upto Rows.splitCombinesSpec) (k := Rows.uptoSmall) rfl own started (by kernel_rfl) Tryz.func8
  (OpenSpec.witness (enc := enc) (C := Tryz.checked) (s := Rows.OpenSpec.upto Rows.splitCombinesSpec) (k := Rows.uptoSmall) rfl false ⟨#[], #[witD, zl, witC], []⟩ 12 (by kernel_rfl) (by kernel_rfl) (by kernel_rfl)
    (x := ([.agg [.nil, .agg [.nil, .agg [li, li, .nil, .nil]], .nil, .agg [.nil, .nil, .nil, .nil]], .nil, .agg [li, .lit (.string []), li]], [], [])) (by kernel_rfl) rfl (by kernel_rfl)) ?_
 intro W base args ds gs before hval hW _ hk _;exact contract H enc W base args ds gs before hval hW hk
theorem named : Tryz.checked.prog.funcNamed Rows.splitCombinesUptoRow.func = some 8 := by kernel_rfl
theorem inst : Tryz.f8.isInstance Tryz.checked.prog Rows.splitCombinesUptoRow.origin Rows.splitCombinesUptoRow.targs := of_decide_eq_true (by kernel_rfl)
theorem wrap : Tryz.f8.isWrapper Tryz.checked.prog Rows.splitCombinesUptoRow.wrapper Rows.splitCombinesUptoRow.mainSum := by unfold Func.isWrapper; first | (rw [if_pos (by decide +kernel)]; kernel_rfl) | (rw [if_neg (by decide +kernel)]; exact ⟨rfl, rfl⟩)
theorem proved : Rows.SplitCombinesUptoSaid :=
 OpenClaim.holds_of_cond 8 Tryz.f8 rfl rfl rfl rfl rfl rfl rfl ⟨rfl, rfl, rfl, rfl, rfl⟩ rfl rfl rfl rfl rfl named Tryz.func8 facts inst wrap
  (fun os started H enc _ F => lifted os started H enc F)
#print axioms proved
end Go.Proofs.YtgakninlhfkkmaaGreat.splitCombines
