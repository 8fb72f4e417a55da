/- SplitPartsUptoSaid: a part of its proof (part 3 of 14). -/
import Derived.Test.YtgakninlhfkkmaaGreatM2
import Derived.Test.YtgakninlhfkkmaaGreatProg
import Derived.KernelRfl
import Derived.Tactics
import Derived.IntWalk
namespace Go.Proofs.YtgakninlhfkkmaaGreat.Sh
section
variable {E : Bl} {P : Program} {N : Nat} {ops : Array Oper} {f0 : Nat → SV} {h0 : Hp} {n0 n : Nat} {rs : List CH}
def SR (listed : Array Bool) : Nat := listed.toList.count false
theorem JV {listed : Array Bool} {i : Nat} (hi : i < listed.size) (h : listed.getD i false = false) : SR (listed.setIfInBounds i true) + 1 = SR listed := by
 have hv : listed.toList[i]'(by simpa using hi) = false := by rw [GN hi] at h; simpa using h
 have hpos : 0 < listed.toList.count false := List.count_pos_iff.2 (by rw [← hv]; exact List.getElem_mem _)
 unfold SR
 rw [Array.toList_setIfInBounds, List.count_set (h := by simpa using hi), hv]
 have e1 : (if (false == false) = true then 1 else 0) = 1 := rfl
 have e2 : (if (true == false) = true then 1 else 0) = 0 := rfl
 rw [e1, e2]
 omega
theorem O3 (hst : Em ops = true) {listed : Array Bool} (hs : listed.size = ops.size) (hr : Region.ready .any ops listed = []) : ∀ i, i < ops.size → listed.getD i false = true := by
 intro i
 induction i using Nat.strongRecOn with
 | _ i ih =>
  intro hi
  cases h : listed.getD i false with
  | true => rfl
  | false =>
   exfalso
   have hoi : ops[i]? = some ops[i] := by simp [hi]
   have : i ∈ Region.ready .any ops listed := mem_ready.2 ⟨by rw [GN (by omega)] at h ⊢; exact h, ops[i], hoi, fun e he hb => by
    have hlt := Nf hst hoi e he hb
    exact ih e.on hlt (by omega)⟩
   rw [hr] at this; cases this
theorem NW {listed : Array Bool} (hs : listed.size = ops.size) (h : SR listed = 0) : Region.ready .any ops listed = [] := by
 cases hr : Region.ready .any ops listed with
 | nil => rfl
 | cons i l =>
  exfalso
  obtain ⟨hun, o, ho, _⟩ := mem_ready.1 (show i ∈ Region.ready .any ops listed by rw [hr]; simp)
  have hlt := (Array.getElem?_eq_some_iff.1 ho).1
  have hF : listed.getD i false = false := by rw [GN (by omega)] at hun ⊢; exact hun
  have := JV (by omega) hF
  omega
theorem RQ (G : Pq E P N ops f0 h0 n0 n rs) {c0 : Cx} {Qr : Exit → Act → World → Prop}
 (hQ : ∀ c' a', Bq (EA (rs.map CH.hw) (fun q => decide (q < ops.size)) 0 h0) c' → Q0 E N (EA (rs.map CH.tw) (fun q => decide (q < ops.size)) 0 f0) c' a' → Fr n c' → DV c0 c' → (∀ j, j < n0 → c'.ρ j = c0.ρ j) → Qr .normal a' c'.w) :
 ∀ (fuel : Nat) (listed : Array Bool) (c : Cx) (a : Act), At E P N ops f0 h0 n0 n rs c0 listed c a → SR listed = fuel → wpAnyIn E.fc 0 P .any ops Qr fuel listed a c.w := by
 have done : ∀ (listed : Array Bool) (c : Cx) (a : Act), At E P N ops f0 h0 n0 n rs c0 listed c a → Region.ready .any ops listed = [] → Qr .normal a c.w := by
  intro listed c a A hr
  have hall := O3 G.stat A.size hr
  have e : ∀ {α : Type} (l : List (List (Nat × α))) (f : Nat → α), l.length = ops.size → EA l (fun q => listed.getD q false) 0 f = EA l (fun q => decide (q < ops.size)) 0 f := fun l f hl => by
   funext k
   refine Gl fun q w _ hw hne => ?_
   have hq := (List.getElem?_eq_some_iff.1 hw).1
   rw [Nat.sub_zero] at hq
   rw [hall q (by omega)] at hne
   simp [show q < ops.size by omega] at hne
  have R := A.rel
  have F := A.fr
  rw [e _ _ (by simp [G.len])] at R F
  exact hQ c a R F A.free A.ext A.same
 intro fuel
 induction fuel with
 | zero =>
  intro listed c a A hf
  have hr := NW A.size hf
  exact ⟨hr, done listed c a A hr⟩
 | succ fuel ih =>
  intro listed c a A hf
  refine ⟨done listed c a A, fun i hi => ?_⟩
  obtain ⟨hun, o, ho, _⟩ := mem_ready.1 hi
  have hlt := (Array.getElem?_eq_some_iff.1 ho).1
  have hF : listed.getD i false = false := by rw [GN (by rw [A.size]; exact hlt)] at hun ⊢; exact hun
  have hu := JV (by rw [A.size]; exact hlt) hF
  exact QO G A hi fun c' a' A' => ih _ c' a' A' (by omega)
theorem PJ (G : Pq E P N ops f0 h0 n0 n rs) (hm : P.follows .mixedOrders = true) {id : Nat} {c : Cx} {a : Act} {Qr : Exit → Act → World → Prop} (hn : n0 ≤ n) (I : E.inv c) (R : Bq h0 c) (F : Fr n0 c) (A : Q0 E N f0 c a)
 (hQ : ∀ c' a', Bq (EA (rs.map CH.hw) (fun q => decide (q < ops.size)) 0 h0) c' → Q0 E N (EA (rs.map CH.tw) (fun q => decide (q < ops.size)) 0 f0) c' a' → Fr n c' → FY n0 c n c' → Qr .normal a' c'.w) :
 (Code.region id ops true).wpIn E.fc 0 P Qr a c.w := by
 refine wpIn_region_any hm ?_
 have hg : ∀ i, (Array.replicate ops.size false).getD i false = false := fun i => by
  rw [Array.getD_eq_getD_getElem?]
  by_cases hi : i < ops.size <;> simp [hi]
 have hsel : ∀ {α : Type} (l : List (List (Nat × α))) (f : Nat → α), EA l (fun q => (Array.replicate ops.size false).getD q false) 0 f = f := fun l f => by
  funext k; exact QA fun q w _ hD => by rw [hg] at hD; cases hD
 have := RQ G (c0 := c) (Qr := Qr) (fun c' a' R' F' Fr' E' S' => hQ c' a' R' F' Fr' ⟨E', hn, S'⟩) ops.size (Array.replicate ops.size false) c.drew a
  ⟨by simp, fun i o _ hl => (by rw [hg] at hl; cases hl), E.ext c.drew_ext I, (by rw [hsel]; exact R.drew), (by rw [hsel]; exact ⟨A.size, A.defers.mono c.drew_ext, fun t => V.mono c.drew_ext (A.val t)⟩), fun j hj => F j (by omega), c.drew_ext, fun _ _ => rfl,
   fun i r hr _ k hk => F k (G.newlo i r hr k hk).1⟩ (by simp [SR])
 exact this
def Cp (a b : List Nat) : Bool := a.all fun x => !b.contains x
theorem IT {a b : List Nat} (h : Cp a b = true) : ∀ k ∈ a, k ∉ b := fun k hk hb => by
 have := List.all_eq_true.1 h k hk
 simp at this; exact this hb
def HI (ops : Array Oper) (i : Nat) (r : CH) : Nat → List CH → Bool
 | _, [] => true
 | j, q :: qs => ((Cp (Al q.wr) r.foot && Cp (Al r.wr) q.foot && Cp (Al q.new) r.foot) || Eg ops j i) && HI ops i r (j + 1) qs
def Ek (E : Bl) (P : Program) (ops : Array Oper) (Q : SA → Hp → Nat → Prop) : List Oper → List CH → SA → Hp → Nat → Prop
 | [], _, sa, h, n => Q sa h n
 | o :: rest, tr, sa, h, n =>
  match DI ops sa o with
  | none => False
  | some b =>
   if b = true then
   match o.op with
   | .call { callee := .value f, args, .. } =>
    match callee (GW sa f) (args.toList.map (GW sa)) with
    | some (g, aS) => ∃ foot wr v, Kv E P g aS foot wr v h ∧ (∀ k ∈ Al wr, k ∈ foot) ∧ (∀ k ∈ foot, k < n) ∧ HI ops tr.length { dst := o.dst, val := v, foot := foot, wr := wr } 0 tr = true ∧
     Ek E P ops Q rest (tr ++ [{ dst := o.dst, val := v, foot := foot, wr := wr }]) (De sa o.dst v) (CB h wr) n
    | none => False
   | op =>
    match Cf P (GW sa) h n op with
    | some out =>
     (∀ k ∈ Al out.upd.toList ++ ES (GW sa) op, k < n) ∧ HI ops tr.length { dst := o.dst, val := out.val, foot := Al out.upd.toList ++ ES (GW sa) op, wr := out.upd.toList, new := (out.new.map fun x => (n, some x)).toList } 0 tr = true ∧
     Ek E P ops Q rest (tr ++ [{ dst := o.dst, val := out.val, foot := Al out.upd.toList ++ ES (GW sa) op, wr := out.upd.toList, new := (out.new.map fun x => (n, some x)).toList }]) (De sa o.dst out.val) (out.app h n) (if out.new.isSome then n + 1 else n)
    | none => ∃ v, QJ P (GW sa) o v ∧ HI ops tr.length { dst := o.dst, val := v } 0 tr = true ∧ Ek E P ops Q rest (tr ++ [{ dst := o.dst, val := v }]) (De sa o.dst v) h n
   else Ek E P ops Q rest (tr ++ [{ dst := o.dst, val := .tup [] }]) (De sa o.dst (.tup [])) h n
theorem Ik {α : Type} {D : Nat → Bool} {l2 : List (List (Nat × α))} : ∀ {l1 : List (List (Nat × α))} {i : Nat} {f : Nat → α}, EA (l1 ++ l2) D i f = EA l2 D (i + l1.length) (EA l1 D i f)
 | [], i, f => rfl
 | w :: l1, i, f => by
  simp only [List.cons_append, EA, List.length_cons]
  rw [Ik, show i + 1 + l1.length = i + (l1.length + 1) by omega]
theorem Ks {α : Type} {l : List (List (Nat × α))} {w : List (Nat × α)} {i : Nat} {f : Nat → α} (hi : i ≤ l.length) : EA (l ++ [w]) (fun q => decide (q < i)) 0 f = EA l (fun q => decide (q < i)) 0 f := by
 rw [Ik]
 simp only [EA, Nat.zero_add]
 rw [if_neg (by simp; omega)]
theorem Oc {α : Type} {l : List (List (Nat × α))} {w : List (Nat × α)} {f : Nat → α} : EA (l ++ [w]) (fun q => decide (q < l.length + 1)) 0 f = CB (EA l (fun q => decide (q < l.length)) 0 f) w := by
 rw [Ik]
 simp only [EA, Nat.zero_add]
 rw [if_pos (by simp)]
 congr 1
 funext k
 refine Gl fun q v _ hv hne => ?_
 have hq := (List.getElem?_eq_some_iff.1 hv).1
 rw [Nat.sub_zero] at hq
 simp [hq, show q < l.length + 1 by omega] at hne
structure Ti (E : Bl) (P : Program) (N : Nat) (ops : Array Oper) (f0 : Nat → SV) (h0 : Hp) (n0 n : Nat) (tr : List CH) (f : Nat → SV) (h : Hp) : Prop where
 le : n0 ≤ n
 fr : f = EA (tr.map CH.tw) (fun q => decide (q < tr.length)) 0 f0
 hp : h = EA (tr.map CH.hw) (fun q => decide (q < tr.length)) 0 h0
 ok : ∀ (i : Nat) (o : Oper) (r : CH), ops[i]? = some o → tr[i]? = some r → r.dst = o.dst ∧ (∀ j ∈ Al r.wr, j ∈ r.foot) ∧
  ((FU ops (EA (tr.map CH.tw) (fun q => decide (q < i)) 0 f0) o = some false ∧ r.val = .tup [] ∧ r.foot = [] ∧ r.wr = [] ∧ r.new = []) ∨
   (FU ops (EA (tr.map CH.tw) (fun q => decide (q < i)) 0 f0) o = some true ∧
    ∀ m, n ≤ m → Jc E P N o (EA (tr.map CH.tw) (fun q => decide (q < i)) 0 f0) (EA (tr.map CH.hw) (fun q => decide (q < i)) 0 h0) m r))
 ind : ∀ (i j : Nat) (ri rj : CH), j < i → tr[i]? = some ri → tr[j]? = some rj → Eg ops j i = false →
  (∀ k ∈ Al rj.wr, k ∉ ri.foot) ∧ (∀ k ∈ Al ri.wr, k ∉ rj.foot) ∧ (∀ k ∈ Al rj.new, k ∉ ri.foot)
 newlo : ∀ (i : Nat) (r : CH), tr[i]? = some r → ∀ k ∈ Al r.new, n0 ≤ k ∧ k < n
 newne : ∀ (i j : Nat) (ri rj : CH), i ≠ j → tr[i]? = some ri → tr[j]? = some rj → ∀ k ∈ Al ri.new, k ∉ Al rj.new
 footlo : ∀ (i : Nat) (r : CH), tr[i]? = some r → ∀ k ∈ r.foot, k < n
 newfoot : ∀ (i j : Nat) (ri rj : CH), j ≤ i → tr[i]? = some ri → tr[j]? = some rj → ∀ k ∈ Al ri.new, k ∉ rj.foot
theorem LL {i : Nat} {r : CH} : ∀ {tr : List CH} {j0 : Nat}, HI ops i r j0 tr = true → ∀ (j : Nat) (q : CH), tr[j]? = some q → Eg ops (j0 + j) i = false →
 (∀ k ∈ Al q.wr, k ∉ r.foot) ∧ (∀ k ∈ Al r.wr, k ∉ q.foot) ∧ (∀ k ∈ Al q.new, k ∉ r.foot)
 | [], _, _, j, q, hq, _ => by simp at hq
 | x :: tr, j0, h, j, q, hq, hd => by
  simp only [HI, Bool.and_eq_true] at h
  cases j with
  | zero =>
   simp only [List.getElem?_cons_zero, Option.some.injEq] at hq
   subst hq
   rw [Nat.add_zero] at hd
   have h1 := h.1
   rw [hd, Bool.or_false, Bool.and_eq_true, Bool.and_eq_true] at h1
   exact ⟨IT h1.1.1, IT h1.1.2, IT h1.2⟩
  | succ j => exact LL h.2 j q (by simpa using hq) (by rw [show j0 + 1 + j = j0 + (j + 1) by omega]; exact hd)
theorem Ti.snoc {tr : List CH} {f : Nat → SV} {h : Hp} {n n' : Nat} (A : Ti E P N ops f0 h0 n0 n tr f h) {o : Oper} (ho : ops[tr.length]? = some o) {r : CH} (hn : n ≤ n') (hdst : r.dst = o.dst) (hwf : ∀ k ∈ Al r.wr, k ∈ r.foot)
 (hfoot : ∀ k ∈ r.foot, k < n) (hnew : ∀ k ∈ Al r.new, n ≤ k ∧ k < n') (hind : HI ops tr.length r 0 tr = true)
 (hok : (FU ops f o = some false ∧ r.val = .tup [] ∧ r.foot = [] ∧ r.wr = [] ∧ r.new = []) ∨ (FU ops f o = some true ∧ ∀ m, n' ≤ m → Jc E P N o f h m r)) :
 Ti E P N ops f0 h0 n0 n' (tr ++ [r]) (CB f r.tw) (CB h r.hw) := by
 have hm : ∀ {α : Type} (g : CH → List (Nat × α)), (tr ++ [r]).map g = tr.map g ++ [g r] := fun g => by simp
 have hl : ∀ {α : Type} (g : CH → List (Nat × α)), (tr.map g).length = tr.length := fun g => by simp
 have get : ∀ {i : Nat} {q : CH}, (tr ++ [r])[i]? = some q → (i < tr.length ∧ tr[i]? = some q) ∨ (i = tr.length ∧ q = r) := fun {i q} h => by
  rw [List.getElem?_append] at h
  split at h
  · exact .inl ⟨by assumption, h⟩
  · rename_i hi
    have := (List.getElem?_eq_some_iff.1 h).1
    simp at this
    have e : i = tr.length := by omega
    subst e; simp at h
    exact .inr ⟨rfl, h.symm⟩
 refine ⟨Nat.le_trans A.le hn, ?_, ?_, fun i oi ri hoi hri => ?_, fun i j ri rj hji hri hrj hd => ?_, fun i ri hri k hk => ?_, fun i j ri rj hij hri hrj k hk => ?_, fun i ri hri k hk => ?_, fun i j ri rj hji hri hrj k hk => ?_⟩
 · rw [hm, List.length_append, List.length_singleton]
   have := Oc (l := tr.map CH.tw) (w := r.tw) (f := f0)
   rw [hl] at this
   rw [this, ← A.fr]
 · rw [hm, List.length_append, List.length_singleton]
   have := Oc (l := tr.map CH.hw) (w := r.hw) (f := h0)
   rw [hl] at this
   rw [this, ← A.hp]
 · rcases get hri with ⟨hi, hri⟩ | ⟨rfl, rfl⟩
   · obtain ⟨g1, g2, g3⟩ := A.ok i oi ri hoi hri
     rw [hm, hm, Ks (by rw [hl]; omega), Ks (by rw [hl]; omega)]
     refine ⟨g1, g2, g3.imp id fun ⟨x, y⟩ => ⟨x, fun m hm => y m (by omega)⟩⟩
   · rw [ho] at hoi; cases hoi
     rw [hm, hm, Ks (by rw [hl]; omega), Ks (by rw [hl]; omega), ← A.fr, ← A.hp]
     exact ⟨hdst, hwf, hok⟩
 · rcases get hri with ⟨hi, hri⟩ | ⟨rfl, rfl⟩
   · rcases get hrj with ⟨hj, hrj⟩ | ⟨rfl, rfl⟩
     · exact A.ind i j ri rj hji hri hrj hd
     · omega
   · rcases get hrj with ⟨hj, hrj⟩ | ⟨rfl, rfl⟩
     · exact LL hind j rj hrj (by rw [Nat.zero_add]; exact hd)
     · omega
 · rcases get hri with ⟨hi, hri⟩ | ⟨rfl, rfl⟩
   · have := A.newlo i ri hri k hk; omega
   · have := hnew k hk; have := A.le; omega
 · rcases get hri with ⟨hi, gri⟩ | ⟨rfl, rfl⟩
   · rcases get hrj with ⟨hj, grj⟩ | ⟨rfl, rfl⟩
     · exact A.newne i j ri rj hij gri grj k hk
     · intro h2; have := A.newlo i ri gri k hk; have := hnew k h2; omega
   · rcases get hrj with ⟨hj, grj⟩ | ⟨rfl, rfl⟩
     · intro h2; have := A.newlo j rj grj k h2; have := hnew k hk; omega
     · exact absurd rfl hij
 · rcases get hri with ⟨hi, gri⟩ | ⟨rfl, rfl⟩
   · have := A.footlo i ri gri k hk; omega
   · have := hfoot k hk; omega
 · rcases get hri with ⟨hi, gri⟩ | ⟨rfl, rfl⟩
   · rcases get hrj with ⟨hj, grj⟩ | ⟨rfl, rfl⟩
     · exact A.newfoot i j ri rj hji gri grj k hk
     · omega
   · rcases get hrj with ⟨hj, grj⟩ | ⟨rfl, rfl⟩
     · intro h2; have := A.footlo j rj grj k h2; have := hnew k hk; omega
     · intro h2; have := hfoot k h2; have := hnew k hk; omega
end
section
variable {E : Bl} {P : Program} {N : Nat} {ops : Array Oper} {f0 : Nat → SV} {h0 : Hp} {n0 n : Nat}
theorem JF (sa : SA) (dst : Option Tmp) (v : SV) (r : CH) (hd : r.dst = dst) (hv : r.val = v) : Ai (De sa dst v) = CB (Ai sa) r.tw := by
 funext t
 unfold CH.tw
 rw [hd, hv]
 cases dst with
 | none => rfl
 | some d =>
  show (if d = t then v else Ai sa t) = if t = d then v else Ai sa t
  by_cases e : d = t
  · rw [if_pos e, if_pos e.symm]
  · rw [if_neg e, if_neg (Ne.symm e)]
theorem RC (h : Hp) (k : Nat) (out : DC) (r : CH) (hw : r.wr = out.upd.toList) (hn : r.new = (out.new.map fun x => (k, some x)).toList) : out.app h k = CB h r.hw := by
 unfold CH.hw DC.app
 rw [hw, hn]
 cases out.upd with
 | none => cases out.new <;> rfl
 | some p => obtain ⟨j, x⟩ := p; cases out.new <;> rfl
theorem Q0.ev {f : Nat → SV} {c : Cx} {a : Act} (F : Q0 E N f c a) (x : Operand) : V c (NJ f x) (a.eval x) := by
 cases x with
 | tmp t => exact F.val t
 | const v => exact Cj c v
 | global g => simp [NJ, V]
 | func g => simp [NJ, Act.eval, V, VL]
theorem Pi {ev : Operand → SV} {h : Hp} {k q : Nat} {op : Op} {out : DC} (hs : Cf P ev h k op = some out) (hn : out.new = none) : Cf P ev h q op = some out := by
 cases op with
 | alloc e => simp only [Cf] at hs; split at hs <;> cases hs; cases hn
 | box e x => simp only [Cf] at hs; split at hs <;> cases hs; cases hn
 | buildSlice t l ps =>
  simp only [Cf] at hs
  split at hs <;> try cases hs
  split at hs <;> try cases hs
  simp only [Option.bind_eq_some_iff] at hs
  obtain ⟨cs, _, e⟩ := hs
  cases e; cases hn
 | makeMap t r => simp only [Cf] at hs; split at hs <;> cases hs; cases hn
 | makeSlice t l c =>
  simp only [Cf] at hs
  split at hs <;> try cases hs
  split at hs <;> try cases hs
  cases hn
 | call cl =>
  obtain ⟨callee, args, ts⟩ := cl
  cases callee with
  | value f => exact hs
  | invoke r m => exact hs
  | builtin b =>
   simp only [Cf] at hs ⊢
   unfold AZ at hs ⊢
   split at hs <;> try exact hs
   split at hs
   rotate_left
   · exfalso
     unfold E4 at hs
     split at hs <;> try cases hs
     split at hs <;> cases hs
     cases hn
   rename_i ht2
   rw [if_pos ht2]
   unfold Ed at hs ⊢
   split at hs <;> try cases hs
   rename_i e he
   simp only at hs
   split at hs <;> try cases hs
   rename_i m ys hm hys
   simp only []
   split at hs <;> try cases hs
   rename_i hc
   rw [if_neg hc]
   split at hs
   · rename_i h0; rw [if_pos h0]; exact hs
   · exfalso
     split at hs
     · split at hs <;> cases hs; cases hn
     · split at hs <;> try cases hs
       split at hs <;> cases hs; cases hn
     · cases hs
 | _ => exact hs
theorem Ng {o : Oper} {f : Nat → SV} {h : Hp} {out : DC} (hs : Cf P (NJ f) h n o.op = some out) {m : Nat} (hm : (if out.new.isSome then n + 1 else n) ≤ m) :
 Jc E P N o f h m { dst := o.dst, val := out.val, foot := Al out.upd.toList ++ ES (NJ f) o.op, wr := out.upd.toList, new := (out.new.map fun x => (n, some x)).toList } := by
 intro f' h' c a Kr Qr hev hh I R F hnew A hK
 refine ⟨fun _ _ => trivial, ?_⟩
 have happ : out.app h' n = CB h' (CH.hw { dst := o.dst, val := out.val, foot := Al out.upd.toList ++ ES (NJ f) o.op, wr := out.upd.toList, new := (out.new.map fun x => (n, some x)).toList }) := RC h' n out _ rfl rfl
 have hs' : Cf P (NJ f') h' n o.op = some out := by
  rw [← hs]
  refine (Qq (fun x hx => (hev x hx).symm) fun j hj => ?_).symm
  exact (hh j (List.mem_append.2 (.inr hj))).symm
 by_cases hn : out.new.isSome = true
 · obtain ⟨x, hx⟩ := Option.isSome_iff_exists.1 hn
   have hρn : c.ρ n = none := hnew n (by show n ∈ Al ((out.new.map fun x => (n, some x)).toList); rw [hx]; simp [Al])
   obtain ⟨u, c', hr, hv, R', X, hρ⟩ := J2 (ev := a.eval) hs' R hρn fun x _ => A.ev x
   have := hK c' u hv (happ ▸ R') (fun j hj => by
    rw [hρ j (.inr (by rw [if_pos hn] at hm; omega))]; exact F j hj) X (fun j hj => hρ j (.inr fun e => hj (by subst e; show j ∈ Al ((out.new.map fun x => (j, some x)).toList); rw [hx]; simp [Al])))
   rw [Oper.semAt_eq _ _ _ (Hv hs)]
   rcases hr with hr | ⟨rfl, hr⟩ <;> (rw [hr]; exact this)
 · have hnone : out.new = none := by cases h : out.new <;> simp [h] at hn ⊢
   have free : ∃ q, c.ρ q = none := ⟨m, F m (Nat.le_refl _)⟩
   obtain ⟨q, hq⟩ := free
   have hs2 : Cf P (NJ f') h' q o.op = some out := Pi hs' hnone
   obtain ⟨u, c', hr, hv, R', X, hρ⟩ := J2 (ev := a.eval) hs2 R hq fun x _ => A.ev x
   have eapp : out.app h' q = out.app h' n := by unfold DC.app; rw [hnone]
   have := hK c' u hv (happ ▸ eapp ▸ R') (fun j hj => by
    rw [hρ j (.inl (by simp [hnone]))]; exact F j hj) X (fun j hj => hρ j (.inl (by simp [hnone])))
   rw [Oper.semAt_eq _ _ _ (Hv hs)]
   rcases hr with hr | ⟨rfl, hr⟩ <;> (rw [hr]; exact this)
theorem Ol {o : Oper} {f : Nat → SV} {h : Hp} {x : Operand} {args : Array Operand} {ts : Array TypeId} {g : FuncId} {aS : List SV} {foot : List Nat} {wr : List (Nat × Option BV)} {v : SV}
 (ho : o.op = .call { callee := .value x, args := args, argTypes := ts }) (hc : callee (NJ f x) (args.toList.map (NJ f)) = some (g, aS)) (hU : Kv E P g aS foot wr v h) {m : Nat} :
 Jc E P N o f h m { dst := o.dst, val := v, foot := foot, wr := wr } := by
 intro f' h' c a Kr Qr hev hh I R F hnew A hK
 refine ⟨fun _ _ => trivial, ?_⟩
 have ev1 : NJ f' x = NJ f x := hev x (by rw [ho]; simp [Op.operands, Call.operands])
 have ev2 : args.toList.map (NJ f') = args.toList.map (NJ f) := List.map_congr_left fun y hy => hev y (by rw [ho]; simp [Op.operands, Call.operands]; exact .inr (by simpa using hy))
 have hcall := hU h' m hh
 have hf := A.ev x
 rw [ev1] at hf
 unfold callee at hc
 split at hc <;> try cases hc
 rename_i g' y z e1
 rw [e1, V] at hf
 obtain ⟨xs, ys, hfv, h1, h2⟩ := hf
 have hargs : AQ (V c) (y ++ args.toList.map (NJ f) ++ z) (xs ++ (args.map a.eval).toList ++ ys) := by
  rw [← ev2]
  exact AQ.append (AQ.append (BI.1 h1) (GP args fun w _ => A.ev w)) (BI.1 h2)
 obtain ⟨hok, hcall⟩ := hcall
 have hc := hcall c _ I R F hargs
 unfold L8 at hok
 cases hfn : P.funcs[g]? with
 | none => simp [hfn] at hok
 | some fn =>
  simp only [hfn, Bool.and_eq_true, bne_iff_ne, ne_eq] at hok
  have hrun : (execOp a.eval o).run P c.w = .ok (.enter g (xs.toArray ++ args.map a.eval ++ ys.toArray)) c.w := by
   have hb : fn.body ≠ none := by intro e; simp [e] at hok
   simp [execOp, ho, resolve, Deferred.ofValue, hfv, invoke, callFunc, hfn, hok.2, hb]
  have earr : xs.toArray ++ args.map a.eval ++ ys.toArray = (xs ++ (args.map a.eval).toList ++ ys).toArray := by
   apply Array.ext'; simp
  rw [Oper.semAt_eq _ _ _ (by rw [ho]; simp), hrun, Oper.uponIn_enter, earr]
  refine ⟨fun h => by simp [Bl.fc, Fence.wide] at h, (callsIn_wide.2 (hc.mono fun e w' ⟨u, v', h2', n', c', he, ⟨hv1, hh1, hn1⟩, hw, hv, R', F', A'⟩ => ?_) : CallsIn Fence.wide _ P g _ c.w _)⟩
  subst he; subst hw; subst hv1; subst hh1; subst hn1
  refine hK c' u hv (by simpa [CH.hw] using R') F' A'.ext fun j _ => ?_
  rcases Nat.lt_or_ge j n' with hj | hj
  · exact A'.same j hj
  · rw [F j hj, F' j hj]
theorem Pl {o : Oper} {f : Nat → SV} {h : Hp} {v : SV} (H : QJ P (NJ f) o v) {m : Nat} : Jc E P N o f h m { dst := o.dst, val := v } := by
 intro f' h' c a Kr Qr hev hh I R F hnew A hK
 refine ⟨fun _ _ => trivial, ?_⟩
 rw [Oper.semAt_eq _ _ _ H.1]
 obtain ⟨u, hr, hv⟩ := H.2 c a.eval (fun _ => rfl) fun x hx => by rw [← hev x hx]; exact A.ev x
 rw [hr]
 exact hK c u hv (by simpa [CH.hw, CB] using R) F (DV.refl c) fun _ _ => rfl
theorem FP {Q : SA → Hp → Nat → Prop} : ∀ (rest : List Oper) (tr : List CH) (sa : SA) (h : Hp) (n : Nat), Ti E P N ops f0 h0 n0 n tr (Ai sa) h → ops.toList.drop tr.length = rest → tr.length ≤ ops.size →
 Ek E P ops Q rest tr sa h n → ∃ rs sa' h' n', Ti E P N ops f0 h0 n0 n' rs (Ai sa') h' ∧ rs.length = ops.size ∧ Q sa' h' n'
 | [], tr, sa, h, n, A, hd, hle, H => ⟨tr, sa, h, n, A, by have := List.drop_eq_nil_iff.1 hd; simp at this; omega, H⟩
 | o :: rest, tr, sa, h, n, A, hd, hle, H => by
  have hlt : tr.length < ops.size := by
   rcases Nat.lt_or_ge tr.length ops.size with h | h
   · exact h
   · rw [List.drop_of_length_le (by simpa using h)] at hd; cases hd
  have ho : ops[tr.length]? = some o := by
   have : (ops.toList.drop tr.length)[0]? = some o := by rw [hd]; rfl
   rw [List.getElem?_drop] at this; simpa using this
  have hd' : ∀ r : CH, ops.toList.drop (tr ++ [r]).length = rest := fun r => by
   rw [List.length_append, List.length_singleton, ← List.drop_drop, hd]; rfl
  have hle' : ∀ r : CH, (tr ++ [r]).length ≤ ops.size := fun r => by simp; omega
  have plain : ∀ out, Cf P (GW sa) h n o.op = some out →
   ((∀ k ∈ Al out.upd.toList ++ ES (GW sa) o.op, k < n) ∧ HI ops tr.length { dst := o.dst, val := out.val, foot := Al out.upd.toList ++ ES (GW sa) o.op, wr := out.upd.toList, new := (out.new.map fun x => (n, some x)).toList } 0 tr = true ∧
     Ek E P ops Q rest (tr ++ [{ dst := o.dst, val := out.val, foot := Al out.upd.toList ++ ES (GW sa) o.op, wr := out.upd.toList, new := (out.new.map fun x => (n, some x)).toList }]) (De sa o.dst out.val) (out.app h n) (if out.new.isSome then n + 1 else n)) →
   DI ops sa o = some true → ∃ rs sa' h' n', Ti E P N ops f0 h0 n0 n' rs (Ai sa') h' ∧ rs.length = ops.size ∧ Q sa' h' n' := fun out hs ⟨h1, h2, h3⟩ hg => by
   refine FP rest _ _ _ _ ?_ (hd' _) (hle' _) h3
   have := A.snoc (n' := if out.new.isSome then n + 1 else n) ho (r := { dst := o.dst, val := out.val, foot := Al out.upd.toList ++ ES (GW sa) o.op, wr := out.upd.toList, new := (out.new.map fun x => (n, some x)).toList })
    (by split <;> omega) rfl (fun k hk => List.mem_append.2 (.inl hk)) h1 (fun k hk => by
      cases hn : out.new with
      | none => rw [hn] at hk; simp [Al] at hk
      | some x => rw [hn] at hk; simp [Al] at hk; subst hk; simp) h2
    (.inr ⟨by rw [← IA]; exact hg, fun m hm => by rw [PK] at hs ⊢; exact Ng hs hm⟩)
   rw [JF sa o.dst out.val { dst := o.dst, val := out.val, foot := Al out.upd.toList ++ ES (GW sa) o.op, wr := out.upd.toList, new := (out.new.map fun x => (n, some x)).toList } rfl rfl,
    RC h n out { dst := o.dst, val := out.val, foot := Al out.upd.toList ++ ES (GW sa) o.op, wr := out.upd.toList, new := (out.new.map fun x => (n, some x)).toList } rfl rfl]
   exact this
  simp only [Ek] at H
  split at H
  case h_1 => exact H.elim
  rename_i b hg
  cases b
  case false =>
   simp only [Bool.false_eq_true, if_false] at H
   refine FP rest _ _ _ _ ?_ (hd' _) (hle' _) H
   have := A.snoc (n' := n) ho (r := { dst := o.dst, val := .tup [] }) (Nat.le_refl _) rfl (by simp [Al]) (by simp) (by simp [Al]) (by
    have : ∀ (l : List CH) (j : Nat), HI ops tr.length { dst := o.dst, val := .tup [] } j l = true := by
     intro l
     induction l with
     | nil => intro j; rfl
     | cons q l ih =>
      intro j
      simp only [HI, ih, Bool.and_true]
      have d1 : ∀ a : List Nat, Cp a [] = true := fun a => by simp [Cp]
      rw [d1, d1]
      simp [Cp, Al]
    exact this tr 0) (.inl ⟨by rw [← IA]; exact hg, rfl, rfl, rfl, rfl⟩)
   rw [JF sa o.dst (.tup []) { dst := o.dst, val := .tup [] } rfl rfl]
   exact this
  case true =>
   rw [if_pos rfl] at H
   split at H
   · rename_i f args ts hop
     split at H
     · rename_i g aS hc
       obtain ⟨foot, wr, v, hU, hwf, hfoot, hind, hrest⟩ := H
       refine FP rest _ _ _ _ ?_ (hd' _) (hle' _) hrest
       have := A.snoc (n' := n) ho (r := { dst := o.dst, val := v, foot := foot, wr := wr }) (Nat.le_refl _) rfl hwf hfoot (by simp [Al]) hind
        (.inr ⟨by rw [← IA]; exact hg, fun m _ => by rw [PK] at hc; exact Ol hop hc hU⟩)
       rw [JF sa o.dst v { dst := o.dst, val := v, foot := foot, wr := wr } rfl rfl]
       simpa [CH.hw] using this
     · exact H.elim
   · split at H
     · rename_i out hs
       exact plain out hs H hg
     · obtain ⟨v, hV, hind, hrest⟩ := H
       refine FP rest _ _ _ _ ?_ (hd' _) (hle' _) hrest
       have := A.snoc (n' := n) ho (r := { dst := o.dst, val := v }) (Nat.le_refl _) rfl (by simp [Al]) (by simp) (by simp [Al]) hind
        (.inr ⟨by rw [← IA]; exact hg, fun m _ => by rw [PK] at hV; exact Pl hV⟩)
       rw [JF sa o.dst v { dst := o.dst, val := v } rfl rfl]
       simpa [CH.hw, CB] using this
theorem RA {id : Nat} {Q : CZ} {sa : SA} {h : Hp} {n : Nat} (hm : P.follows .mixedOrders = true) (hst : Em ops = true) (H : Ek E P ops (Q .normal) ops.toList [] sa h n) : HQ E P N (.region id ops true) Q sa h n := by
 intro hd c a I R F A
 simp only [Code.dok, List.all_eq_true] at hd
 have hdd : ∀ (i : Nat) (o : Oper), ops[i]? = some o → ∀ d, o.dst = some d → d < N := fun i o ho d e => by
  have := hd o (by simpa using Array.mem_of_getElem? ho)
  rw [e] at this; simpa using this
 have A0 : Ti E P N ops (Ai sa) h n n [] (Ai sa) h :=
  ⟨Nat.le_refl _, rfl, rfl, by simp, by simp, by simp, by simp, by simp, by simp⟩
 obtain ⟨rs, sa', h', n', A1, hlen, hq⟩ := FP (N := N) ops.toList [] sa h n A0 rfl (Nat.zero_le _) H
 have G : Pq E P N ops (Ai sa) h n n' rs :=
  ⟨hlen, hst, hdd, fun i o r ho hr => by
   obtain ⟨g1, g2, g3⟩ := A1.ok i o r ho hr
   exact ⟨g1, g2, g3.imp (fun z => z) fun ⟨x, y⟩ => ⟨x, y n' (Nat.le_refl _)⟩⟩, A1.ind, A1.newlo, A1.newne, A1.newfoot⟩
 refine PJ G hm A1.le I R F ⟨A.size, A.defers, A.val⟩ fun c' a' R' F' Fr' E' => ?_
 rw [← hlen, ← A1.hp] at R'
 rw [← hlen, ← A1.fr] at F'
 exact ⟨sa', h', n', c', hq, rfl, R', Fr', ⟨F'.size, F'.defers, F'.val⟩, E'⟩
end
def FS (E : Bl) (P : Program) (N : Nat) : Code → CZ → SA → Hp → Nat → Prop
 | .skip, Q, sa, h, n => Q .normal sa h n
 | .seq a b, Q, sa, h, n => FS E P N a (C7 (FS E P N b Q) Q) sa h n
 | .cond c a b, Q, sa, h, n => match GW sa c with | .bool t => if t = true then FS E P N a Q sa h n else FS E P N b Q sa h n | _ => False
 | .block id b, Q, sa, h, n => FS E P N b (E5 id Q) sa h n
 | .exit id, Q, sa, h, n => Q (.exit id) sa h n
 | .ret, Q, sa, h, n => Q .ret sa h n
 | .region _ ops false, Q, sa, h, n => Hw E P ops (Q .normal) ops.toList sa h n
 | .region _ ops true, Q, sa, h, n => Em ops = true ∧ Ek E P ops (Q .normal) ops.toList [] sa h n
 | .loop b, Q, sa, h, n => HQ E P N (.loop b) Q sa h n
 | .rangeFunc g ps a b, Q, sa, h, n => HQ E P N (.rangeFunc g ps a b) Q sa h n
 | _, _, _, _, _ => False
theorem FA {K K' : SA → Hp → Nat → Prop} {Q : CZ} (hk : ∀ sa h n, K sa h n → K' sa h n) : ∀ e sa h n, C7 K Q e sa h n → C7 K' Q e sa h n := by
 intro e sa h n H
 cases e <;> first | exact hk _ _ _ H | exact H
theorem EX {E : Bl} {P : Program} {N : Nat} (hm : P.follows .mixedOrders = true) : ∀ (c : Code) (Q : CZ) (sa : SA) (h : Hp) (n : Nat), FS E P N c Q sa h n → HQ E P N c Q sa h n
 | .skip, Q, sa, h, n, H => GZ H
 | .seq a b, Q, sa, h, n, H => Ir (Fy (EX hm a _ sa h n H) (FA fun sa h n => EX hm b Q sa h n))
 | .cond c a b, Q, sa, h, n, H => by
  simp only [FS] at H
  split at H
  · rename_i t ht
    refine Ak ht ?_
    split at H
    · rename_i e; rw [if_pos e]; exact EX hm a Q sa h n H
    · rename_i e; rw [if_neg e]; exact EX hm b Q sa h n H
  · exact H.elim
 | .block id b, Q, sa, h, n, H => MJ (EX hm b _ sa h n H)
 | .exit id, Q, sa, h, n, H => RB H
 | .ret, Q, sa, h, n, H => ST H
 | .region _ ops false, Q, sa, h, n, H => O0 H
 | .region _ ops true, Q, sa, h, n, H => RA hm H.1 H.2
 | .loop b, Q, sa, h, n, H => H
 | .rangeFunc _ _ _ _, _, _, _, _, H => H
 | .scope _, _, _, _, _, H => H.elim
 | .label _, _, _, _, _, H => H.elim
 | .goto _, _, _, _, _, H => H.elim
 | .refuse _, _, _, _, _, H => H.elim
def Is (v : SV) (h : Hp) (n : Nat) : SV → Hp → Nat → Prop := fun v' h' n' => v' = v ∧ h' = h ∧ n' = n
def Fa (P : Program) (f : FuncId) (args : List SV) (v : SV) : Prop := ∀ h n, BO P f args h n (Is v h n)
theorem Fa.use {E : Bl} {P : Program} {f : FuncId} {args : List SV} {v : SV} (H : Fa P f args v) {h : Hp} {n : Nat} {K : SV → Hp → Nat → Prop} (hk : K v h n) : Ag E P f args h n K :=
 Ag.lift <| (H h n).mono fun _ _ _ ⟨e1, e2, e3⟩ => by subst e1; subst e2; subst e3; exact hk
theorem Fa.u {E : Bl} {P : Program} {f : FuncId} {args : List SV} {v : SV} (H : Fa P f args v) (h : Hp) : Kv E P f args [] [] v h :=
 fun h' n _ => Ag.lift <| (H h' n).mono fun _ _ _ ⟨e1, e2, e3⟩ => ⟨e1, e2, e3⟩
theorem QI {E : Bl} {P : Program} (hm : P.follows .mixedOrders = true) {f : FuncId} {fn : Func} {code : Code} {args : List SV} {h : Hp} {n : Nat} {K : SV → Hp → Nat → Prop} (hf : P.funcs[f]? = some fn) (hb : fn.body = some code)
 (hn : (fn.name != "runtime.NumGoroutine") = true) (hd : Code.dok fn.ntmps code = true) (hl : args.length ≤ fn.ntmps)
 (H : (∀ a ∈ args, closed n a = true) → (∀ o x, h o = some x → o < n ∧ BJ n x = true) → FS (E.call false 0) P fn.ntmps code (MB P fn n K) (EH 0 args) h n) : Ag E P f args h n K :=
 MI hf hb hn hd hl fun h1 h2 => EX hm _ _ _ _ _ (H h1 h2)
theorem CG.plain {n : Nat} {h h' : Hp} {n' : Nat} {v : SV} {K : SV → Hp → Nat → Prop} (hc : closed n v = true) (hs : ∀ o x, h o = some x → o < n ∧ BJ n x = true) (hh : ∀ o x, h o = some x → h' o = some x) (hk : K v h n) : CG n h' n' v K :=
 .inr ⟨0, v, h, rfl, hc, fun o x e => ⟨hh o x e, hs o x e⟩, hk⟩
abbrev swp := FS Bl.plain
abbrev TY (k sz b : Nat) (ag : Option Bool) (sl : Option TypeId) (ar : Option (Nat × TypeId)) (mp : Option (TypeId × TypeId)) (st : Bool) (i : Option IntKind) (bo pt : Bool) (ze : SV) : Prop :=
 Bb Tryz.prog k = sz ∧ Bj Tryz.prog k = b ∧ Fo Tryz.prog k = ag ∧ BA Tryz.prog k = sl ∧ In Tryz.prog k = ar ∧ Ke Tryz.prog k = mp ∧ Ep Tryz.prog k = st ∧ Kd Tryz.prog k = i ∧ Lq Tryz.prog k = bo ∧ SF Tryz.prog k = pt ∧ BN Tryz.prog k = ze
abbrev TF (k i o t : Nat) : Prop := H0 Tryz.prog k i = some (o, t)
@[go_sem] theorem ty3 : TY 3 1 8 (some false) none none none false (some .i64) false false (.int .i64 0) := by (repeat' apply And.intro) <;> kernel_rfl
@[go_sem] theorem ty4 : TY 4 1 1 (some false) none none none false none true false (.bool false) := by (repeat' apply And.intro) <;> kernel_rfl
@[go_sem] theorem ty5 : TY 5 1 1 (some false) none none none false (some .u8) false false (.int .u8 0) := by (repeat' apply And.intro) <;> kernel_rfl
@[go_sem] theorem ty9 : TY 9 1 16 (some false) none none none true none false false (.str .empty) := by (repeat' apply And.intro) <;> kernel_rfl
@[go_sem] theorem ty22 : TY 22 1 24 (some false) (some 70) none none false none false false (.imm 0 [] true) := by (repeat' apply And.intro) <;> kernel_rfl
@[go_sem] theorem ty23 : TY 23 1 24 (some false) (some 193) none none false none false false (.imm 0 [] true) := by (repeat' apply And.intro) <;> kernel_rfl
@[go_sem] theorem ty24 : TY 24 1 24 (some false) (some 166) none none false none false false (.imm 0 [] true) := by (repeat' apply And.intro) <;> kernel_rfl
@[go_sem] theorem ty25 : TY 25 1 24 (some false) (some 164) none none false none false false (.imm 0 [] true) := by (repeat' apply And.intro) <;> kernel_rfl
@[go_sem] theorem ty27 : TY 27 4 64 (some true) none none none false none false false (.agg [.int .i64 0, .int .i64 0, .imm 0 [] true, .imm 0 [] true]) ∧ BR Tryz.prog 27 = some [(0, 1), (1, 1), (2, 1), (3, 1)] ∧ TF 27 0 0 3 ∧ TF 27 1 1 3 ∧ TF 27 2 2 24 ∧ TF 27 3 3 25 := by (repeat' first | apply And.intro | unfold TF) <;> kernel_rfl
@[go_sem] theorem ty29 : TY 29 5 88 (some true) none none none false none false false (.agg [.imm 0 [] true, .int .i64 0, .int .i64 0, .imm 0 [] true, .imm 0 [] true]) ∧ BR Tryz.prog 29 = some [(0, 1), (1, 4)] ∧ TF 29 0 0 23 ∧ TF 29 1 1 27 := by (repeat' first | apply And.intro | unfold TF) <;> kernel_rfl
@[go_sem] theorem ty30 : TY 30 1 24 (some false) (some 42) none none false none false false (.imm 0 [] true) := by (repeat' apply And.intro) <;> kernel_rfl
@[go_sem] theorem ty31 : TY 31 1 24 (some false) (some 198) none none false none false false (.imm 0 [] true) := by (repeat' apply And.intro) <;> kernel_rfl
@[go_sem] theorem ty32 : TY 32 1 24 (some false) (some 103) none none false none false false (.imm 0 [] true) := by (repeat' apply And.intro) <;> kernel_rfl
@[go_sem] theorem ty33 : TY 33 1 24 (some false) (some 115) none none false none false false (.imm 0 [] true) := by (repeat' apply And.intro) <;> kernel_rfl
@[go_sem] theorem ty34 : TY 34 1 24 (some false) (some 118) none none false none false false (.imm 0 [] true) := by (repeat' apply And.intro) <;> kernel_rfl
@[go_sem] theorem ty36 : TY 36 4 96 (some true) none none none false none false false (.agg [.imm 0 [] true, .imm 0 [] true, .imm 0 [] true, .imm 0 [] true]) ∧ BR Tryz.prog 36 = some [(0, 1), (1, 1), (2, 1), (3, 1)] ∧ TF 36 0 0 31 ∧ TF 36 1 1 32 ∧ TF 36 2 2 33 ∧ TF 36 3 3 34 := by (repeat' first | apply And.intro | unfold TF) <;> kernel_rfl
@[go_sem] theorem ty38 : TY 38 11 232 (some true) none none none false none false false (.agg [.imm 0 [] true, .imm 0 [] true, .int .i64 0, .int .i64 0, .imm 0 [] true, .imm 0 [] true, .imm 0 [] true, .imm 0 [] true, .imm 0 [] true, .imm 0 [] true, .imm 0 [] true]) ∧ BR Tryz.prog 38 = some [(0, 1), (1, 5), (6, 1), (7, 4)] ∧ TF 38 0 0 22 ∧ TF 38 1 1 29 ∧ TF 38 2 6 30 ∧ TF 38 3 7 36 := by (repeat' first | apply And.intro | unfold TF) <;> kernel_rfl
@[go_sem] theorem ty40 : TY 40 3 24 (some true) none none none false none false false (.agg [.int .i64 0, .int .i64 0, .int .i64 0]) ∧ BR Tryz.prog 40 = some [(0, 1), (1, 1), (2, 1)] ∧ TF 40 0 0 3 ∧ TF 40 1 1 3 ∧ TF 40 2 2 3 := by (repeat' first | apply And.intro | unfold TF) <;> kernel_rfl
@[go_sem] theorem ty42 : TY 42 3 32 (some true) none none none false none false false (.agg [.int .i64 0, .str .empty, .int .i64 0]) ∧ BR Tryz.prog 42 = some [(0, 1), (1, 1), (2, 1)] ∧ TF 42 0 0 3 ∧ TF 42 1 1 9 ∧ TF 42 2 2 3 := by (repeat' first | apply And.intro | unfold TF) <;> kernel_rfl
@[go_sem] theorem ty44 : TY 44 7 64 (some true) none none none false none false false (.agg [.int .i64 0, .int .i64 0, .int .i64 0, .int .i64 0, .int .i64 0, .str .empty, .int .i64 0]) ∧ BR Tryz.prog 44 = some [(0, 1), (1, 3), (4, 3)] ∧ TF 44 0 0 3 ∧ TF 44 1 1 40 ∧ TF 44 2 4 42 := by (repeat' first | apply And.intro | unfold TF) <;> kernel_rfl
@[go_sem] theorem ty47 : TY 47 1 8 (some false) none none none false (some .i64) false false (.int .i64 0) := by (repeat' apply And.intro) <;> kernel_rfl
@[go_sem] theorem ty61 : TY 61 1 24 (some false) (some 3) none none false none false false (.imm 0 [] true) := by (repeat' apply And.intro) <;> kernel_rfl
@[go_sem] theorem ty68 : TY 68 1 24 (some false) (some 169) none none false none false false (.imm 0 [] true) := by (repeat' apply And.intro) <;> kernel_rfl
@[go_sem] theorem ty70 : TY 70 11 176 (some true) none none none false none false false (.agg [.int .i64 0, .int .i64 0, .int .i64 0, .str .empty, .imm 0 [] true, .int .i64 0, .int .i64 0, .imm 0 [] true, .imm 0 [] true, .imm 0 [] true, .imm 0 [] true]) ∧ BR Tryz.prog 70 = some [(0, 1), (1, 1), (2, 1), (3, 1), (4, 5), (9, 1), (10, 1)] ∧ TF 70 0 0 3 ∧ TF 70 1 1 3 ∧ TF 70 2 2 3 ∧ TF 70 3 3 9 ∧ TF 70 4 4 29 ∧ TF 70 5 9 22 ∧ TF 70 6 10 68 := by (repeat' first | apply And.intro | unfold TF) <;> kernel_rfl
@[go_sem] theorem ty72 : TY 72 1 8 (some false) none none none false none false true .nilp := by (repeat' apply And.intro) <;> kernel_rfl
@[go_sem] theorem ty79 : TY 79 7 104 (some true) none none none false none false false (.agg [.imm 0 [] true, .int .i64 0, .int .i64 0, .imm 0 [] true, .imm 0 [] true, .bool false, .int .i64 0]) ∧ BR Tryz.prog 79 = some [(0, 5), (5, 1), (6, 1)] ∧ TF 79 0 0 29 ∧ TF 79 1 5 4 ∧ TF 79 2 6 3 := by (repeat' first | apply And.intro | unfold TF) <;> kernel_rfl
@[go_sem] theorem ty81 : TY 81 1 8 (some false) none none none false none false false .nilf := by (repeat' apply And.intro) <;> kernel_rfl
@[go_sem] theorem ty85 : TY 85 1 8 (some false) none none (some (89, 90)) false none false false .nilm := by (repeat' apply And.intro) <;> kernel_rfl
@[go_sem] theorem ty86 : TY 86 1 24 (some false) (some 89) none none false none false false (.imm 0 [] true) := by (repeat' apply And.intro) <;> kernel_rfl
@[go_sem] theorem ty89 : TY 89 2 16 (some true) none none none false none false false (.agg [.int .i64 0, .int .i64 0]) ∧ BR Tryz.prog 89 = some [(0, 1), (1, 1)] ∧ TF 89 0 0 3 ∧ TF 89 1 1 3 := by (repeat' first | apply And.intro | unfold TF) <;> kernel_rfl
@[go_sem] theorem ty90 : TY 90 2 2 (some true) none (some (2, 4)) none false none false false (.agg [.bool false, .bool false]) ∧ BR Tryz.prog 90 = some [(0, 1), (1, 1)] := by (repeat' apply And.intro) <;> kernel_rfl
@[go_sem] theorem ty94 : TY 94 1 8 (some false) none none none false none false false .nilf := by (repeat' apply And.intro) <;> kernel_rfl
@[go_sem] theorem ty96 : TY 96 1 8 (some false) none none none false none false false .nilf := by (repeat' apply And.intro) <;> kernel_rfl
@[go_sem] theorem ty101 : TY 101 1 24 (some false) (some 106) none none false none false false (.imm 0 [] true) := by (repeat' apply And.intro) <;> kernel_rfl
@[go_sem] theorem ty103 : TY 103 2 32 (some true) none none none false none false false (.agg [.int .i64 0, .imm 0 [] true]) ∧ BR Tryz.prog 103 = some [(0, 1), (1, 1)] ∧ TF 103 0 0 3 ∧ TF 103 1 1 101 := by (repeat' first | apply And.intro | unfold TF) <;> kernel_rfl
@[go_sem] theorem ty106 : TY 106 4 40 (some true) none none none false none false false (.agg [.int .i64 0, .int .i64 0, .str .empty, .int .i64 0]) ∧ BR Tryz.prog 106 = some [(0, 1), (1, 1), (2, 1), (3, 1)] ∧ TF 106 0 0 3 ∧ TF 106 1 1 3 ∧ TF 106 2 2 9 ∧ TF 106 3 3 3 := by (repeat' first | apply And.intro | unfold TF) <;> kernel_rfl
@[go_sem] theorem ty107 : TY 107 1 8 (some false) none none none false none false false .nilf := by (repeat' apply And.intro) <;> kernel_rfl
@[go_sem] theorem ty115 : TY 115 6 64 (some true) none none none false none false false (.agg [.int .i64 0, .int .i64 0, .str .empty, .int .i64 0, .str .empty, .bool false]) ∧ BR Tryz.prog 115 = some [(0, 1), (1, 1), (2, 1), (3, 1), (4, 1), (5, 1)] ∧ TF 115 0 0 3 ∧ TF 115 1 1 3 ∧ TF 115 2 2 9 ∧ TF 115 3 3 3 ∧ TF 115 4 4 9 ∧ TF 115 5 5 4 := by (repeat' first | apply And.intro | unfold TF) <;> kernel_rfl
@[go_sem] theorem ty118 : TY 118 2 32 (some true) none none none false none false false (.agg [.str .empty, .str .empty]) ∧ BR Tryz.prog 118 = some [(0, 1), (1, 1)] ∧ TF 118 0 0 9 ∧ TF 118 1 1 9 := by (repeat' first | apply And.intro | unfold TF) <;> kernel_rfl
@[go_sem] theorem ty130 : TY 130 1 8 (some false) none none none false none false false .nilf := by (repeat' apply And.intro) <;> kernel_rfl
@[go_sem] theorem ty134 : TY 134 1 8 (some false) none none none false none false true .nilp := by (repeat' apply And.intro) <;> kernel_rfl
@[go_sem] theorem ty140 : TY 140 3 16 (some true) none none none false none false false (.agg [.bool false, .bool false, .int .i64 0]) ∧ BR Tryz.prog 140 = some [(0, 1), (1, 1), (2, 1)] ∧ TF 140 0 0 4 ∧ TF 140 1 1 4 ∧ TF 140 2 2 3 := by (repeat' first | apply And.intro | unfold TF) <;> kernel_rfl
@[go_sem] theorem ty141 : TY 141 1 8 (some false) none none (some (3, 3)) false none false false .nilm := by (repeat' apply And.intro) <;> kernel_rfl
@[go_sem] theorem ty142 : TY 142 1 8 (some false) none none (some (3, 4)) false none false false .nilm := by (repeat' apply And.intro) <;> kernel_rfl
@[go_sem] theorem ty144 : TY 144 6 48 (some true) none none none false none false false (.agg [.nilm, .nilm, .nilm, .nilm, .nilm, .int .i64 0]) ∧ BR Tryz.prog 144 = some [(0, 1), (1, 1), (2, 1), (3, 1), (4, 1), (5, 1)] ∧ TF 144 0 0 141 ∧ TF 144 1 1 142 ∧ TF 144 2 2 142 ∧ TF 144 3 3 142 ∧ TF 144 4 4 142 ∧ TF 144 5 5 3 := by (repeat' first | apply And.intro | unfold TF) <;> kernel_rfl
@[go_sem] theorem ty146 : TY 146 1 8 (some false) none none none false none false false .nilf := by (repeat' apply And.intro) <;> kernel_rfl
@[go_sem] theorem ty147 : TY 147 1 24 (some false) (some 3) none none false none false false (.imm 0 [] true) := by (repeat' apply And.intro) <;> kernel_rfl
@[go_sem] theorem ty150 : TY 150 1 8 (some false) none none none false none false false .nilf := by (repeat' apply And.intro) <;> kernel_rfl
@[go_sem] theorem ty154 : TY 154 1 8 (some false) none none none false none false false .nilf := by (repeat' apply And.intro) <;> kernel_rfl
@[go_sem] theorem ty155 : TY 155 1 8 (some false) none none (some (89, 3)) false none false false .nilm := by (repeat' apply And.intro) <;> kernel_rfl
@[go_sem] theorem ty159 : TY 159 1 24 (some false) (some 239) none none false none false false (.imm 0 [] true) := by (repeat' apply And.intro) <;> kernel_rfl
@[go_sem] theorem ty164 : TY 164 4 32 (some true) none none none false none false false (.agg [.int .i64 0, .int .i64 0, .int .i64 0, .bool false]) ∧ BR Tryz.prog 164 = some [(0, 1), (1, 1), (2, 1), (3, 1)] ∧ TF 164 0 0 3 ∧ TF 164 1 1 3 ∧ TF 164 2 2 3 ∧ TF 164 3 3 4 := by (repeat' first | apply And.intro | unfold TF) <;> kernel_rfl
@[go_sem] theorem ty166 : TY 166 2 16 (some true) none none none false none false false (.agg [.int .i64 0, .int .i64 0]) ∧ BR Tryz.prog 166 = some [(0, 1), (1, 1)] ∧ TF 166 0 0 3 ∧ TF 166 1 1 3 := by (repeat' first | apply And.intro | unfold TF) <;> kernel_rfl
@[go_sem] theorem ty167 : TY 167 1 24 (some false) (some 171) none none false none false false (.imm 0 [] true) := by (repeat' apply And.intro) <;> kernel_rfl
@[go_sem] theorem ty169 : TY 169 6 112 (some true) none none none false none false false (.agg [.imm 0 [] true, .int .i64 0, .int .i64 0, .imm 0 [] true, .imm 0 [] true, .imm 0 [] true]) ∧ BR Tryz.prog 169 = some [(0, 5), (5, 1)] ∧ TF 169 0 0 29 ∧ TF 169 1 5 167 := by (repeat' first | apply And.intro | unfold TF) <;> kernel_rfl
@[go_sem] theorem ty171 : TY 171 7 120 (some true) none none none false none false false (.agg [.int .i64 0, .imm 0 [] true, .int .i64 0, .int .i64 0, .imm 0 [] true, .imm 0 [] true, .imm 0 [] true]) ∧ BR Tryz.prog 171 = some [(0, 1), (1, 5), (6, 1)] ∧ TF 171 0 0 3 ∧ TF 171 1 1 29 ∧ TF 171 2 6 22 := by (repeat' first | apply And.intro | unfold TF) <;> kernel_rfl
@[go_sem] theorem ty176 : TY 176 4 40 (some true) none none none false none false false (.agg [.imm 0 [] true, .bool false, .bool false, .int .i64 0]) ∧ BR Tryz.prog 176 = some [(0, 1), (1, 3)] ∧ TF 176 0 0 22 ∧ TF 176 1 1 140 := by (repeat' first | apply And.intro | unfold TF) <;> kernel_rfl
@[go_sem] theorem ty179 : TY 179 1 8 (some false) none none none false none false false .nilf := by (repeat' apply And.intro) <;> kernel_rfl
@[go_sem] theorem ty186 : TY 186 1 8 (some false) none none none false none false false .nilf := by (repeat' apply And.intro) <;> kernel_rfl
@[go_sem] theorem ty190 : TY 190 1 8 (some false) none none none false none false false .nilf := by (repeat' apply And.intro) <;> kernel_rfl
@[go_sem] theorem ty193 : TY 193 2 16 (some true) none none none false none false false (.agg [.int .i64 0, .int .i64 0]) ∧ BR Tryz.prog 193 = some [(0, 1), (1, 1)] ∧ TF 193 0 0 3 ∧ TF 193 1 1 3 := by (repeat' first | apply And.intro | unfold TF) <;> kernel_rfl
@[go_sem] theorem ty198 : TY 198 6 72 (some true) none none none false none false false (.agg [.int .i64 0, .int .i64 0, .str .empty, .int .i64 0, .int .i64 0, .imm 0 [] true]) ∧ BR Tryz.prog 198 = some [(0, 1), (1, 1), (2, 1), (3, 1), (4, 1), (5, 1)] ∧ TF 198 0 0 3 ∧ TF 198 1 1 3 ∧ TF 198 2 2 9 ∧ TF 198 3 3 3 ∧ TF 198 4 4 3 ∧ TF 198 5 5 23 := by (repeat' first | apply And.intro | unfold TF) <;> kernel_rfl
@[go_sem] theorem ty199 : TY 199 1 8 (some false) none none none false none false false .nilf := by (repeat' apply And.intro) <;> kernel_rfl
@[go_sem] theorem ty201 : TY 201 1 8 (some false) none none none false none false false .nilf := by (repeat' apply And.intro) <;> kernel_rfl
@[go_sem] theorem ty204 : TY 204 1 8 (some false) none none none false none false false .nilf := by (repeat' apply And.intro) <;> kernel_rfl
@[go_sem] theorem ty205 : TY 205 1 8 (some false) none none none false none false false .nilf := by (repeat' apply And.intro) <;> kernel_rfl
@[go_sem] theorem ty206 : TY 206 1 8 (some false) none none none false none false false .nilf := by (repeat' apply And.intro) <;> kernel_rfl
@[go_sem] theorem ty210 : TY 210 1 8 (some false) none none none false none false false .nilf := by (repeat' apply And.intro) <;> kernel_rfl
@[go_sem] theorem ty213 : TY 213 1 8 (some false) none none none false (some .u64) false false (.int .u64 0) := by (repeat' apply And.intro) <;> kernel_rfl
@[go_sem] theorem ty218 : TY 218 2 48 (some true) none none none false none false false (.agg [.imm 0 [] true, .imm 0 [] true]) ∧ BR Tryz.prog 218 = some [(0, 1), (1, 1)] ∧ TF 218 0 0 61 ∧ TF 218 1 1 61 := by (repeat' first | apply And.intro | unfold TF) <;> kernel_rfl
@[go_sem] theorem ty219 : TY 219 1 24 (some false) (some 47) none none false none false false (.imm 0 [] true) := by (repeat' apply And.intro) <;> kernel_rfl
@[go_sem] theorem ty226 : TY 226 1 8 (some false) none none none false none false false .nilf := by (repeat' apply And.intro) <;> kernel_rfl
@[go_sem] theorem ty228 : TY 228 1 8 (some false) none none none false none false false .nilf := by (repeat' apply And.intro) <;> kernel_rfl
@[go_sem] theorem ty239 : TY 239 2 16 (some true) none (some (2, 3)) none false none false false (.agg [.int .i64 0, .int .i64 0]) ∧ BR Tryz.prog 239 = some [(0, 1), (1, 1)] := by (repeat' apply And.intro) <;> kernel_rfl
@[go_sem] theorem ty243 : TY 243 1 8 (some false) none none none false none false false .nilf := by (repeat' apply And.intro) <;> kernel_rfl
@[go_sem] theorem ty259 : TY 259 1 8 (some false) none none none false none false false .nilf := by (repeat' apply And.intro) <;> kernel_rfl
@[go_sem] theorem ty262 : TY 262 1 8 (some false) none none none false none false false .nilf := by (repeat' apply And.intro) <;> kernel_rfl
@[go_sem] theorem ty278 : TY 278 1 8 (some false) none none none false none false false .nilf := by (repeat' apply And.intro) <;> kernel_rfl
@[go_sem] theorem ty282 : TY 282 1 8 (some false) none none none false none false false .nilf := by (repeat' apply And.intro) <;> kernel_rfl
@[go_sem] theorem ty285 : TY 285 1 8 (some false) none none none false none false false .nilf := by (repeat' apply And.intro) <;> kernel_rfl
@[go_sem] theorem ty289 : TY 289 1 24 (some false) (some 291) none none false none false false (.imm 0 [] true) := by (repeat' apply And.intro) <;> kernel_rfl
@[go_sem] theorem ty291 : TY 291 2 16 (some true) none none none false none false false (.agg [.int .i64 0, .bool false]) ∧ BR Tryz.prog 291 = some [(0, 1), (1, 1)] ∧ TF 291 0 0 3 ∧ TF 291 1 1 4 := by (repeat' first | apply And.intro | unfold TF) <;> kernel_rfl
@[go_sem] theorem ty299 : TY 299 1 8 (some false) none none none false (some .i64) false false (.int .i64 0) := by (repeat' apply And.intro) <;> kernel_rfl
@[go_sem] theorem ty306 : TY 306 1 4 (some false) none none none false (some .u32) false false (.int .u32 0) := by (repeat' apply And.intro) <;> kernel_rfl
@[go_sem] theorem ty308 : TY 308 1 8 (some false) none none none false (some .u64) false false (.int .u64 0) := by (repeat' apply And.intro) <;> kernel_rfl
@[go_sem] theorem ty309 : TY 309 1 8 (some false) none none none false none false false .nilf := by (repeat' apply And.intro) <;> kernel_rfl
@[go_sem] theorem ty311 : TY 311 1 24 (some false) (some 61) none none false none false false (.imm 0 [] true) := by (repeat' apply And.intro) <;> kernel_rfl
@[go_sem] theorem ty319 : TY 319 1 24 (some false) (some 22) none none false none false false (.imm 0 [] true) := by (repeat' apply And.intro) <;> kernel_rfl
@[go_sem] theorem ty323 : TY 323 1 8 (some false) none none none false none false false .nilf := by (repeat' apply And.intro) <;> kernel_rfl
@[go_sem] theorem ty329 : TY 329 1 8 (some false) none none none false none false false .nilf := by (repeat' apply And.intro) <;> kernel_rfl
@[go_sem] theorem ty333 : TY 333 6 56 (some true) none none none false none false false (.agg [.int .i64 0, .int .i64 0, .int .i64 0, .int .i64 0, .int .i64 0, .str .empty]) ∧ BR Tryz.prog 333 = some [(0, 1), (1, 1), (2, 1), (3, 1), (4, 1), (5, 1)] ∧ TF 333 0 0 3 ∧ TF 333 1 1 3 ∧ TF 333 2 2 3 ∧ TF 333 3 3 3 ∧ TF 333 4 4 3 ∧ TF 333 5 5 9 := by (repeat' first | apply And.intro | unfold TF) <;> kernel_rfl
@[go_sem] theorem ty342 : TY 342 1 8 (some false) none none none false (some .u64) false false (.int .u64 0) := by (repeat' apply And.intro) <;> kernel_rfl
@[go_sem] theorem ty361 : TY 361 1 24 (some false) (some 366) none none false none false false (.imm 0 [] true) := by (repeat' apply And.intro) <;> kernel_rfl
@[go_sem] theorem ty366 : TY 366 3 32 (some true) none none none false none false false (.agg [.str .empty, .int .i64 0, .bool false]) ∧ BR Tryz.prog 366 = some [(0, 1), (1, 1), (2, 1)] ∧ TF 366 0 0 9 ∧ TF 366 1 1 3 ∧ TF 366 2 2 4 := by (repeat' first | apply And.intro | unfold TF) <;> kernel_rfl
@[go_sem] theorem ty367 : TY 367 1 8 (some false) none none none false none false false .nilf := by (repeat' apply And.intro) <;> kernel_rfl
@[go_sem] theorem ty368 : TY 368 1 24 (some false) (some 333) none none false none false false (.imm 0 [] true) := by (repeat' apply And.intro) <;> kernel_rfl
@[go_sem] theorem ty371 : TY 371 1 8 (some false) none none none false none false false .nilf := by (repeat' apply And.intro) <;> kernel_rfl
@[go_sem] theorem ty381 : TY 381 1 24 (some false) (some 5) none none false none false false (.imm 0 [] true) := by (repeat' apply And.intro) <;> kernel_rfl
@[go_sem] theorem ty382 : TY 382 1 8 (some false) none none none false none false false .nilf := by (repeat' apply And.intro) <;> kernel_rfl
@[go_sem] theorem ty383 : TY 383 1 8 (some false) none none none false none false true .nilp := by (repeat' apply And.intro) <;> kernel_rfl
@[go_sem] theorem ty384 : TY 384 1 8 (some false) none none none false none false true .nilp := by (repeat' apply And.intro) <;> kernel_rfl
@[go_sem] theorem ty386 : TY 386 2 32 (some true) none none none false none false false (.agg [.nilp, .imm 0 [] true]) ∧ BR Tryz.prog 386 = some [(0, 1), (1, 1)] ∧ TF 386 0 0 384 ∧ TF 386 1 1 381 := by (repeat' first | apply And.intro | unfold TF) <;> kernel_rfl
@[go_sem] theorem ty388 : TY 388 7 96 (some true) none none none false none false false (.agg [.str .empty, .int .i64 0, .nilp, .imm 0 [] true, .imm 0 [] true, .int .i64 0, .int .i64 0]) ∧ BR Tryz.prog 388 = some [(0, 1), (1, 1), (2, 2), (4, 1), (5, 1), (6, 1)] ∧ TF 388 0 0 9 ∧ TF 388 1 1 3 ∧ TF 388 2 2 386 ∧ TF 388 3 4 361 ∧ TF 388 4 5 3 ∧ TF 388 5 6 47 := by (repeat' first | apply And.intro | unfold TF) <;> kernel_rfl
@[go_sem] theorem ty391 : TY 391 1 8 (some false) none none none false none false false .nilf := by (repeat' apply And.intro) <;> kernel_rfl
@[go_sem] theorem ty403 : TY 403 1 8 (some false) none none none false none false false .nilp := by (repeat' apply And.intro) <;> kernel_rfl
@[go_sem] theorem ty405 : TY 405 1 8 (some false) none none none false none false true .nilp := by (repeat' apply And.intro) <;> kernel_rfl
attribute [go_sem] II KS ND DI Cf EE GW Ai De EH callee ofValue Gh O5 Bi Fk I4 Jo Ni SZ isNil Gf Cq Fc flat F7 J6 N4 K4 Rj Ri JE Nh Gb Ge SN Nb KH DC.app E4
 SV.cells SV.storable
section
variable (P : Program) (h : Hp) (n : Nat) (t t2 : TypeId)
@[go_sem] theorem bi_len (x : SV) : AZ P h n .len [t] [x] = match x with
 | .str s => if Ep P t then EE (.int .i64 s.size) else none
 | .imm _ es _ => if (BA P t).isSome then EE (.int .i64 es.length) else none
 | .sl _ _ _ len _ => if (BA P t).isSome then EE (.int .i64 len) else none
 | .map o => match h o with | some (.map es) => if (Ke P t).isSome then EE (.int .i64 es.length) else none | _ => none
 | _ => none := by cases x <;> rfl
@[go_sem] theorem bi_cap (x : SV) : AZ P h n .cap [t] [x] = match x with
 | .imm _ es true => if (BA P t).isSome then EE (.int .i64 es.length) else none
 | .sl _ _ _ len true => if (BA P t).isSome then EE (.int .i64 len) else none
 | _ => none := by cases x <;> rfl
@[go_sem] theorem bi_copy (d x : SV) : AZ P h n .copy [t, t2] [d, x] = N4 P h t d x := rfl
@[go_sem] theorem bi_clear (d : SV) : AZ P h n .clear [t] [d] = K4 P h t d := rfl
@[go_sem] theorem bi_min (ts : List TypeId) (l : List SV) : AZ P h n .min ts l = (Rj l).bind EE := by simp [AZ]
@[go_sem] theorem bi_max (ts : List TypeId) (l : List SV) : AZ P h n .max ts l = (Ri l).bind EE := by simp [AZ]
@[go_sem] theorem bi_delete (o : Nat) (k : SV) : AZ P h n .delete [t, t2] [.map o, k] = match Ke P t, h o with
 | some (kt, _), some (.map es) =>
  if !CD P kt k then none else
  match Cq k es 0 with
  | some (some (i, _)) => some { val := .tup [], upd := some (o, some (.map (es.eraseIdx i))) }
  | some none => some { val := .tup [], upd := some (o, some (.map es)) }
  | none => none
 | _, _ => none := rfl
end
theorem follows : Proofs.Tryz.prog.follows .mixedOrders = true := by kernel_rfl
section
variable {E : Bl} {P : Program} {N : Nat}
end
attribute [simp] Fz.same
theorem Fz.any {h h2 : Hp} : ∀ (k : Nat) {v r : SV}, Fz (fun _ => none) (fun _ => none) k v r → Fz h h2 k v r
 | 0, _, _, H => H
 | k + 1, v, r, H => by
  have ih : ∀ {us bs : List SV}, AQ (Fz (fun _ => none) (fun _ => none) k) us bs → AQ (Fz h h2 k) us bs := fun H => H.mono fun _ _ => Fz.any k
  rcases H with H | H
  · exact .inl H
  · refine .inr ?_
    split at H
    · trivial
    · obtain ⟨_, _, _, _, _, _, h1, _⟩ := H; cases h1
    · obtain ⟨_, _, h1, _⟩ := H; cases h1
    · exact ih H
    · exact ih H
    · exact ⟨H.1, ih H.2.1, ih H.2.2⟩
    · exact ih H
    · exact ⟨H.1, H.2.1, ih H.2.2.1, H.2.2.2⟩
    · exact H
    · exact H.elim
section
variable {E : Bl} {P : Program} {N : Nat}
theorem FR.fz {sa sb : SA} {h h2 : Hp} {c : Cx} {a : Act} (k : Nat) (R : Bq h c) (hs : ∀ o x, h2 o = some x → h o = some x) (A : FR E N sa c a) (hw : ∀ p ∈ sb, Fz h h2 k (Ai sa p.1) p.2) : FR E N sb (c.less h2) a := by
 refine ⟨A.size, A.defers.mono (C0 R hs), fun t => ?_⟩
 have key : ∀ l : SA, (∀ p ∈ l, Fz h h2 k (Ai sa p.1) p.2) → Ai l t = .junk ∨ Fz h h2 k (Ai sa t) (Ai l t) := by
  intro l
  induction l with
  | nil => intro _; exact .inl rfl
  | cons p l ih =>
   intro hl
   obtain ⟨j, x⟩ := p
   simp only [Ai]
   by_cases e : j = t
   · subst e; simp only [if_true]; exact .inr (hl (j, x) (by simp))
   · simp only [e, if_false]; exact ih fun q hq => hl q (by simp [hq])
 rcases key sb hw with e | e
 · rw [e]; simp [V]
 · exact Fz.sound R hs k e (A.val t)
theorem Mz {code : Code} {Q : CZ} {sa sb : SA} {h h2 : Hp} {n m : Nat} (k : Nat) (hs : ∀ o x, h2 o = some x → h o = some x) (hm : n ≤ m) (hw : ∀ p ∈ sb, Fz h h2 k (Ai sa p.1) p.2) (H : HQ E P N code Q sb h2 m) : HQ E P N code Q sa h n := by
 intro hd c a I R F A
 have F' : Fr m (c.less h2) := fun j hj => F j (Nat.le_trans hm hj)
 refine wpIn_mono (H hd (c.less h2) a (E.ext (C0 R hs) I) (R.less hs) F' (A.fz k R hs hw)) ?_
 rintro e a' w' ⟨sa', h', n', c', q, hw, R', Fr', A', X⟩
 refine ⟨sa', h', n', c', q, hw, R', Fr', A', ⟨(C0 R hs).trans X.ext, Nat.le_trans hm X.le, fun j hj => ?_⟩⟩
 exact X.same j (Nat.lt_of_lt_of_le hj hm)
theorem Ag.fz {f : FuncId} {us bs : List SV} {h h2 : Hp} {n : Nat} {K : SV → Hp → Nat → Prop} (k : Nat) (hs : ∀ o x, h2 o = some x → h o = some x) (hw : AQ (Fz h h2 k) us bs) (H : Ag E P f bs h2 n K) : Ag E P f us h n K := by
 refine ⟨H.1, fun c vs I R F A => ?_⟩
 have A' : AQ (V (c.less h2)) bs vs := AQ.trans3 (R := V c) (S := Fz h h2 k) (T := V (c.less h2)) (fun a b g h1 h2 => Fz.sound R hs k h2 h1) A hw
 refine (H.2 (c.less h2) vs (E.ext (C0 R hs) I) (R.less hs) F A').mono ?_
 rintro e w' ⟨u, v, h', n', c', he, q, hw, hv, R', F', X⟩
 exact ⟨u, v, h', n', c', he, q, hw, hv, R', F', ⟨(C0 R hs).trans X.ext, X.le, X.same⟩⟩
theorem Fa.wk {f : FuncId} {us bs : List SV} {v : SV} (k : Nat) (H : Fa P f bs v) (hw : AQ (Fz (fun _ => none) (fun _ => none) k) us bs) : Fa P f us v := fun h n =>
 Ag.fz k (fun _ _ e => e) (hw.mono fun _ _ => Fz.any k) (H h n)
mutual
def Du : SV → Bool
 | .bool _ | .int _ _ | .str _ | .nilp | .nilf | .nilm | .junk => true
 | .agg cs => LZ cs
 | .tup cs => LZ cs
 | _ => false
def LZ : List SV → Bool
 | [] => true
 | s :: ss => Du s && LZ ss
end
mutual
theorem V.plain {c c' : Cx} : ∀ {s : SV} {v : Value}, Du s = true → V c s v → V c' s v
 | .bool _, _, _, h => h
 | .int _ _, _, _, h => h
 | .str _, _, _, h => h
 | .nilp, _, _, h => h
 | .nilf, _, _, h => h
 | .nilm, _, _, h => h
 | .junk, _, _, _ => trivial
 | .agg cs, v, hp, h => by rw [V] at *; rw [Du] at hp; obtain ⟨vs, e, hl, ho⟩ := h; exact ⟨vs, e, VL.plain hp hl, ho⟩
 | .tup cs, v, hp, h => by rw [V] at *; rw [Du] at hp; obtain ⟨vs, e, hl⟩ := h; exact ⟨vs, e, VL.plain hp hl⟩
 | .fn _ _ _, _, hp, _ => by simp [Du] at hp
 | .ptr _ _, _, hp, _ => by simp [Du] at hp
 | .iptr _, _, hp, _ => by simp [Du] at hp
 | .sl _ _ _ _ _, _, hp, _ => by simp [Du] at hp
 | .slc _ _ _ _ _, _, hp, _ => by simp [Du] at hp
 | .imm _ _ _, _, hp, _ => by simp [Du] at hp
 | .map _, _, hp, _ => by simp [Du] at hp
theorem VL.plain {c c' : Cx} : ∀ {s : List SV} {v : List Value}, LZ s = true → VL c s v → VL c' s v
 | [], _, _, h => by rw [VL] at *; exact h
 | s :: ss, v, hp, h => by rw [VL] at *; rw [LZ, Bool.and_eq_true] at hp; obtain ⟨u, r, e, h1, h2⟩ := h; exact ⟨u, r, e, V.plain hp.1 h1, VL.plain hp.2 h2⟩
end
theorem Fa.lend {f : FuncId} {us bs : List SV} {v : SV} {h : Hp} {n : Nat} {K : SV → Hp → Nat → Prop} (k : Nat) (H : Fa P f bs v) (hv : Du v = true) (hw : AQ (Fz h (fun _ => none) k) us bs) (hk : K v h n) : Ag E P f us h n K := by
 refine ⟨(H h n).1, fun c vs _ R F A => ?_⟩
 have hs : ∀ o x, (fun _ => none : Hp) o = some x → h o = some x := fun _ _ e => by cases e
 have A' : AQ (V (c.less fun _ => none)) bs vs := AQ.trans3 (R := V c) (S := Fz h (fun _ => none) k) (T := V (c.less fun _ => none)) (fun a b g h1 h2 => Fz.sound R hs k h2 h1) A hw
 refine ((H (fun _ => none) n).2 (c.less fun _ => none) vs trivial (R.less hs) F A').mono ?_
 rintro e w' ⟨u, v', h', n', c', he, ⟨rfl, rfl, rfl⟩, rfl, hv', R', F', X0⟩
 have hno : ∀ b, ¬ (c.less fun _ => none).own b := fun b ⟨o, x, st, e, _⟩ => by cases e
 have hρ : ∀ j, c'.ρ j = c.ρ j := fun j => by
  rcases Nat.lt_or_ge j n' with hj | hj
  · exact X0.same j hj
  · rw [F' j hj, F j hj]
 have X : DV c { c with w := c'.w } := ⟨fun _ _ e => e, X0.ext.size, fun b hb ho => ⟨ho, (X0.ext.keep b hb (hno b)).2⟩, X0.ext.room, X0.ext.os, X0.ext.out⟩
 refine ⟨u, v', h, n', { c with w := c'.w }, he, hk, rfl, hv'.plain hv, ⟨fun o x ho => ?_, R.inj, R.own⟩, F, ⟨X, Nat.le_refl _, fun _ _ => rfl⟩⟩
 refine (R.obj o x ho).mono X fun b st hb => ?_
 obtain ⟨b', st', hb', hlt⟩ := (R.obj o x ho).block
 rw [hb] at hb'; cases hb'
 exact (X0.ext.keep b hlt (hno b)).2
theorem Fa.lendU {f : FuncId} {us bs : List SV} {v : SV} {h : Hp} (k : Nat) (foot : List Nat) (H : Fa P f bs v) (hv : Du v = true) (hw : ∀ h', (∀ j ∈ foot, h' j = h j) → AQ (Fz h' (fun _ => none) k) us bs) : Kv E P f us foot [] v h := fun h' _n hf =>
 Fa.lend k H hv (hw h' hf) ⟨rfl, rfl, rfl⟩
theorem Qx (hm : P.follows .mixedOrders = true) {x : Code} {Q : CZ} {sa : SA} {h : Hp} {n : Nat} {α : Type} (k : Nat) (fr : α → SA) (hp : α → Hp) (I : α → Nat → Prop) (μ : α → Nat) (a0 : α) (hI : I a0 n)
 (hfr : ∀ p ∈ fr a0, Fz h (hp a0) k (Ai sa p.1) p.2) (hhp : ∀ o y, hp a0 o = some y → h o = some y)
 (round : ∀ a n, I a n → FS E P N x (C7 (fun sa' h' n' => ∃ a', μ a' < μ a ∧ I a' n' ∧ (∀ p ∈ fr a', Fz h' (hp a') k (Ai sa' p.1) p.2) ∧ (∀ o y, hp a' o = some y → h' o = some y)) Q) (fr a) (hp a) n) :
 HQ E P N (.loop x) Q sa h n := by
 refine Nv (μ a0) (fun m sa h n => ∃ a, m = μ a ∧ I a n ∧ (∀ p ∈ fr a, Fz h (hp a) k (Ai sa p.1) p.2) ∧ (∀ o y, hp a o = some y → h o = some y)) ⟨a0, rfl, hI, hfr, hhp⟩ ?_
 rintro m sa h n ⟨a, rfl, hI, hfr, hhp⟩
 refine Mz k hhp (Nat.le_refl _) hfr (Fy (EX hm _ _ _ _ _ (round a n hI)) ?_)
 refine FA fun sa' h' n' ⟨a', h1, h2, h3, h4⟩ => ⟨μ a', h1, a', rfl, h2, h3, h4⟩
end
open Proofs
abbrev FN (f : Func) (n : Nat) (r : List ResultVar) : Prop := f.results.toList = r ∧ f.ntmps = n
@[go_sem] theorem fr4 : FN Tryz.f4 103 [.tmp 4] := ⟨rfl, rfl⟩
@[go_sem] theorem fr11 : FN Tryz.f11 60 [.tmp 0] := ⟨rfl, rfl⟩
@[go_sem] theorem fr12 : FN Tryz.f12 45 [.tmp 2] := ⟨rfl, rfl⟩
@[go_sem] theorem fr13 : FN Tryz.f13 60 [.cell 6 3, .cell 7 3, .tmp 8] := ⟨rfl, rfl⟩
@[go_sem] theorem fr15 : FN Tryz.f15 105 [.cell 8 38, .tmp 9] := ⟨rfl, rfl⟩
@[go_sem] theorem fr20 : FN Tryz.f20 38 [.cell 4 42, .tmp 5] := ⟨rfl, rfl⟩
@[go_sem] theorem fr21 : FN Tryz.f21 18 [.cell 2 38] := ⟨rfl, rfl⟩
@[go_sem] theorem fr24 : FN Tryz.f24 62 [.tmp 2] := ⟨rfl, rfl⟩
@[go_sem] theorem fr32 : FN Tryz.f32 9 [.cell 0 38] := ⟨rfl, rfl⟩
@[go_sem] theorem fr33 : FN Tryz.f33 133 [.tmp 6] := ⟨rfl, rfl⟩
@[go_sem] theorem fr34 : FN Tryz.f34 18 [.cell 4 22, .cell 5 4] := ⟨rfl, rfl⟩
@[go_sem] theorem fr35 : FN Tryz.f35 27 [.tmp 2, .tmp 3] := ⟨rfl, rfl⟩
@[go_sem] theorem fr36 : FN Tryz.f36 12 [] := ⟨rfl, rfl⟩
@[go_sem] theorem fr37 : FN Tryz.f37 22 [] := ⟨rfl, rfl⟩
@[go_sem] theorem fr38 : FN Tryz.f38 9 [.tmp 4] := ⟨rfl, rfl⟩
@[go_sem] theorem fr42 : FN Tryz.f42 35 [.tmp 2] := ⟨rfl, rfl⟩
@[go_sem] theorem fr43 : FN Tryz.f43 36 [] := ⟨rfl, rfl⟩
@[go_sem] theorem fr44 : FN Tryz.f44 41 [.tmp 2] := ⟨rfl, rfl⟩
@[go_sem] theorem fr45 : FN Tryz.f45 39 [.tmp 4, .tmp 5] := ⟨rfl, rfl⟩
@[go_sem] theorem fr46 : FN Tryz.f46 17 [.cell 4 29, .tmp 5] := ⟨rfl, rfl⟩
@[go_sem] theorem fr47 : FN Tryz.f47 90 [.cell 6 29] := ⟨rfl, rfl⟩
@[go_sem] theorem fr48 : FN Tryz.f48 7 [.tmp 3] := ⟨rfl, rfl⟩
@[go_sem] theorem fr49 : FN Tryz.f49 28 [.cell 8 38] := ⟨rfl, rfl⟩
@[go_sem] theorem fr58 : FN Tryz.f58 46 [.tmp 4] := ⟨rfl, rfl⟩
@[go_sem] theorem fr71 : FN Tryz.f71 37 [.tmp 2] := ⟨rfl, rfl⟩
@[go_sem] theorem fr72 : FN Tryz.f72 11 [.tmp 4, .tmp 5] := ⟨rfl, rfl⟩
@[go_sem] theorem fr73 : FN Tryz.f73 93 [.tmp 2] := ⟨rfl, rfl⟩
@[go_sem] theorem fr74 : FN Tryz.f74 19 [.tmp 2] := ⟨rfl, rfl⟩
@[go_sem] theorem fr75 : FN Tryz.f75 42 [.tmp 4] := ⟨rfl, rfl⟩
@[go_sem] theorem fr76 : FN Tryz.f76 8 [.tmp 2] := ⟨rfl, rfl⟩
@[go_sem] theorem fr77 : FN Tryz.f77 15 [.tmp 3] := ⟨rfl, rfl⟩
@[go_sem] theorem fr78 : FN Tryz.f78 54 [.tmp 4, .tmp 5] := ⟨rfl, rfl⟩
@[go_sem] theorem fr79 : FN Tryz.f79 16 [.cell 2 38] := ⟨rfl, rfl⟩
@[go_sem] theorem fr82 : FN Tryz.f82 15 [.tmp 2] := ⟨rfl, rfl⟩
@[go_sem] theorem fr83 : FN Tryz.f83 17 [.tmp 2] := ⟨rfl, rfl⟩
@[go_sem] theorem fr84 : FN Tryz.f84 14 [.tmp 2] := ⟨rfl, rfl⟩
@[go_sem] theorem fr85 : FN Tryz.f85 64 [.tmp 2] := ⟨rfl, rfl⟩
@[go_sem] theorem fr86 : FN Tryz.f86 121 [.tmp 6] := ⟨rfl, rfl⟩
@[go_sem] theorem fr87 : FN Tryz.f87 7 [.tmp 4] := ⟨rfl, rfl⟩
@[go_sem] theorem fr88 : FN Tryz.f88 11 [.tmp 6] := ⟨rfl, rfl⟩
@[go_sem] theorem fr100 : FN Tryz.f100 20 [.tmp 4] := ⟨rfl, rfl⟩
@[go_sem] theorem fr109 : FN Tryz.f109 7 [.tmp 2] := ⟨rfl, rfl⟩
@[go_sem] theorem fr110 : FN Tryz.f110 5 [.tmp 2] := ⟨rfl, rfl⟩
@[go_sem] theorem fr111 : FN Tryz.f111 12 [.tmp 2, .tmp 3] := ⟨rfl, rfl⟩
@[go_sem] theorem fr112 : FN Tryz.f112 10 [.cell 3 29, .tmp 4] := ⟨rfl, rfl⟩
@[go_sem] theorem fr113 : FN Tryz.f113 9 [.tmp 4] := ⟨rfl, rfl⟩
@[go_sem] theorem fr114 : FN Tryz.f114 49 [.tmp 2] := ⟨rfl, rfl⟩
@[go_sem] theorem fr116 : FN Tryz.f116 6 [.tmp 2] := ⟨rfl, rfl⟩
@[go_sem] theorem fr117 : FN Tryz.f117 95 [.tmp 6] := ⟨rfl, rfl⟩
@[go_sem] theorem fr118 : FN Tryz.f118 20 [.cell 2 29] := ⟨rfl, rfl⟩
@[go_sem] theorem fr119 : FN Tryz.f119 9 [] := ⟨rfl, rfl⟩
@[go_sem] theorem fr120 : FN Tryz.f120 10 [.tmp 4] := ⟨rfl, rfl⟩
@[go_sem] theorem fr121 : FN Tryz.f121 91 [.tmp 10] := ⟨rfl, rfl⟩
@[go_sem] theorem fr125 : FN Tryz.f125 26 [.tmp 4] := ⟨rfl, rfl⟩
@[go_sem] theorem fr126 : FN Tryz.f126 26 [.tmp 4] := ⟨rfl, rfl⟩
@[go_sem] theorem fr127 : FN Tryz.f127 26 [.tmp 4] := ⟨rfl, rfl⟩
@[go_sem] theorem fr131 : FN Tryz.f131 49 [.tmp 6, .tmp 7] := ⟨rfl, rfl⟩
@[go_sem] theorem fr132 : FN Tryz.f132 9 [.tmp 4] := ⟨rfl, rfl⟩
@[go_sem] theorem fr133 : FN Tryz.f133 42 [.tmp 4] := ⟨rfl, rfl⟩
@[go_sem] theorem fr134 : FN Tryz.f134 22 [.tmp 4] := ⟨rfl, rfl⟩
@[go_sem] theorem fr135 : FN Tryz.f135 10 [.cell 2 169] := ⟨rfl, rfl⟩
@[go_sem] theorem fr136 : FN Tryz.f136 7 [.tmp 2] := ⟨rfl, rfl⟩
@[go_sem] theorem fr137 : FN Tryz.f137 35 [] := ⟨rfl, rfl⟩
@[go_sem] theorem fr138 : FN Tryz.f138 59 [] := ⟨rfl, rfl⟩
@[go_sem] theorem fr139 : FN Tryz.f139 9 [.tmp 2] := ⟨rfl, rfl⟩
@[go_sem] theorem fr140 : FN Tryz.f140 4 [.tmp 2] := ⟨rfl, rfl⟩
@[go_sem] theorem fr141 : FN Tryz.f141 19 [.tmp 4] := ⟨rfl, rfl⟩
@[go_sem] theorem fr142 : FN Tryz.f142 17 [.tmp 4] := ⟨rfl, rfl⟩
@[go_sem] theorem fr143 : FN Tryz.f143 6 [.tmp 2] := ⟨rfl, rfl⟩
@[go_sem] theorem fr144 : FN Tryz.f144 58 [.cell 2 36] := ⟨rfl, rfl⟩
@[go_sem] theorem fr146 : FN Tryz.f146 79 [.cell 2 47] := ⟨rfl, rfl⟩
@[go_sem] theorem fr147 : FN Tryz.f147 14 [.tmp 2] := ⟨rfl, rfl⟩
@[go_sem] theorem fr148 : FN Tryz.f148 14 [.tmp 2] := ⟨rfl, rfl⟩
@[go_sem] theorem fr149 : FN Tryz.f149 14 [.tmp 2] := ⟨rfl, rfl⟩
@[go_sem] theorem fr150 : FN Tryz.f150 18 [.tmp 4] := ⟨rfl, rfl⟩
@[go_sem] theorem fr151 : FN Tryz.f151 25 [.tmp 3] := ⟨rfl, rfl⟩
@[go_sem] theorem fr152 : FN Tryz.f152 37 [.tmp 4] := ⟨rfl, rfl⟩
@[go_sem] theorem fr153 : FN Tryz.f153 9 [.tmp 3] := ⟨rfl, rfl⟩
@[go_sem] theorem fr154 : FN Tryz.f154 15 [.tmp 2] := ⟨rfl, rfl⟩
@[go_sem] theorem fr155 : FN Tryz.f155 15 [.tmp 6] := ⟨rfl, rfl⟩
@[go_sem] theorem fr156 : FN Tryz.f156 64 [.tmp 4] := ⟨rfl, rfl⟩
@[go_sem] theorem fr157 : FN Tryz.f157 41 [.tmp 6] := ⟨rfl, rfl⟩
@[go_sem] theorem fr158 : FN Tryz.f158 12 [.tmp 5] := ⟨rfl, rfl⟩
@[go_sem] theorem fr159 : FN Tryz.f159 64 [.tmp 8] := ⟨rfl, rfl⟩
@[go_sem] theorem fr160 : FN Tryz.f160 13 [.tmp 5] := ⟨rfl, rfl⟩
@[go_sem] theorem fr161 : FN Tryz.f161 117 [.tmp 6] := ⟨rfl, rfl⟩
@[go_sem] theorem fr169 : FN Tryz.f169 8 [.tmp 2] := ⟨rfl, rfl⟩
@[go_sem] theorem fr170 : FN Tryz.f170 6 [.tmp 2] := ⟨rfl, rfl⟩
@[go_sem] theorem fr173 : FN Tryz.f173 8 [.tmp 6] := ⟨rfl, rfl⟩
@[go_sem] theorem fr174 : FN Tryz.f174 22 [.tmp 4] := ⟨rfl, rfl⟩
@[go_sem] theorem fr175 : FN Tryz.f175 16 [.cell 2 70] := ⟨rfl, rfl⟩
@[go_sem] theorem fr176 : FN Tryz.f176 10 [.cell 2 169] := ⟨rfl, rfl⟩
@[go_sem] theorem fr177 : FN Tryz.f177 22 [.tmp 2, .tmp 3] := ⟨rfl, rfl⟩
@[go_sem] theorem fr178 : FN Tryz.f178 19 [.tmp 4] := ⟨rfl, rfl⟩
@[go_sem] theorem fr179 : FN Tryz.f179 37 [.tmp 2] := ⟨rfl, rfl⟩
@[go_sem] theorem fr180 : FN Tryz.f180 34 [.tmp 6, .tmp 7] := ⟨rfl, rfl⟩
@[go_sem] theorem fr182 : FN Tryz.f182 24 [.tmp 2] := ⟨rfl, rfl⟩
@[go_sem] theorem fr185 : FN Tryz.f185 8 [.tmp 2] := ⟨rfl, rfl⟩
@[go_sem] theorem fr186 : FN Tryz.f186 8 [.tmp 2] := ⟨rfl, rfl⟩
@[go_sem] theorem fr187 : FN Tryz.f187 8 [.tmp 2] := ⟨rfl, rfl⟩
@[go_sem] theorem fr188 : FN Tryz.f188 63 [] := ⟨rfl, rfl⟩
@[go_sem] theorem fr189 : FN Tryz.f189 36 [.tmp 2] := ⟨rfl, rfl⟩
@[go_sem] theorem fr190 : FN Tryz.f190 74 [.tmp 8] := ⟨rfl, rfl⟩
@[go_sem] theorem fr193 : FN Tryz.f193 19 [.tmp 4] := ⟨rfl, rfl⟩
@[go_sem] theorem fr194 : FN Tryz.f194 22 [.tmp 4] := ⟨rfl, rfl⟩
@[go_sem] theorem fr195 : FN Tryz.f195 12 [.cell 2 171] := ⟨rfl, rfl⟩
@[go_sem] theorem fr196 : FN Tryz.f196 5 [.tmp 2] := ⟨rfl, rfl⟩
@[go_sem] theorem fr197 : FN Tryz.f197 11 [] := ⟨rfl, rfl⟩
@[go_sem] theorem fr198 : FN Tryz.f198 14 [] := ⟨rfl, rfl⟩
@[go_sem] theorem fr199 : FN Tryz.f199 8 [.tmp 2] := ⟨rfl, rfl⟩
@[go_sem] theorem fr200 : FN Tryz.f200 8 [.tmp 2] := ⟨rfl, rfl⟩
@[go_sem] theorem fr201 : FN Tryz.f201 8 [.tmp 2] := ⟨rfl, rfl⟩
@[go_sem] theorem fr202 : FN Tryz.f202 8 [.tmp 2] := ⟨rfl, rfl⟩
@[go_sem] theorem fr203 : FN Tryz.f203 8 [.tmp 2] := ⟨rfl, rfl⟩
@[go_sem] theorem fr207 : FN Tryz.f207 99 [.tmp 4] := ⟨rfl, rfl⟩
@[go_sem] theorem fr208 : FN Tryz.f208 25 [.tmp 6] := ⟨rfl, rfl⟩
@[go_sem] theorem fr209 : FN Tryz.f209 6 [.tmp 4] := ⟨rfl, rfl⟩
@[go_sem] theorem fr210 : FN Tryz.f210 15 [.tmp 3] := ⟨rfl, rfl⟩
@[go_sem] theorem fr211 : FN Tryz.f211 9 [.tmp 3] := ⟨rfl, rfl⟩
@[go_sem] theorem fr212 : FN Tryz.f212 57 [.tmp 2] := ⟨rfl, rfl⟩
@[go_sem] theorem fr213 : FN Tryz.f213 41 [.tmp 3] := ⟨rfl, rfl⟩
@[go_sem] theorem fr214 : FN Tryz.f214 9 [.tmp 4] := ⟨rfl, rfl⟩
@[go_sem] theorem fr215 : FN Tryz.f215 9 [.tmp 3] := ⟨rfl, rfl⟩
@[go_sem] theorem fr216 : FN Tryz.f216 9 [.tmp 3] := ⟨rfl, rfl⟩
@[go_sem] theorem fr217 : FN Tryz.f217 13 [.tmp 2] := ⟨rfl, rfl⟩
@[go_sem] theorem fr218 : FN Tryz.f218 56 [.tmp 3] := ⟨rfl, rfl⟩
@[go_sem] theorem fr219 : FN Tryz.f219 63 [.tmp 2] := ⟨rfl, rfl⟩
@[go_sem] theorem fr220 : FN Tryz.f220 20 [.tmp 4] := ⟨rfl, rfl⟩
@[go_sem] theorem fr221 : FN Tryz.f221 26 [.tmp 4] := ⟨rfl, rfl⟩
@[go_sem] theorem fr222 : FN Tryz.f222 164 [.tmp 2] := ⟨rfl, rfl⟩
@[go_sem] theorem fr223 : FN Tryz.f223 29 [.tmp 4] := ⟨rfl, rfl⟩
@[go_sem] theorem fr224 : FN Tryz.f224 77 [.tmp 6] := ⟨rfl, rfl⟩
@[go_sem] theorem fr245 : FN Tryz.f245 19 [.tmp 2] := ⟨rfl, rfl⟩
@[go_sem] theorem fr246 : FN Tryz.f246 25 [.tmp 2] := ⟨rfl, rfl⟩
@[go_sem] theorem fr247 : FN Tryz.f247 10 [] := ⟨rfl, rfl⟩
@[go_sem] theorem fr248 : FN Tryz.f248 74 [.tmp 8] := ⟨rfl, rfl⟩
@[go_sem] theorem fr249 : FN Tryz.f249 12 [.cell 2 171] := ⟨rfl, rfl⟩
@[go_sem] theorem fr250 : FN Tryz.f250 31 [.tmp 6] := ⟨rfl, rfl⟩
@[go_sem] theorem fr251 : FN Tryz.f251 74 [.cell 4 22, .cell 5 22] := ⟨rfl, rfl⟩
@[go_sem] theorem fr252 : FN Tryz.f252 74 [.tmp 4, .tmp 5, .tmp 6] := ⟨rfl, rfl⟩
@[go_sem] theorem fr254 : FN Tryz.f254 53 [] := ⟨rfl, rfl⟩
@[go_sem] theorem fr256 : FN Tryz.f256 27 [.tmp 4] := ⟨rfl, rfl⟩
@[go_sem] theorem fr257 : FN Tryz.f257 77 [.tmp 8] := ⟨rfl, rfl⟩
@[go_sem] theorem fr260 : FN Tryz.f260 13 [.tmp 4] := ⟨rfl, rfl⟩
@[go_sem] theorem fr261 : FN Tryz.f261 134 [] := ⟨rfl, rfl⟩
@[go_sem] theorem fr266 : FN Tryz.f266 41 [.tmp 2] := ⟨rfl, rfl⟩
@[go_sem] theorem fr267 : FN Tryz.f267 16 [.tmp 6, .tmp 7] := ⟨rfl, rfl⟩
@[go_sem] theorem fr268 : FN Tryz.f268 5 [.tmp 2] := ⟨rfl, rfl⟩
@[go_sem] theorem fr269 : FN Tryz.f269 14 [.tmp 4, .tmp 5] := ⟨rfl, rfl⟩
@[go_sem] theorem fr270 : FN Tryz.f270 46 [] := ⟨rfl, rfl⟩
@[go_sem] theorem fr271 : FN Tryz.f271 26 [.tmp 4] := ⟨rfl, rfl⟩
@[go_sem] theorem fr272 : FN Tryz.f272 19 [.tmp 4] := ⟨rfl, rfl⟩
@[go_sem] theorem fr273 : FN Tryz.f273 21 [.cell 2 333, .tmp 3] := ⟨rfl, rfl⟩
@[go_sem] theorem fr274 : FN Tryz.f274 25 [.tmp 2] := ⟨rfl, rfl⟩
@[go_sem] theorem fr281 : FN Tryz.f281 7 [.tmp 2] := ⟨rfl, rfl⟩
@[go_sem] theorem fr282 : FN Tryz.f282 33 [.tmp 2] := ⟨rfl, rfl⟩
@[go_sem] theorem fr285 : FN Tryz.f285 4 [.tmp 2] := ⟨rfl, rfl⟩
@[go_sem] theorem fr286 : FN Tryz.f286 24 [.tmp 4, .tmp 5] := ⟨rfl, rfl⟩
@[go_sem] theorem fr287 : FN Tryz.f287 33 [.tmp 2, .tmp 3, .tmp 4] := ⟨rfl, rfl⟩
@[go_sem] theorem fr290 : FN Tryz.f290 49 [] := ⟨rfl, rfl⟩
@[go_sem] theorem fr291 : FN Tryz.f291 56 [] := ⟨rfl, rfl⟩
@[go_sem] theorem fr292 : FN Tryz.f292 65 [] := ⟨rfl, rfl⟩
@[go_sem] theorem fr293 : FN Tryz.f293 57 [.tmp 6, .tmp 7] := ⟨rfl, rfl⟩
@[go_sem] theorem fr294 : FN Tryz.f294 32 [] := ⟨rfl, rfl⟩
@[go_sem] theorem fr295 : FN Tryz.f295 133 [.tmp 6] := ⟨rfl, rfl⟩
@[go_sem] theorem fr296 : FN Tryz.f296 84 [.tmp 8] := ⟨rfl, rfl⟩
@[go_sem] theorem fr297 : FN Tryz.f297 168 [.tmp 8, .tmp 9] := ⟨rfl, rfl⟩
@[go_sem] theorem fr299 : FN Tryz.f299 19 [.tmp 4] := ⟨rfl, rfl⟩
@[go_sem] theorem fr300 : FN Tryz.f300 15 [.tmp 4] := ⟨rfl, rfl⟩
@[go_sem] theorem fr301 : FN Tryz.f301 8 [.tmp 3] := ⟨rfl, rfl⟩
@[go_sem] theorem fr302 : FN Tryz.f302 35 [.tmp 2, .tmp 3] := ⟨rfl, rfl⟩
@[go_sem] theorem fr303 : FN Tryz.f303 9 [.tmp 4] := ⟨rfl, rfl⟩
@[go_sem] theorem fr304 : FN Tryz.f304 8 [.tmp 3] := ⟨rfl, rfl⟩
@[go_sem] theorem fr305 : FN Tryz.f305 47 [.tmp 0] := ⟨rfl, rfl⟩
@[go_sem] theorem fr306 : FN Tryz.f306 49 [.tmp 6, .tmp 7] := ⟨rfl, rfl⟩
@[go_sem] theorem fr307 : FN Tryz.f307 9 [.tmp 4] := ⟨rfl, rfl⟩
@[go_sem] theorem fr312 : FN Tryz.f312 28 [] := ⟨rfl, rfl⟩
@[go_sem] theorem fr313 : FN Tryz.f313 25 [.tmp 2] := ⟨rfl, rfl⟩
@[go_sem] theorem fr315 : FN Tryz.f315 76 [] := ⟨rfl, rfl⟩
@[go_sem] theorem fr316 : FN Tryz.f316 15 [.tmp 6] := ⟨rfl, rfl⟩
@[go_sem] theorem fr317 : FN Tryz.f317 36 [.tmp 10] := ⟨rfl, rfl⟩
@[go_sem] theorem fr318 : FN Tryz.f318 9 [.tmp 4] := ⟨rfl, rfl⟩
@[go_sem] theorem fr319 : FN Tryz.f319 9 [.tmp 2] := ⟨rfl, rfl⟩
@[go_sem] theorem fr320 : FN Tryz.f320 68 [] := ⟨rfl, rfl⟩
@[go_sem] theorem fr321 : FN Tryz.f321 19 [.tmp 4] := ⟨rfl, rfl⟩
@[go_sem] theorem fr326 : FN Tryz.f326 28 [.tmp 8, .tmp 9] := ⟨rfl, rfl⟩
@[go_sem] theorem fr327 : FN Tryz.f327 19 [.tmp 4] := ⟨rfl, rfl⟩
@[go_sem] theorem fr328 : FN Tryz.f328 93 [] := ⟨rfl, rfl⟩
@[go_sem] theorem fr329 : FN Tryz.f329 17 [.tmp 4] := ⟨rfl, rfl⟩
@[go_sem] theorem fr330 : FN Tryz.f330 25 [] := ⟨rfl, rfl⟩
@[go_sem] theorem fr332 : FN Tryz.f332 8 [.tmp 4] := ⟨rfl, rfl⟩
@[go_sem] theorem fr333 : FN Tryz.f333 30 [.tmp 4] := ⟨rfl, rfl⟩
@[go_sem] theorem fr334 : FN Tryz.f334 29 [] := ⟨rfl, rfl⟩
@[go_sem] theorem fr335 : FN Tryz.f335 20 [] := ⟨rfl, rfl⟩
@[go_sem] theorem fr336 : FN Tryz.f336 8 [.tmp 2] := ⟨rfl, rfl⟩
@[go_sem] theorem fr337 : FN Tryz.f337 14 [.tmp 2] := ⟨rfl, rfl⟩
@[go_sem] theorem fr338 : FN Tryz.f338 8 [] := ⟨rfl, rfl⟩
@[go_sem] theorem fr340 : FN Tryz.f340 18 [.tmp 4] := ⟨rfl, rfl⟩
theorem BY {α : Type} (a : α) : ∃ b, b = a := ⟨a, rfl⟩
noncomputable def Nl : (E : Bl) → (P : Program) → (ops : Array Oper) → (Q : SA → Hp → Nat → Prop) → List Oper → SA → Hp → Nat → Prop := Classical.choose (BY Hw)
theorem Nm : Nl = Hw := Classical.choose_spec (BY Hw)
noncomputable def KV : (E : Bl) → (P : Program) → (ops : Array Oper) → (Q : SA → Hp → Nat → Prop) → List Oper → List CH → SA → Hp → Nat → Prop := Classical.choose (BY Ek)
theorem Lv : KV = Ek := Classical.choose_spec (BY Ek)
noncomputable def Ja : (E : Bl) → (P : Program) → (N : Nat) → Code → CZ → SA → Hp → Nat → Prop := Classical.choose (BY FS)
theorem EM : Ja = FS := Classical.choose_spec (BY FS)
noncomputable def St : (E : Bl) → (P : Program) → (ops : Array Oper) → (Q : SA → Hp → Nat → Prop) → List Oper → SA → Option Tmp → SV → Hp → Nat → Prop :=
 Classical.choose (BY fun E P ops Q rest sa dst v h n => Nl E P ops Q rest (De sa dst v) h n)
@[go_sem] theorem kont_at (E : Bl) (P : Program) (ops : Array Oper) (Q : SA → Hp → Nat → Prop) (rest : List Oper) (sa : SA) (dst : Option Tmp) (v : SV) (h : Hp) (n : Nat) :
 St E P ops Q rest sa dst v h n = Nl E P ops Q rest (De sa dst v) h n := by
 unfold St; rw [Classical.choose_spec (BY fun E P ops Q rest sa dst v h n => Nl E P ops Q rest (De sa dst v) h n)]
noncomputable def OQ : (E : Bl) → (P : Program) → (N : Nat) → Code → CZ → CZ := Classical.choose (BY fun E P N b Q => C7 (FS E P N b Q) Q)
theorem JC : OQ = fun E P N b Q => C7 (FS E P N b Q) Q := Classical.choose_spec (BY fun E P N b Q => C7 (FS E P N b Q) Q)
noncomputable def LQ : Nat → CZ → CZ := Classical.choose (BY E5)
theorem IC : LQ = E5 := Classical.choose_spec (BY E5)
section
variable (E : Bl) (P : Program) (N : Nat) (ops : Array Oper) (a b : Code) (id : Nat) (Q : CZ) (K : SA → Hp → Nat → Prop) (sa : SA) (h : Hp) (n : Nat)
@[go_sem] theorem Su : OQ E P N b Q .normal sa h n = Ja E P N b Q sa h n := by rw [JC, EM]; simp only [C7]
@[go_sem] theorem T8 : OQ E P N b Q (.exit id) sa h n = Q (.exit id) sa h n := by rw [JC]; simp only [C7]
@[go_sem] theorem kthen_ret : OQ E P N b Q .ret sa h n = Q .ret sa h n := by rw [JC]; simp only [C7]
@[go_sem] theorem SQ : LQ id Q .normal sa h n = Q .normal sa h n := by rw [IC]; simp only [E5]
@[go_sem] theorem T7 : LQ id Q .ret sa h n = Q .ret sa h n := by rw [IC]; simp only [E5]
@[go_sem] theorem Tb (i : Nat) : LQ id Q (.exit i) sa h n = if i = id then Q .normal sa h n else Q (.exit i) sa h n := by rw [IC]; simp only [E5]
@[go_sem] theorem wlk_skip : Ja E P N .skip Q sa h n = Q .normal sa h n := by rw [EM]; simp only [FS]
@[go_sem] theorem wlk_seq : Ja E P N (.seq a b) Q sa h n = Ja E P N a (OQ E P N b Q) sa h n := by rw [EM, JC]; simp only [FS]
@[go_sem] theorem wlk_cond (c : Operand) : Ja E P N (.cond c a b) Q sa h n = match GW sa c with | .bool t => if t = true then Ja E P N a Q sa h n else Ja E P N b Q sa h n | _ => False := by rw [EM]; simp only [FS] <;> cases GW sa c <;> rfl
@[go_sem] theorem wlk_block : Ja E P N (.block id b) Q sa h n = Ja E P N b (LQ id Q) sa h n := by rw [EM, IC]; simp only [FS]
@[go_sem] theorem wlk_exit : Ja E P N (.exit id) Q sa h n = Q (.exit id) sa h n := by rw [EM]; simp only [FS]
@[go_sem] theorem wlk_ret : Ja E P N .ret Q sa h n = Q .ret sa h n := by rw [EM]; simp only [FS]
@[go_sem] theorem UY : Ja E P N (.region id ops false) Q sa h n = Nl E P ops (Q .normal) ops.toList sa h n := by rw [EM, Nm]; simp only [FS]
@[go_sem] theorem wlk_drawn : Ja E P N (.region id ops true) Q sa h n = (Em ops = true ∧ KV E P ops (Q .normal) ops.toList [] sa h n) := by rw [EM, Lv]; simp only [FS]
@[go_sem] theorem wlk_loop : Ja E P N (.loop b) Q sa h n = HQ E P N (.loop b) Q sa h n := by rw [EM]; simp only [FS]
@[go_sem] theorem wlk_range (g : Operand) (ps : Array Tmp) : Ja E P N (.rangeFunc g ps a b) Q sa h n = HQ E P N (.rangeFunc g ps a b) Q sa h n := by rw [EM]; simp only [FS]
@[go_sem] theorem wops_nil : Nl E P ops K [] sa h n = K sa h n := by rw [Nm]; simp only [Hw]
@[go_sem] theorem wops_cons (o : Oper) (rest : List Oper) : Nl E P ops K (o :: rest) sa h n =
 match DI ops sa o with | some b => if b = true then KS E P o sa h n (St E P ops K rest sa o.dst) else Nl E P ops K rest (De sa o.dst (.tup [])) h n | none => False := by
 unfold St; rw [Classical.choose_spec (BY fun E P ops Q rest sa dst v h n => Nl E P ops Q rest (De sa dst v) h n)]
 rw [Nm]; simp only [Hw]; cases DI ops sa o <;> rfl
@[go_sem] theorem wdraw_nil (tr : List CH) : KV E P ops K [] tr sa h n = K sa h n := by rw [Lv]; simp only [Ek]
end
def B6 (ops : Array Oper) (i : Nat) (r : CH) : Nat → List CH → Bool
 | _, [] => true
 | j, q :: qs => (Eg ops j i || (Cp (Al q.wr) r.foot && Cp (Al r.wr) q.foot && Cp (Al q.new) r.foot)) && B6 ops i r (j + 1) qs
theorem MZ (ops : Array Oper) (i : Nat) (r : CH) : ∀ (l : List CH) (j : Nat), B6 ops i r j l = HI ops i r j l
 | [], _ => rfl
 | q :: qs, j => by rw [B6, HI, MZ ops i r qs, Bool.or_comm]
noncomputable def JB : (E : Bl) → (P : Program) → (ops : Array Oper) → (Q : SA → Hp → Nat → Prop) → List Oper → List CH → SA → CH → Hp → Nat → Prop :=
 Classical.choose (BY fun E P ops Q rest tr sa r h n => B6 ops tr.length r 0 tr = true ∧ KV E P ops Q rest (tr ++ [r]) (De sa r.dst r.val) h n)
section
variable (E : Bl) (P : Program) (ops : Array Oper) (K : SA → Hp → Nat → Prop) (sa : SA) (h : Hp) (n : Nat)
@[go_sem] theorem Re (rest : List Oper) (tr : List CH) (r : CH) : JB E P ops K rest tr sa r h n = (B6 ops tr.length r 0 tr = true ∧ KV E P ops K rest (tr ++ [r]) (De sa r.dst r.val) h n) := by
 unfold JB; rw [Classical.choose_spec (BY fun E P ops Q rest tr sa r h n => B6 ops tr.length r 0 tr = true ∧ KV E P ops Q rest (tr ++ [r]) (De sa r.dst r.val) h n)]
def Bg (g : FuncId) (us : List SV) (rest : List Oper) (tr : List CH) (dst : Option Tmp) : Prop :=
 ∃ foot wr v, Kv E P g us foot wr v h ∧ (∀ k ∈ Al wr, k ∈ foot) ∧ (∀ k ∈ foot, k < n) ∧ JB E P ops K rest tr sa { dst := dst, val := v, foot := foot, wr := wr } (CB h wr) n
def RP (o : Oper) (rest : List Oper) (tr : List CH) : Prop :=
 match o.op with
 | .call { callee := .value f, args, .. } =>
  match callee (GW sa f) (args.toList.map (GW sa)) with
  | some (g, us) => Bg E P ops K sa h n g us rest tr o.dst
  | none => False
 | op =>
  match Cf P (GW sa) h n op with
  | some out =>
   (∀ k ∈ Al out.upd.toList ++ ES (GW sa) op, k < n) ∧ JB E P ops K rest tr sa { dst := o.dst, val := out.val, foot := Al out.upd.toList ++ ES (GW sa) op, wr := out.upd.toList, new := (out.new.map fun x => (n, some x)).toList } (out.app h n) (if out.new.isSome then n + 1 else n)
  | none => ∃ v, QJ P (GW sa) o v ∧ JB E P ops K rest tr sa { dst := o.dst, val := v } h n
@[go_sem] theorem UX (o : Oper) (rest : List Oper) (tr : List CH) : KV E P ops K (o :: rest) tr sa h n =
 match DI ops sa o with | some b => if b = true then RP E P ops K sa h n o rest tr else KV E P ops K rest (tr ++ [{ dst := o.dst, val := .tup [] }]) (De sa o.dst (.tup [])) h n | none => False := by
 unfold RP Bg
 simp only [Re, MZ]
 rw [Lv]
 conv => lhs; unfold Ek
 cases DI ops sa o <;> rfl
variable {E}
theorem Bg.pure {g : FuncId} {us : List SV} {rest : List Oper} {tr : List CH} {dst : Option Tmp} {v : SV} (H : Fa P g us v) (hk : JB E P ops K rest tr sa { dst := dst, val := v } h n) : Bg E P ops K sa h n g us rest tr dst :=
 ⟨[], [], v, H.u h, by simp [Al], by simp, hk⟩
theorem Bg.lend {g : FuncId} {us bs : List SV} {rest : List Oper} {tr : List CH} {dst : Option Tmp} {v : SV} (k : Nat) (foot : List Nat) (H : Fa P g bs v) (hv : Du v = true) (hf : ∀ j ∈ foot, j < n) (hw : ∀ h', (∀ j ∈ foot, h' j = h j) → AQ (Fz h' (fun _ => none) k) us bs)
 (hk : JB E P ops K rest tr sa { dst := dst, val := v, foot := foot } h n) : Bg E P ops K sa h n g us rest tr dst :=
 ⟨foot, [], v, H.lendU k foot hv hw, by simp [Al], hf, hk⟩
end
attribute [go_sem] RP ES Al Op.operands Call.operands SV.ids List.flatMap_cons List.flatMap_nil
attribute [go_sem] MB MA JL
abbrev PC (f : FuncId) (args : List SV) (v : SV) : Prop := Fa Tryz.prog f args v
abbrev Fd (h : Hp) (n : Nat) : Prop := ∀ o x, h o = some x → o < n ∧ BJ n x = true
theorem Av {h h' : Hp} {n n' : Nat} {v' v : SV} (ho : Fd h n) (hh : ∀ o x, h o = some x → h' o = some x) (e : v' = v) (hc : closed n v = true) : CG n h' n' v' (Is v h n) := by
 subst e; exact CG.plain hc ho hh ⟨rfl, rfl, rfl⟩
theorem Dp {h h' : Hp} {n n' : Nat} {v' v : SV} (k : Nat) (ho : Fd h n) (hh : ∀ o x, h o = some x → h' o = some x) (e : Fz h' h k v' v) (hc : closed n v = true) : CG n h' n' v' (Is v h n) :=
 .inr ⟨k, v, h, e, hc, fun o x e => ⟨hh o x e, ho o x e⟩, rfl, rfl, rfl⟩
theorem BC {h : Hp} {n n' : Nat} {v' v : SV} (ho : Fd h n) (hc : closed n v = true) (e : v' = v) : CG n h n' v' (Is v h n) := Av ho (fun _ _ e => e) e hc
theorem AO {h : Hp} {n o : Nat} {y : Option BV} (ho : Fd h n) (hn : n ≤ o) {h' : Hp} (hh : ∀ o x, h o = some x → h' o = some x) : ∀ o' x, h o' = some x → hset h' o y o' = some x := by
 intro o' x e
 have := (ho o' x e).1
 have ne : o' ≠ o := by omega
 simp [hset, ne, hh _ _ e]
theorem AB {h : Hp} : ∀ o x, h o = some x → h o = some x := fun _ _ e => e
theorem go {E : Bl} {f : FuncId} {fn : Func} {code : Code} {args : List SV} {h : Hp} {n : Nat} {K : SV → Hp → Nat → Prop} (hf : Tryz.prog.funcs[f]? = some fn) (hb : fn.body = some code)
 (hn : (fn.name != "runtime.NumGoroutine") = true) (hd : Code.dok fn.ntmps code = true) (hl : args.length ≤ fn.ntmps)
 (H : Fd h n → Ja (E.call false 0) Tryz.prog fn.ntmps code (MB Tryz.prog fn n K) (EH 0 args) h n) : Ag E Tryz.prog f args h n K :=
 QI follows hf hb hn hd hl fun _ ho => by rw [← EM]; exact H ho
theorem gq {E : Bl} {f : FuncId} {fn : Func} {code : Code} {args : List SV} {h : Hp} {n : Nat} {K : SV → Hp → Nat → Prop} (hf : Tryz.prog.funcs[f]? = some fn) (hb : fn.body = some code)
 (H : Fd h n → Ja (E.call false 0) Tryz.prog fn.ntmps code (MB Tryz.prog fn n K) (EH 0 args) h n)
 (hn : (fn.name != "runtime.NumGoroutine") = true := by kernel_rfl) (hd : Code.dok fn.ntmps code = true := by kernel_rfl) (hl : args.length ≤ fn.ntmps := by simp [go_sem]) : Ag E Tryz.prog f args h n K :=
 go hf hb hn hd hl H
theorem An {E : Bl} {N : Nat} {x : Code} {Q : CZ} {sa : SA} {h : Hp} {n : Nat} {α : Type} (k : Nat) (fr : α → SA) (hp : α → Hp) (I : α → Nat → Prop) (μ : α → Nat) (a0 : α) (hI : I a0 n)
 (hfr : ∀ p ∈ fr a0, Fz h (hp a0) k (Ai sa p.1) p.2) (hhp : ∀ o y, hp a0 o = some y → h o = some y)
 (round : ∀ a n, I a n → Ja E Tryz.prog N x (C7 (fun sa' h' n' => ∃ a', μ a' < μ a ∧ I a' n' ∧ (∀ p ∈ fr a', Fz h' (hp a') k (Ai sa' p.1) p.2) ∧ (∀ o y, hp a' o = some y → h' o = some y)) Q) (fr a) (hp a) n) :
 HQ E Tryz.prog N (.loop x) Q sa h n :=
 Qx follows k fr hp I μ a0 hI hfr hhp fun a n ha => by rw [← EM]; exact round a n ha
@[go_sem] theorem Eo (K : SA → Hp → Nat → Prop) (Q : CZ) : C7 K Q .normal = K := rfl
@[go_sem] theorem UU (K : SA → Hp → Nat → Prop) (Q : CZ) (i : Nat) : C7 K Q (.exit i) = Q (.exit i) := rfl
@[go_sem] theorem thenQ_ret (K : SA → Hp → Nat → Prop) (Q : CZ) : C7 K Q .ret = Q .ret := rfl
attribute [go_sem] closed closedL
theorem nd {ops : Array Oper} {i j : Nat} {r : CH} {l : List CH} {R : Prop} (h : B6 ops i r j l = true) (hr : R) : B6 ops i r j l = true ∧ R := ⟨h, hr⟩
theorem sd {ops : Array Oper} {R : Prop} (h : Em ops = true) (hr : R) : Em ops = true ∧ R := ⟨h, hr⟩
theorem C8 {x : Int} (h0 : -4611686018427387904 ≤ x) (h1 : x ≤ 4611686018427387904) : IntKind.i64.wrap x = x := IntWalk.i64_in x (by omega)
theorem nq {ops : Array Oper} {i j : Nat} {r : CH} {l : List CH} {R : Prop} (hr : R) (h : B6 ops i r j l = true := by kernel_rfl) : B6 ops i r j l = true ∧ R := ⟨h, hr⟩
theorem sq {ops : Array Oper} {R : Prop} (hr : R) (h : Em ops = true := by kernel_rfl) : Em ops = true ∧ R := ⟨h, hr⟩
theorem aq {a R : Prop} (hr : R) (h : a := by omega) : a ∧ R := ⟨h, hr⟩
theorem wS (i : Nat) (h : i < 4611686018427387904) : IntKind.i64.wrap ((i : Int) + 1) = ((i + 1 : Nat) : Int) := by rw [C8] <;> omega
theorem Fd.lt {h : Hp} {n : Nat} (ho : Fd h n) : ∀ j y, h j = some y → j < n := fun j y e => (ho j y e).1
theorem PC.use {E : Bl} {f : FuncId} {args : List SV} {v : SV} (H : PC f args v) {h : Hp} {n : Nat} {K : SV → Hp → Nat → Prop} (hk : K v h n) : Ag E Tryz.prog f args h n K := Fa.use H hk
theorem RF {s : ByteArray} {i : Nat} (h : i < s.size) : s[i]? = some s[i] := getElem?_pos s i h
set_option maxRecDepth 10000
def Iz (b : Int) : Int := if b = 224 then 160 else if b = 240 then 144 else 128
def G0 (b : Int) : Int := if b = 237 then 159 else if b = 244 then 143 else 191
def DF (b : Int) : Int := if b < 128 then 1 else if b < 194 ∨ 244 < b then 0 else if b < 224 then 2 else if b < 240 then 3 else 4
theorem c287 (b : Int) : PC 287 [.int .u8 b] (.tup [.int .u8 (Iz b), .int .u8 (G0 b), .int .i64 (DF b)]) := by
 intro h n
 refine gq Tryz.func287 rfl fun ho => ?_
 by_cases h1 : b < 128 <;> by_cases h2 : b < 194 <;> by_cases h3 : 244 < b <;> by_cases h4 : b < 224 <;> by_cases h5 : b < 240 <;> by_cases h6 : b = 224 <;> by_cases h7 : b = 237 <;> by_cases h8 : b = 240 <;> by_cases h9 : b = 244 <;> try omega
 all_goals
  simp [go_sem, h1, h2, h3, h4, h5, h6, h7, h8, h9, Iz, G0, DF]
  exact BC ho rfl (by simp)
def Ad (s : ByteArray) (i : Nat) : Int := match s[i]? with | some b => b.toNat | none => 0
def Ch (s : ByteArray) (a n : Nat) : Nat → Int → Int → Nat → Nat × Bool
 | 0, _, _, k => (k, true)
 | f + 1, lo, hi, k => if s.size ≤ a + k ∨ Ad s (a + k) < lo ∨ hi < Ad s (a + k) then (k, false) else Ch s a n f 128 191 (k + 1)
def BE (s : ByteArray) (a : Nat) : Nat × Bool :=
 let b := Ad s a
 let n := DF b
 if n = 0 then (0, false) else if n = 1 then (1, true) else Ch s a n.toNat (n.toNat - 1) (Iz b) (G0 b) 1
theorem Di {s : ByteArray} {i : Nat} (h : i < s.size) : s[i]? = some s[i] ∧ Ad s i = s[i].toNat := by
 have := RF h
 simp [Ad, this]
theorem Jh (b : Int) : 0 ≤ DF b ∧ DF b ≤ 4 := by unfold DF; repeat' split <;> omega
theorem c252 (s : ByteArray) (a : Nat) (ha : a < s.size) (hs : s.size ≤ 1099511627776) : PC 252 [.str s, .int .i64 a] (.tup [.junk, .int .i64 (BE s a).1, .bool (BE s a).2]) := by
 intro h n
 refine gq Tryz.func252 rfl fun ho => ?_
 obtain ⟨e1, e2⟩ := Di ha
 simp [go_sem, e1, ← e2]
 refine (c287 _).use ?_
 obtain ⟨hz0, hz1⟩ := Jh (Ad s a)
 simp [go_sem, hz0]
 by_cases h0 : DF (Ad s a) = 0
 · simp [h0]; exact Dp 3 ho AB (by simp [Fz, AQ, BE, h0]) rfl
 by_cases h1 : DF (Ad s a) = 1
 · simp [h1]; exact Dp 3 ho AB (by simp [Fz, AQ, BE, h1]) rfl
 have hD : BE s a = Ch s a (DF (Ad s a)).toNat ((DF (Ad s a)).toNat - 1) (Iz (Ad s a)) (G0 (Ad s a)) 1 := by simp [BE, h0, h1]
 obtain ⟨z, hz⟩ : ∃ z : Nat, DF (Ad s a) = z := ⟨(DF (Ad s a)).toNat, by omega⟩
 rw [hz] at hD h0 h1 hz0 hz1 ⊢
 simp only [h0, h1, if_false]
 rw [hD]
 simp only [Int.toNat_natCast]
 generalize IntKind.i64.wrap _ = p0
 refine An 3 (α := Int × Int × Int × Nat) (fun q => [(0, .str s), (1, .int .i64 a), (4, .int .i64 q.1), (5, .int .i64 q.2.2.2), (8, .int .u8 q.2.1), (9, .int .u8 q.2.2.1), (10, .int .i64 z)]) (fun _ => h)
  (fun q m => n ≤ m ∧ 1 ≤ q.2.2.2 ∧ q.2.2.2 ≤ z ∧ Ch s a z (z - 1) (Iz (Ad s a)) (G0 (Ad s a)) 1 = Ch s a z (z - q.2.2.2) q.2.1 q.2.2.1 q.2.2.2) (fun q => z - q.2.2.2) (p0, Iz (Ad s a), G0 (Ad s a), 1) ?_ ?_ AB ?_
 · exact ⟨Nat.le_refl _, by simp, by simp; omega, rfl⟩
 · simp [Ai]
 rintro ⟨p, lo, hi, k⟩ m ⟨hm, hk1, hkz, hJ⟩
 by_cases hlt : k < z
 · obtain ⟨f, hf⟩ : ∃ f, z - k = f + 1 := ⟨z - k - 1, by omega⟩
   have hk : z - (k + 1) = f := by omega
   have w1 : IntKind.i64.wrap ((a : Int) + k) = ((a + k : Nat) : Int) := by rw [C8] <;> omega
   have w2 := wS k (by omega)
   dsimp only at hJ hk1 hkz
   rw [hf, Ch] at hJ
   by_cases hin : s.size ≤ a + k
   · simp [go_sem, hlt, w1, hin, -Int.natCast_add]
     exact Dp 3 ho AB (by simp [Fz, AQ, hJ, hin]) rfl
   obtain ⟨g1, g2⟩ := Di (Nat.lt_of_not_le hin)
   by_cases hlo : Ad s (a + k) < lo
   · simp [go_sem, hlt, w1, hin, g1, ← g2, hlo, -Int.natCast_add]
     exact Dp 3 ho AB (by simp [Fz, AQ, hJ, hlo]) rfl
   by_cases hhi : hi < Ad s (a + k)
   · simp [go_sem, hlt, w1, hin, g1, ← g2, hlo, hhi, -Int.natCast_add]
     exact Dp 3 ho AB (by simp [Fz, AQ, hJ, hhi]) rfl
   simp [go_sem, hlt, w1, w2, hin, g1, ← g2, hlo, hhi, -Int.natCast_add]
   rw [if_neg (by simp only [not_or]; exact ⟨hin, hlo, hhi⟩)] at hJ
   refine ⟨_, 128, 191, k + 1, by omega, ⟨hm, by omega, by omega, by rw [hk]; exact hJ⟩, Fz.same, Fz.same, Fz.same, Fz.same⟩
 · have : k = z := by dsimp only at hkz; omega
   subst this
   simp [go_sem]
   rw [Nat.sub_self, Ch] at hJ
   exact Dp 3 ho AB (by simp [Fz, AQ, hJ]) rfl
theorem Jg (s : ByteArray) (a n : Nat) : ∀ (f : Nat) (lo hi : Int) (k : Nat), k ≤ (Ch s a n f lo hi k).1 ∧ (Ch s a n f lo hi k).1 ≤ k + f
 | 0, _, _, k => by simp [Ch]
 | f + 1, lo, hi, k => by
  rw [Ch]
  split
  · simp
  · have := Jg s a n f 128 191 (k + 1)
    omega
theorem Iy {s : ByteArray} {a : Nat} (h : (BE s a).2 = true) : 1 ≤ (BE s a).1 := by
 simp only [BE] at h ⊢
 split
 · rename_i e; simp [e] at h
 · split
   · exact Nat.le_refl _
   · exact (Jg _ _ _ _ _ _ _).1
theorem N5 (s : ByteArray) (a : Nat) : (BE s a).1 ≤ 4 := by
 simp only [BE]
 split
 · simp
 · split
   · simp
   · have := (Jg s a (DF (Ad s a)).toNat ((DF (Ad s a)).toNat - 1) (Iz (Ad s a)) (G0 (Ad s a)) 1).2
     have := Jh (Ad s a)
     omega
def EC (s : ByteArray) (a : Nat) : Int :=
 if _ : a < s.size then if _ : (BE s a).2 = true then EC s (a + (BE s a).1) else a else -1
termination_by s.size - a
decreasing_by
 rename_i h2
 have := Iy h2; omega
def BL (s : ByteArray) : Bool := decide (EC s 0 < 0)
theorem c182 (s : ByteArray) (hs : s.size ≤ 1099511627776) : PC 182 [.str s] (.int .i64 (EC s 0)) := by
 intro h n
 refine gq Tryz.func182 rfl fun ho => ?_
 simp [go_sem]
 refine An 1 (α := Nat) (fun k => [(0, .str s), (3, .int .i64 k)]) (fun _ => h) (fun k m => n ≤ m ∧ k ≤ s.size + 4 ∧ EC s 0 = EC s k) (fun k => s.size + 4 - k) 0 ?_ ?_ AB ?_
 · exact ⟨Nat.le_refl _, by omega, rfl⟩
 · simp [Ai]
 rintro k m ⟨hm, hk, hJ⟩
 by_cases hlt : k < s.size
 · simp [go_sem, hlt]
   refine (c252 s k hlt hs).use ?_
   have hp := @Iy s k
   have hl := N5 s k
   have w : IntKind.i64.wrap ((k : Int) + ((BE s k).1 : Int)) = ((k + (BE s k).1 : Nat) : Int) := by rw [C8] <;> omega
   rw [EC.eq_def s k] at hJ
   by_cases hd : (BE s k).2 = true
   · simp [hlt, hd] at hJ
     simp [go_sem, hd, w, -Int.natCast_add]
     have := hp hd
     exact ⟨k + (BE s k).1, by omega, ⟨hm, by omega, hJ⟩, Fz.same⟩
   · simp [hlt, hd] at hJ
     simp [go_sem, hd]
     exact BC ho rfl (by rw [hJ])
 · simp [go_sem, hlt]
   rw [EC.eq_def s k] at hJ
   simp [hlt] at hJ
   exact BC ho rfl (by rw [hJ])
theorem O8 (s : ByteArray) (hs : s.size ≤ 1099511627776) : PC 116 [.str s] (.bool (BL s)) := by
 intro h n
 refine gq Tryz.func116 rfl fun ho => ?_
 simp [go_sem]
 refine (c182 s hs).use ?_
 simp [go_sem]
 exact BC ho rfl (by simp [BL])
def Dt (b : Int) : Bool := !(IntKind.u8.wrap (BitVec.ofInt 8 b &&& BitVec.ofInt 8 192).toNat == 128)
def Ax (s : ByteArray) : Nat → Nat
 | 0 => 0
 | k + 1 => Ax s k + if Dt (Ad s k) then 1 else 0
theorem Gz (s : ByteArray) : ∀ k, Ax s k ≤ k
 | 0 => Nat.le_refl _
 | k + 1 => by have := Gz s k; simp only [Ax]; split <;> omega
theorem c177 (s : ByteArray) (hs : s.size ≤ 1099511627776) : PC 177 [.str s] (.tup [.int .i64 (if BL s then Ax s s.size else 0), .int .i64 (if BL s then 0 else 12)]) := by
 intro h n
 refine gq Tryz.func177 rfl fun ho => ?_
 simp [go_sem]
 refine (O8 s hs).use ?_
 by_cases hv : BL s = true
 · simp [go_sem, hv]
   refine An 1 (α := Nat) (fun k => [(0, .str s), (2, .int .i64 (Ax s k)), (9, .int .i64 s.size), (10, .int .i64 k)]) (fun _ => h) (fun k m => n ≤ m ∧ k ≤ s.size) (fun k => s.size - k) 0 ?_ ?_ AB ?_
   · exact ⟨Nat.le_refl _, by omega⟩
   · simp [Ai, Ax]
   rintro k m ⟨hm, hk⟩
   by_cases hlt : k < s.size
   · obtain ⟨g1, g2⟩ := Di hlt
     have hl := Gz s k
     have w1 := wS k (by omega)
     have w2 : IntKind.i64.wrap ((Ax s k : Int) + 1) = ((Ax s k + 1 : Nat) : Int) := by rw [C8] <;> omega
     simp [go_sem, hlt, ← g2, w1, w2, -Int.natCast_add]
     split
     · rename_i hh
       have hc : Dt (Ad s k) = false := by simp only [Dt, Bool.not_eq_false', beq_iff_eq]; exact hh
       exact ⟨k + 1, by omega, ⟨hm, by omega⟩, by simp [Ax, hc], Fz.same⟩
     · rename_i hh
       have hc : Dt (Ad s k) = true := by simp only [Dt, Bool.not_eq_true', beq_eq_false_iff_ne]; exact hh
       exact ⟨k + 1, by omega, ⟨hm, by omega⟩, by simp [Ax, hc], Fz.same⟩
   · have : k = s.size := by omega
     subst this
     simp [go_sem]
     exact BC ho rfl (by simp)
 · simp [go_sem, hv]
   exact BC ho rfl (by simp)
def Aa (z : Nat) (o : Option Nat) (es : List SV) : SV := match o with | none => .imm 0 [] true | some j => .sl j 0 z es.length false
def Aj (o : Option Nat) (es : List SV) (h : Hp) : Hp := match o with | none => h | some j => hset h j (some (.cells (es.flatMap SV.cells)))
structure BZ (n m z : Nat) (o : Option Nat) (es : List SV) : Prop where
 none : o = Option.none → es = []
 lt : ∀ j, o = some j → n ≤ j ∧ j < m
 size : ∀ e ∈ es, e.storable = true ∧ e.cells.length = z
theorem BZ.nil (n m z : Nat) : BZ n m z Option.none [] := ⟨fun _ => rfl, by simp, by simp⟩
theorem BH {z : Nat} : ∀ {es : List SV}, (∀ e ∈ es, e.storable = true ∧ e.cells.length = z) → (es.flatMap SV.cells).length = es.length * z
 | [], _ => by simp
 | e :: es, h => by
  have := BH (es := es) (z := z) fun x hx => h x (by simp [hx])
  simp [this, (h e (by simp)).2, Nat.add_mul, Nat.add_comm]
theorem BZ.push {n m m' z : Nat} {o : Option Nat} {es : List SV} {e : SV} {j : Nat} (H : BZ n m z o es) (hs : e.storable = true) (he : e.cells.length = z) (h1 : n ≤ j) (h2 : j < m') : BZ n m' z (some j) (es ++ [e]) :=
 ⟨by simp, by rintro k e; cases e; exact ⟨h1, h2⟩, by intro x hx; simp at hx; rcases hx with hx | rfl; exact H.size x hx; exact ⟨hs, he⟩⟩
theorem BZ.mono {n m m' z : Nat} {o : Option Nat} {es : List SV} (H : BZ n m z o es) (hm : m ≤ m') : BZ n m' z o es := ⟨H.none, fun j e => ⟨(H.lt j e).1, Nat.lt_of_lt_of_le (H.lt j e).2 hm⟩, H.size⟩
theorem Fd.none {h : Hp} {n j : Nat} (ho : Fd h n) (hj : n ≤ j) : h j = none := by
 cases e : h j with
 | none => rfl
 | some x => have := (ho j x e).1; omega
theorem Aj.old {h : Hp} {n m z : Nat} {o : Option Nat} {es : List SV} (ho : Fd h n) (H : BZ n m z o es) : ∀ j x, h j = some x → Aj o es h j = some x := by
 cases o with
 | none => exact fun _ _ e => e
 | some k => exact AO ho (H.lt k rfl).1 AB
theorem AC (h : Hp) (j : Nat) (x : Option BV) : hset h j x j = x := by simp [hset]
theorem AD (h : Hp) {j k : Nat} (x : Option BV) (e : k ≠ j) : hset h j x k = h k := by simp [hset, e]
theorem Aa.fz {h : Hp} {n m z k : Nat} {o : Option Nat} {es : List SV} (ho : Fd h n) (H : BZ n m z o es) {h' : Hp} (hh : ∀ j y, Aj o es h j = some y → h' j = some y) : Fz h' h (k + 1) (Aa z o es) (.imm z es false) := by
 cases o with
 | none => rw [H.none rfl]; exact .inr ⟨by simp, .inl rfl, trivial, by simp⟩
 | some j =>
  have hj := hh j (.cells (es.flatMap SV.cells)) (by simp [Aj, hset])
  refine .inr ⟨ho.none (H.lt j rfl).1, by simp, rfl, rfl, _, _, hj, by simp [Bi, BH H.size]; rfl, H.size, ?_⟩
  have : ∀ l : List SV, AQ (Fz h' h k) l l := by
   intro l; induction l with
   | nil => trivial
   | cons a l ih => exact ⟨Fz.same, ih⟩
  simp only [← BH H.size, List.take_length]
  exact this _
theorem S9 {h h' : Hp} {n n' m z : Nat} {o : Option Nat} {es : List SV} {v : SV} (ho : Fd h n) (H : BZ n m z o es) (hh : ∀ j y, Aj o es h j = some y → h' j = some y) (hv : v = Aa z o es) (hc : ∀ e ∈ es, closed n e = true) : CG n h' n' v (Is (.imm z es false) h n) := by
 subst hv
 refine Dp 1 ho (fun j x e => hh j x (Aj.old ho H j x e)) (Aa.fz ho H hh) ?_
 rw [closed]
 exact DY.2 hc
section
variable {P : Program}
theorem app1 {h0 : Hp} {n m z : Nat} {es : List SV} {e : SV} {o : Option Nat} {t t2 el : TypeId} (ht : BA P t = some el) (ht2 : (BA P t2).isSome = true) (hz : Bb P el = z) (hz0 : z ≠ 0) (hst : (BN P el).storable = true) (hzl : (BN P el).cells.length = z)
 (hroom : es.length + 1 ≤ 1073741824) (hb : Bj P el ≤ 65536) (H : BZ n m z o es) (he : e.cells.length = z) (hrow : II el = none := by rfl) :
 AZ P (hset (Aj o es h0) m (some (.cells e.cells))) (m + 1) .append [t, t2] [Aa z o es, .sl m 0 z 1 true] =
  some { val := .sl (m + 1) 0 z (es.length + 1) false, upd := o.map fun j => (j, none), new := some (.cells (es.flatMap SV.cells ++ e.cells)) } := by
 have hfl : flat (hset (Aj o es h0) m (some (.cells e.cells))) (.sl m 0 z 1 true) = some e.cells := by
  simp [flat, hset, Bi, he]
  exact List.take_of_length_le (by omega)
 have hr : EW (es.length + 1) (Bj P el) = true := by simp [EW]; exact ⟨by omega, hb⟩
 simp only [AZ, ht2, if_true, Ed, ht, F7, hfl, hz, hzl, hst]
 cases o with
 | none =>
  have := H.none rfl
  subst this
  simp [Aa, J6, hz0, hrow]
  have hr' : EW 1 (Bj P el) = true := by simpa using hr
  exact hr'
 | some j =>
  have hne : j ≠ m := by have := (H.lt j rfl).2; omega
  have hf : flat (hset (Aj (some j) es h0) m (some (.cells e.cells))) (.sl j 0 z es.length false) = some (es.flatMap SV.cells) := by
   simp only [flat, AD _ _ hne, Aj, AC, Bi, Nat.zero_add, BH H.size, Nat.le_refl, if_true, List.drop_zero]
   rw [← BH H.size, List.take_length]
  simp [Aa, J6, hz0, hf, hr, Io hrow]
theorem MK {h0 : Hp} {n m : Nat} {es : List SV} {e : SV} {o : Option Nat} {z : Nat} (ho : Fd h0 n) (hn : n ≤ m) (H : BZ n m z o es) :
 ∀ j y, Aj (some (m + 1)) (es ++ [e]) h0 j = some y →
  (DC.app (hset (Aj o es h0) m (some (.cells e.cells))) (m + 1) { val := .sl (m + 1) 0 z (es.length + 1) false, upd := o.map fun j => (j, none), new := some (.cells (es.flatMap SV.cells ++ e.cells)) }) j = some y := by
 intro j y hj
 simp only [Aj] at hj
 by_cases e1 : j = m + 1
 · subst e1
   rw [AC] at hj
   simp only [DC.app, AC]
   rw [← hj]; simp
 · rw [AD _ _ e1] at hj
   have hlt := (ho j y hj).1
   have hm : j ≠ m := by omega
   cases o with
   | none => simp [DC.app, AD _ _ e1, AD _ _ hm, Aj, hj]
   | some k =>
    have hk : j ≠ k := by have := (H.lt k rfl).1; omega
    simp [DC.app, AD _ _ e1, AD _ _ hm, AD _ _ hk, Aj, hj]
end
abbrev AA : Int → SV := .int .i64
structure FH where
 key : Int
 value : Int
 deriving DecidableEq
structure CF where
 rev : Int
 move : Int
 deriving DecidableEq
structure BD where
 rev : Int
 key : Int
 before : Int
 had : Bool
 deriving DecidableEq
structure AF where
 props : List FH
 ins : Int
 move : Int
 dels : List CF
 layers : List BD
 deriving DecidableEq
structure BF where
 id : Int
 author : ByteArray
 time : Int
 deriving DecidableEq
structure A6 where
 id : Int
 kind : Int
 name : ByteArray
 base : Int
 next : Int
 props : List FH
 deriving DecidableEq
structure Cu where
 format : Int
 start : Int
 template : ByteArray
 restart : Int
 deriving DecidableEq
structure GY where
 id : Int
 levels : List Cu
 deriving DecidableEq
structure Aw where
 id : Int
 parent : Int
 author : ByteArray
 time : Int
 text : ByteArray
 done : Bool
 deriving DecidableEq
structure GV where
 name : ByteArray
 value : ByteArray
 deriving DecidableEq
structure AM where
 styles : List A6
 lists : List GY
 comments : List Aw
 vars : List GV
 deriving DecidableEq
mutual
inductive AE where
 | mk (kind code id : Int) (text : ByteArray) (head : AF) (flow : List AE) (rows : List AS)
inductive AS where
 | mk (head : AF) (cells : List AK)
inductive AK where
 | mk (id : Int) (head : AF) (flow : List AE)
end
structure AI where
 flow : List AE
 «end» : AF
 revs : List BF
 settings : AM
def FH.enc (p : FH) : SV := .agg [AA p.key, AA p.value]
def CF.enc (p : CF) : SV := .agg [AA p.rev, AA p.move]
def BD.enc (p : BD) : SV := .agg [AA p.rev, AA p.key, AA p.before, .bool p.had]
abbrev Ah (l : List FH) : SV := .imm 2 (l.map FH.enc) false
abbrev Ao (l : List CF) : SV := .imm 2 (l.map CF.enc) false
abbrev AV (l : List BD) : SV := .imm 4 (l.map BD.enc) false
def AF.flat (h : AF) : List SV := [Ah h.props, AA h.ins, AA h.move, Ao h.dels, AV h.layers]
def AF.enc (h : AF) : SV := .agg h.flat
def BF.enc (r : BF) : SV := .agg [AA r.id, .str r.author, AA r.time]
abbrev A3 (l : List BF) : SV := .imm 3 (l.map BF.enc) false
def A6.enc (s : A6) : SV := .agg [AA s.id, AA s.kind, .str s.name, AA s.base, AA s.next, Ah s.props]
def Cu.enc (l : Cu) : SV := .agg [AA l.format, AA l.start, .str l.template, AA l.restart]
abbrev Cr (l : List Cu) : SV := .imm 4 (l.map Cu.enc) false
def GY.enc (l : GY) : SV := .agg [AA l.id, Cr l.levels]
def Aw.enc (c : Aw) : SV := .agg [AA c.id, AA c.parent, .str c.author, AA c.time, .str c.text, .bool c.done]
def GV.enc (v : GV) : SV := .agg [.str v.name, .str v.value]
abbrev AT (l : List A6) : SV := .imm 6 (l.map A6.enc) false
abbrev Dc (l : List GY) : SV := .imm 2 (l.map GY.enc) false
abbrev BQ (l : List Aw) : SV := .imm 6 (l.map Aw.enc) false
abbrev Ey (l : List GV) : SV := .imm 2 (l.map GV.enc) false
def AM.flat (s : AM) : List SV := [AT s.styles, Dc s.lists, BQ s.comments, Ey s.vars]
def AM.enc (s : AM) : SV := .agg s.flat
mutual
def AE.enc : AE → SV
 | .mk k c i t h f r => .agg ([AA k, AA c, AA i, .str t] ++ h.flat ++ [.imm 11 (AE.encL f) false, .imm 6 (AS.encL r) false])
def AE.encL : List AE → List SV
 | [] => []
 | x :: l => x.enc :: AE.encL l
def AS.enc : AS → SV
 | .mk h c => .agg (h.flat ++ [.imm 7 (AK.encL c) false])
def AS.encL : List AS → List SV
 | [] => []
 | x :: l => x.enc :: AS.encL l
def AK.enc : AK → SV
 | .mk i h f => .agg ([AA i] ++ h.flat ++ [.imm 11 (AE.encL f) false])
def AK.encL : List AK → List SV
 | [] => []
 | x :: l => x.enc :: AK.encL l
end
theorem AE.encL_eq (l : List AE) : AE.encL l = l.map AE.enc := by induction l with | nil => rfl | cons a l ih => rw [AE.encL, ih]; rfl
theorem AS.encL_eq (l : List AS) : AS.encL l = l.map AS.enc := by induction l with | nil => rfl | cons a l ih => rw [AS.encL, ih]; rfl
theorem AK.encL_eq (l : List AK) : AK.encL l = l.map AK.enc := by induction l with | nil => rfl | cons a l ih => rw [AK.encL, ih]; rfl
abbrev AG (l : List AE) : SV := .imm 11 (l.map AE.enc) false
abbrev Ay (l : List AS) : SV := .imm 6 (l.map AS.enc) false
abbrev Bt (l : List AK) : SV := .imm 7 (l.map AK.enc) false
def AE.kind : AE → Int | .mk k _ _ _ _ _ _ => k
def AE.code : AE → Int | .mk _ c _ _ _ _ _ => c
def AE.id : AE → Int | .mk _ _ i _ _ _ _ => i
def AE.text : AE → ByteArray | .mk _ _ _ t _ _ _ => t
def AE.head : AE → AF | .mk _ _ _ _ h _ _ => h
def AE.flow : AE → List AE | .mk _ _ _ _ _ f _ => f
def AE.rows : AE → List AS | .mk _ _ _ _ _ _ r => r
def AS.head : AS → AF | .mk h _ => h
def AS.cells : AS → List AK | .mk _ c => c
def AK.id : AK → Int | .mk i _ _ => i
def AK.head : AK → AF | .mk _ h _ => h
def AK.flow : AK → List AE | .mk _ _ f => f
theorem AE.enc_eq (x : AE) : x.enc = .agg [AA x.kind, AA x.code, AA x.id, .str x.text, Ah x.head.props, AA x.head.ins, AA x.head.move, Ao x.head.dels, AV x.head.layers, AG x.flow, Ay x.rows] := by
 cases x; simp [AE.enc, AF.flat, AE.encL_eq, AS.encL_eq]; exact ⟨rfl, rfl, rfl, rfl, rfl, rfl, rfl, rfl, rfl, rfl, rfl⟩
theorem AS.enc_eq (x : AS) : x.enc = .agg [Ah x.head.props, AA x.head.ins, AA x.head.move, Ao x.head.dels, AV x.head.layers, Bt x.cells] := by
 cases x; simp [AS.enc, AF.flat, AK.encL_eq]; exact ⟨rfl, rfl, rfl, rfl, rfl, rfl⟩
theorem AK.enc_eq (x : AK) : x.enc = .agg [AA x.id, Ah x.head.props, AA x.head.ins, AA x.head.move, Ao x.head.dels, AV x.head.layers, AG x.flow] := by
 cases x; simp [AK.enc, AF.flat, AE.encL_eq]; exact ⟨rfl, rfl, rfl, rfl, rfl, rfl, rfl⟩
def BS (s : ByteArray) : Nat → List Int
 | 0 => []
 | k + 1 => if Dt (Ad s k) then BS s k ++ [(k : Int)] else BS s k
theorem DE (s : ByteArray) : ∀ k, (BS s k).length = Ax s k
 | 0 => rfl
 | k + 1 => by simp only [BS, Ax]; split <;> simp [DE s k]
theorem c313 (s : ByteArray) (hs : s.size ≤ 1048576) : PC 313 [.str s] (.imm 1 ((BS s s.size ++ [(s.size : Int)]).map AA) false) := by
 intro h n
 refine gq Tryz.func313 rfl fun ho => ?_
 simp [go_sem]
 refine An 1 (α := Nat × Option Nat) (fun q => [(0, .str s), (3, Aa 1 q.2 ((BS s q.1).map AA)), (6, .int .i64 s.size), (7, .int .i64 q.1)]) (fun q => Aj q.2 ((BS s q.1).map AA) h)
  (fun q m => n ≤ m ∧ q.1 ≤ s.size ∧ BZ n m 1 q.2 ((BS s q.1).map AA)) (fun q => s.size - q.1) (0, none) ?_ ?_ AB ?_
 · exact ⟨Nat.le_refl _, by omega, BZ.nil _ _ _⟩
 · simp [Ai, BS, Aa]
 rintro ⟨k, o⟩ m ⟨hm, hk, hA⟩
 dsimp only at hk hA
 have hlen := DE s k
 have hle := Gz s k
 have w1 := wS k (by omega)
 by_cases hlt : k < s.size
 · obtain ⟨g1, g2⟩ := Di hlt
   have hap := app1 (P := Tryz.prog) (h0 := h) (e := AA k) (t := 61) (t2 := 61) (el := 3) (by simp [go_sem]) (by simp [go_sem]) (by simp [go_sem]) (by simp) (by simp [go_sem]) (by simp [go_sem]) (by simp; omega) (by simp [go_sem]) hA rfl
   simp only [SV.cells] at hap
   simp [go_sem, hlt, ← g2, w1, hap, -Int.natCast_add]
   split
   · rename_i hh
     have hc : Dt (Ad s k) = false := by simp only [Dt, Bool.not_eq_false', beq_iff_eq]; exact hh
     have hb : BS s (k + 1) = BS s k := by simp [BS, hc]
     exact ⟨k + 1, by omega, o, ⟨⟨hm, by omega, by rw [hb]; exact hA⟩, by rw [hb]; exact ⟨Fz.same, Fz.same⟩, by rw [hb]; exact AB⟩⟩
   · rename_i hh
     have hc : Dt (Ad s k) = true := by simp only [Dt, Bool.not_eq_true', beq_eq_false_iff_ne]; exact hh
     have hb : BS s (k + 1) = BS s k ++ [(k : Int)] := by simp [BS, hc]
     refine ⟨k + 1, by omega, some (m + 1), ⟨⟨by omega, by omega, ?_⟩, ⟨?_, Fz.same⟩, ?_⟩⟩
     · rw [hb, List.map_append]; exact hA.push rfl rfl (by omega) (by omega)
     · rw [hb]; simp [Aa]
     · rw [hb, List.map_append]; exact MK ho hm hA
 · have : k = s.size := by omega
   subst this
   have hap := app1 (P := Tryz.prog) (h0 := h) (e := AA s.size) (t := 61) (t2 := 61) (el := 3) (by simp [go_sem]) (by simp [go_sem]) (by simp [go_sem]) (by simp) (by simp [go_sem]) (by simp [go_sem]) (by simp; omega) (by simp [go_sem]) hA rfl
   simp only [SV.cells] at hap
   simp [go_sem, hap]
   refine S9 ho (hA.push (e := AA s.size) rfl rfl (Nat.le_succ_of_le hm) (Nat.lt_succ_self (m + 1))) (MK ho hm hA) (by simp [Aa]) ?_
   intro e he; simp at he; rcases he with ⟨_, _, rfl⟩ | rfl <;> rfl
def Bw (s : ByteArray) (u : Int) : Int × Int :=
 if BL s = false then (0, 12) else if u < 0 ∨ Ax s s.size + 1 ≤ u then (0, 2) else ((BS s s.size ++ [(s.size : Int)]).getD u.toNat 0, 0)
theorem c286 (s : ByteArray) (u : Int) (hs : s.size ≤ 1048576) : PC 286 [.str s, .int .i64 u] (.tup [.int .i64 (Bw s u).1, .int .i64 (Bw s u).2]) := by
 intro h n
 refine gq Tryz.func286 rfl fun ho => ?_
 simp [go_sem]
 refine (O8 s (by omega)).use ?_
 by_cases hv : BL s = true
 · simp [go_sem, hv]
   refine (c313 s hs).use ?_
   by_cases h1 : u < 0
   · simp [go_sem, h1]
     exact BC ho rfl (by simp [Bw, hv, h1])
   · by_cases h2 : Ax s s.size + 1 ≤ u
     · simp [go_sem, h1, h2, DE]
       exact BC ho rfl (by simp [Bw, hv, h1, h2])
     · have hl : u.toNat < (BS s s.size ++ [(s.size : Int)]).length := by simp [DE]; omega
       have hg : (List.map AA (BS s s.size) ++ [AA s.size])[u.toNat]? = some (AA ((BS s s.size ++ [(s.size : Int)]).getD u.toNat 0)) := by
        have : List.map AA (BS s s.size) ++ [AA s.size] = (BS s s.size ++ [(s.size : Int)]).map AA := by simp
        rw [this, List.getElem?_map, List.getElem?_eq_getElem hl, List.getD_eq_getElem?_getD, List.getElem?_eq_getElem hl]; rfl
       simp [go_sem, h1, h2, DE, hg, Int.not_lt.1 h1]
       exact BC ho rfl (by simp [Bw, hv, h1, h2])
 · simp [go_sem, hv]
   exact BC ho rfl (by simp [Bw, hv])
theorem Je (a b c : Int) : PC 155 [AA a, AA b, AA c] (.bool (decide (b ≤ a ∧ a ≤ c))) := by
 intro h n
 refine gq Tryz.func155 rfl fun ho => ?_
 by_cases h1 : b ≤ a <;> simp [go_sem, h1]
 · exact BC ho rfl (by simp [])
 · exact BC ho rfl (by simp [])
theorem Iv (b : Bool) (e : Int) : PC 87 [.bool b, AA e] (AA (if b then e else 0)) := by
 intro h n
 refine gq Tryz.func87 rfl fun ho => ?_
 cases b <;> simp [go_sem]
 · exact BC ho rfl rfl
 · exact BC ho rfl rfl
def Bo : List Int → Int
 | [] => 0
 | e :: l => if e = 0 then Bo l else e
theorem OF (l : List Int) (k : Nat) (hk : k < l.length) : Bo (l.drop k) = if l[k] = 0 then Bo (l.drop (k + 1)) else l[k] := by
 rw [List.drop_eq_getElem_cons hk, Bo]
theorem Ox (l : List Int) (hl : l.length ≤ 1048576) : PC 82 [.imm 1 (l.map AA) false] (AA (Bo l)) := by
 intro h n
 refine gq Tryz.func82 rfl fun ho => ?_
 simp [go_sem]
 refine An 1 (α := Nat) (fun k => [(5, .imm 1 (l.map AA) false), (6, AA l.length), (7, AA k)]) (fun _ => h) (fun k m => k ≤ l.length ∧ n ≤ m ∧ Bo l = Bo (l.drop k)) (fun k => l.length - k) 0 ?_ ?_ AB ?_
 · simp
 · simp [Ai]
 rintro k m ⟨hk, hnm, hf⟩
 by_cases hlt : k < l.length
 · have w1 := wS k (by omega)
   rw [OF l k hlt] at hf
   by_cases h0 : l[k] = 0
   · simp [go_sem, hlt, h0, w1, -Int.natCast_add]
     exact ⟨k + 1, by omega, ⟨by omega, hnm, by simpa [h0] using hf⟩, Fz.same⟩
   · simp [go_sem, hlt, h0]
     exact BC ho rfl (by simp [hf, h0])
 · simp [go_sem, hlt]
   have : k = l.length := by omega
   subst this
   simp [Bo] at hf
   exact BC ho rfl (by rw [hf])
def D6 (s : ByteArray) : Bool := decide (1 ≤ s.size ∧ s.size ≤ 40) && BL s
theorem c154 (s : ByteArray) (hs : s.size ≤ 1099511627776) : PC 154 [.str s] (.bool (D6 s)) := by
 intro h n
 refine gq Tryz.func154 rfl fun ho => ?_
 by_cases h1 : (1 : Int) ≤ s.size
 · have h1' : 1 ≤ s.size := by omega
   by_cases h2 : (s.size : Int) ≤ 40
   · have h2' : s.size ≤ 40 := by omega
     simp [go_sem, h1, h2]
     refine (O8 s hs).use ?_
     simp [go_sem]
     exact BC ho rfl (by simp [D6, h1', h2'])
   · have h2' : ¬ s.size ≤ 40 := by omega
     simp [go_sem, h1, h2]
     exact BC ho rfl (by simp [D6, h2'])
 · have h1' : ¬ 1 ≤ s.size := by omega
   simp [go_sem, h1]
   exact BC ho rfl (by simp [D6, h1'])
def Nj (s : ByteArray) : Int := Bo [if !BL s then 12 else 0, if decide ((1024 : Int) < s.size) then 10 else 0]
theorem c217 (s : ByteArray) (hs : s.size ≤ 1099511627776) : PC 217 [.str s] (AA (Nj s)) := by
 intro h n
 refine gq Tryz.func217 rfl fun ho => ?_
 simp [go_sem]
 refine (O8 s hs).use ?_
 simp [go_sem]
 refine (Iv _ _).use ?_
 simp [go_sem]
 refine (Iv _ _).use ?_
 simp [go_sem]
 refine (Ox [if !BL s then 12 else 0, if decide ((1024 : Int) < s.size) then 10 else 0] (by simp)).lend 2 rfl ?_ ?_
 · simp [AQ, Fz, hset, Bi, SV.storable, SV.cells]
 · simp [go_sem]
   exact Av ho (AO ho (Nat.le_refl _) AB) (by simp [Nj]) rfl
def GO (F : Nat → Int) (i : Nat) : Int := if ¬ (1 ≤ F i ∧ F i ≤ 1073741824) then 18 else if 0 < i ∧ F i = F (i - 1) then 7 else if 0 < i ∧ F i < F (i - 1) then 6 else 0
theorem To (i : Nat) (hi : i ≤ 1099511627776) (g : FuncId) (a b : List SV) (F : Nat → Int) (hF : ∀ j, j ≤ i → PC g (a ++ [AA j] ++ b) (AA (F j))) : PC 152 [AA i, .fn (.func g) a b] (AA (GO F i)) := by
 intro h n
 refine gq Tryz.func152 rfl fun ho => ?_
 have F0 := hF i (Nat.le_refl _)
 have F1 := hF (i - 1) (by omega)
 simp only [List.append_assoc, List.singleton_append] at F0 F1
 simp [go_sem]
 refine F0.use ?_
 simp [go_sem]
 refine (Je _ _ _).use ?_
 by_cases h1 : 1 ≤ F i ∧ F i ≤ 1073741824
 · by_cases h0 : 0 < i
   · have e1 : IntKind.i64.wrap ((i : Int) - 1) = ((i - 1 : Nat) : Int) := by rw [C8] <;> omega
     simp [go_sem, h1, h0]
     refine F0.use ?_
     simp [go_sem, e1]
     refine F1.use ?_
     by_cases h2 : F i = F (i - 1)
     · simp [go_sem, h2]
       have e : GO F i = 7 := by unfold GO; rw [if_neg (by simpa using h1), if_pos ⟨h0, h2⟩]
       exact BC ho rfl (by rw [e])
     · simp [go_sem, h2, h0]
       refine F0.use ?_
       simp [go_sem, e1]
       refine F1.use ?_
       by_cases h3 : F i < F (i - 1)
       · simp [go_sem, h3]
         exact BC ho rfl (by simp [GO, h1, h0, h2, h3])
       · simp [go_sem, h3]
         exact BC ho rfl (by simp [GO, h1, h0, h2, h3])
   · simp [go_sem, h1, h0]
     exact BC ho rfl (by simp [GO, h1, h0])
 · simp [go_sem, h1]
   exact BC ho rfl (by simp [GO, h1])
def Ev (F : Nat → Int) : Nat → Int
 | 0 => 0
 | n + 1 => if Ev F n = 0 then F n else Ev F n
theorem IR (F : Nat → Int) {k n : Nat} (hk : k < n) (h0 : Ev F k = 0) (h1 : F k ≠ 0) : Ev F n = F k := by
 induction n with
 | zero => omega
 | succ n ih =>
  rw [Ev]
  by_cases e : k = n
  · subst e; simp [h0]
  · have := ih (by omega)
    rw [this, if_neg h1]
theorem c150 (N : Nat) (hN : N ≤ 1099511627776) (g : FuncId) (a b : List SV) (F : Nat → Int) (hF : ∀ j, j < N → PC g (a ++ [AA j] ++ b) (AA (F j))) : PC 150 [AA N, .fn (.func g) a b] (AA (Ev F N)) := by
 intro h n
 refine gq Tryz.func150 rfl fun ho => ?_
 simp [go_sem]
 refine An 1 (α := Nat) (fun k => [(1, .fn (.func g) a b), (7, AA N), (8, AA k)]) (fun _ => h) (fun k m => k ≤ N ∧ n ≤ m ∧ Ev F k = 0) (fun k => N - k) 0 ?_ ?_ AB ?_
 · simp [Ev]
 · simp [Ai]
 rintro k m ⟨hk, hnm, hf⟩
 by_cases hlt : k < N
 · have w1 := wS k (by omega)
   have F0 := hF k hlt
   simp only [List.append_assoc, List.singleton_append] at F0
   simp [go_sem, hlt]
   refine F0.use ?_
   by_cases h0 : F k = 0
   · simp [go_sem, h0, w1, -Int.natCast_add]
     exact ⟨k + 1, by omega, ⟨by omega, hnm, by simp [Ev, hf, h0]⟩, Fz.same⟩
   · simp [go_sem, h0]
     exact BC ho rfl (by rw [IR F hlt hf h0])
 · simp [go_sem, hlt]
   have : k = N := by omega
   subst this
   exact BC ho rfl (by rw [hf])
theorem c153 (l : List BF) (i : Nat) (hi : i < l.length) : PC 153 [AA i, .iptr [A3 l]] (AA (l[i]).id) := by
 intro h n
 refine gq Tryz.func153 rfl fun ho => ?_
 simp [go_sem, hi, BF.enc]
 exact BC ho rfl rfl
def G6 (l : List BF) (i : Nat) : Int := match l[i]? with
 | some r => Bo [GO (fun j => match l[j]? with | some r => r.id | none => 0) i, if !D6 r.author then 39 else 0, if !decide (0 ≤ r.time ∧ r.time ≤ 1099511627776) then 40 else 0]
 | none => 0
theorem c151 (l : List BF) (i : Nat) (hi : i < l.length) (hl : l.length ≤ 1048576) (hs : ∀ r ∈ l, r.author.size ≤ 1048576) : PC 151 [AA i, .iptr [A3 l]] (AA (G6 l i)) := by
 intro h n
 refine gq Tryz.func151 rfl fun ho => ?_
 simp [go_sem]
 repeat first | refine nq ?_ | refine sq ?_
 have h152 := To i (by omega) 153 [] [.iptr [A3 l]] (fun j => match l[j]? with | some r => r.id | none => 0) (fun j hj => by
  have hjl : j < l.length := by omega
  simpa [hjl] using c153 l j hjl)
 refine Bg.pure _ _ _ _ _ _ h152 ?_
 simp [go_sem, hi, BF.enc]
 repeat first | refine nq ?_ | refine sq ?_
 refine Bg.pure _ _ _ _ _ _ (c154 _ (by have := hs _ (List.getElem_mem hi); omega)) ?_
 simp [go_sem]
 repeat first | refine nq ?_ | refine sq ?_
 refine Bg.pure _ _ _ _ _ _ (Iv _ _) ?_
 simp [go_sem, hi, BF.enc]
 repeat first | refine nq ?_ | refine sq ?_
 refine Bg.pure _ _ _ _ _ _ (Je _ _ _) ?_
 simp [go_sem]
 repeat first | refine nq ?_ | refine sq ?_
 refine Bg.pure _ _ _ _ _ _ (Iv _ _) ?_
 simp [go_sem]
 repeat first | refine nq ?_ | refine sq ?_
 refine Bg.lend _ _ _ _ _ _ 2 [n] (Ox [GO (fun j => match l[j]? with | some r => r.id | none => 0) i, if !D6 (l[i]).author then 39 else 0, if !decide (0 ≤ (l[i]).time ∧ (l[i]).time ≤ 1099511627776) then 40 else 0] (by simp)) rfl (by simp) (fun h' hh => ?_) ?_
 · have := hh n (by simp)
   simp [hset] at this
   simp [AQ, Fz, this, Bi, SV.storable, SV.cells]
 simp [go_sem]
 repeat first | refine nq ?_ | refine sq ?_
 exact Av ho (AO ho (Nat.le_refl _) AB) (by simp [G6, hi]) rfl
def DT (l : List BF) : Int := Bo [if decide (256 < (l.length : Int)) then 9 else 0, Ev (G6 l) (min l.length 256)]
theorem c84 (l : List BF) (hl : l.length ≤ 1048576) (hs : ∀ r ∈ l, r.author.size ≤ 1048576) : PC 84 [A3 l] (AA (DT l)) := by
 intro h n
 refine gq Tryz.func84 rfl fun ho => ?_
 simp [go_sem, AC]
 repeat first | refine nq ?_ | refine sq ?_
 refine Bg.pure _ _ _ _ _ _ (Iv _ _) ?_
 have emin : (if (256 : Int) < (l.length : Int) then (256 : Int) else (l.length : Int)) = ((min l.length 256 : Nat) : Int) := by split <;> omega
 simp [go_sem, AC, emin]
 repeat first | refine nq ?_ | refine sq ?_
 have h150 := c150 (min l.length 256) (by omega) 151 [] [.iptr [A3 l]] (G6 l) (fun j hj => c151 l j (by omega) hl hs)
 refine Bg.lend _ _ _ _ _ _ 3 [n] h150 rfl (by simp) (fun h' hh => ?_) ?_
 · have := hh n (by simp)
   simp [hset] at this
   simp [AQ, Fz, this]
 simp [go_sem]
 repeat first | refine nq ?_ | refine sq ?_
 refine Bg.lend _ _ _ _ _ _ 2 [n + 1] (Ox [if decide (256 < (l.length : Int)) then 9 else 0, Ev (G6 l) (min l.length 256)] (by simp)) rfl (by simp) (fun h' hh => ?_) ?_
 · have := hh (n + 1) (by simp)
   simp [hset] at this
   simp [AQ, Fz, this, Bi, SV.storable, SV.cells]
 simp [go_sem]
 repeat first | refine nq ?_ | refine sq ?_
 exact Av ho (AO ho (Nat.le_succ n) (AO ho (Nat.le_refl _) AB)) (by simp [DT]) rfl
theorem Tp (a : Int) : PC 170 [AA a] (.bool false) := by
 intro h n
 refine gq Tryz.func170 rfl fun ho => ?_
 simp [go_sem]
 exact BC ho rfl rfl
def HU (a b : Int) : Int := if a < b then -1 else if b < a then 1 else 0
theorem Sa (a b : Int) : PC 100 [AA a, AA b] (AA (HU a b)) := by
 intro h n
 refine gq Tryz.func100 rfl fun ho => ?_
 simp [go_sem]
 refine (Tp _).use ?_
 simp [go_sem]
 refine (Tp _).use ?_
 by_cases h1 : a < b <;> by_cases h2 : b < a <;> simp [go_sem, h1, h2]
 all_goals exact BC ho rfl (by simp [HU, h1, h2])
def BK (p : Nat → Bool) (n : Nat) (k : Nat) : Int := if _ : k < n then if p k then k else BK p n (k + 1) else -1
termination_by n - k
theorem Fe (p : Nat → Bool) (n k : Nat) : BK p n k = -1 ∨ ∃ i, k ≤ i ∧ i < n ∧ BK p n k = i ∧ p i = true := by
 rw [BK]
 by_cases h : k < n
 · by_cases hp : p k = true
   · exact .inr ⟨k, Nat.le_refl _, h, by simp [h, hp], hp⟩
   · have := Fe p n (k + 1)
     simp only [h, dite_true, hp]
     rcases this with e | ⟨i, h1, h2, h3, h4⟩
     · exact .inl (by simpa using e)
     · exact .inr ⟨i, by omega, h2, by simpa using h3, h4⟩
 · exact .inl (by simp [h])
termination_by n - k
theorem c178 (l : List Int) (x : Int) (hl : l.length ≤ 1048576) : PC 178 [.imm 1 (l.map AA) false, AA x] (AA (BK (fun i => decide (l[i]? = some x)) l.length 0)) := by
 intro h n
 refine gq Tryz.func178 rfl fun ho => ?_
 simp [go_sem]
 refine An 1 (α := Nat) (fun k => [(0, .imm 1 (l.map AA) false), (1, AA x), (7, AA l.length), (8, AA k)]) (fun _ => h) (fun k m => k ≤ l.length ∧ n ≤ m ∧ BK (fun i => decide (l[i]? = some x)) l.length 0 = BK (fun i => decide (l[i]? = some x)) l.length k) (fun k => l.length - k) 0 ?_ ?_ AB ?_
 · simp
 · simp [Ai]
 rintro k m ⟨hk, hnm, hf⟩
 rw [BK.eq_def _ _ k] at hf
 by_cases hlt : k < l.length
 · have w1 := wS k (by omega)
   by_cases h0 : x = l[k]
   · simp [go_sem, hlt, h0]
     exact BC ho rfl (by rw [← h0, hf]; simp [hlt, h0])
   · simp [go_sem, hlt, h0, w1, -Int.natCast_add]
     exact ⟨k + 1, by omega, ⟨by omega, hnm, by rw [hf]; simp [hlt, Ne.symm h0]⟩, Fz.same⟩
 · simp [go_sem, hlt]
   exact BC ho rfl (by rw [hf]; simp [hlt])
theorem PP (l : List Int) (x : Int) : decide (0 ≤ BK (fun i => decide (l[i]? = some x)) l.length 0) = decide (x ∈ l) := by
 have gen : ∀ k, k ≤ l.length → (0 ≤ BK (fun i => decide (l[i]? = some x)) l.length k ↔ x ∈ l.drop k) := by
  intro k hk
  induction hd : l.length - k generalizing k with
  | zero =>
   have : k = l.length := by omega
   subst this
   rw [BK]; simp
  | succ d ih =>
   have hlt : k < l.length := by omega
   have hd : x ∈ l.drop k ↔ x = l[k] ∨ x ∈ l.drop (k + 1) := by rw [List.drop_eq_getElem_cons hlt, List.mem_cons]
   rw [BK, hd]
   by_cases e : l[k] = x
   · simp [hlt, e]
   · have := ih (k + 1) (by omega) (by omega)
     simp [hlt, e, this, Ne.symm e]
 have := gen 0 (Nat.zero_le _)
 simp only [List.drop_zero] at this
 simp [this]
theorem c113 (l : List Int) (x : Int) (hl : l.length ≤ 1048576) : PC 113 [.imm 1 (l.map AA) false, AA x] (.bool (decide (x ∈ l))) := by
 intro h n
 refine gq Tryz.func113 rfl fun ho => ?_
 simp [go_sem]
 refine (c178 l x hl).use ?_
 simp [go_sem]
 exact BC ho rfl (by rw [PP])
def E6 (c : Nat → Int) (i j : Nat) : Nat := if _ : i < j then if c ((i + j) / 2) < 0 then E6 c ((i + j) / 2 + 1) j else E6 c i ((i + j) / 2) else i
termination_by j - i
theorem NA (c : Nat → Int) (i j : Nat) (h : i ≤ j) : i ≤ E6 c i j ∧ E6 c i j ≤ j := by
 rw [E6]
 split
 · split
   · have := NA c ((i + j) / 2 + 1) j (by omega); omega
   · have := NA c i ((i + j) / 2) (by omega); omega
 · omega
termination_by j - i
def A7 (c : Nat → Int) (n : Nat) : Nat × Bool := (E6 c 0 n, decide (E6 c 0 n < n ∧ c (E6 c 0 n) = 0))
theorem SL {x : Int} (h0 : 0 ≤ x) (h1 : x ≤ 4611686018427387904) : IntKind.u64.wrap x = x := IntWalk.u64_in x (by omega)
end Go.Proofs.YtgakninlhfkkmaaGreat.Sh
