/- A part of the proof (part 3 of 14). -/
import Derived.Test.YtgakninlhfkkmaaGreatM2
import Derived.Test.YtgakninlhfkkmaaGreatProg
import Derived.KernelRfl
import Derived.Tactics
import Derived.IntWalk
namespace Go.Proofs.YtgakninlhfkkmaaGreat.Sh
abbrev Jo := @Fz.same
abbrev ZT := @Ak.mono
abbrev Zi := @F5.refl
def M8 (f : Nat → SV) : Operand → SV
 | .tmp t => f t
 | .const v => ofValue v
 | .global _ => .junk
 | .func g => .fn (.func g) [] []
theorem PI (sa : SA) : GZ sa = M8 (Am sa) := by funext x; cases x <;> rfl
def FY (ops : Array Oper) (f : Nat → SV) (o : Oper) : Option Bool :=
 match o.guard with
 | none => some true
 | some (j, want) =>
  match (ops[j]?).bind (·.dst) with
  | some d => match f d with | .bool b => some (b == want) | .tup [] => some false | _ => none
  | none => none
theorem H4 (ops : Array Oper) (sa : SA) (o : Oper) : DR ops sa o = FY ops (Am sa) o := rfl
structure RA (E : By) (N : Nat) (f : Nat → SV) (c : Cx) (a : Act) : Prop where
 size : a.tmps.size = N
 defers : Nh E c a.defers
 val : ∀ t, V c (f t) (a.tmps.getD t undef)
structure CP where
 dst : Option Tmp
 val : SV
 foot : List Nat := []
 wr : List (Nat × Option BY) := []
 new : List (Nat × Option BY) := []
def CP.tw (r : CP) : List (Nat × SV) := r.dst.toList.map fun d => (d, r.val)
def CP.hw (r : CP) : List (Nat × Option BY) := r.wr ++ r.new
def Jb (E : By) (P : Program) (N : Nat) (o : Oper) (f : Nat → SV) (h : Hp) (n : Nat) (r : CP) : Prop :=
 ∀ (f' : Nat → SV) (h' : Hp) (c : Cx) (a : Act) (Kr : Act → World → Prop) (Qr : Exit → Act → World → Prop), (∀ x ∈ o.op.operands, M8 f' x = M8 f x) → (∀ j ∈ r.foot, h' j = h j) → E.inv c → B5 h' c → Fr n c →
  (∀ j ∈ Au r.new, c.ρ j = none) → RA E N f' c a →
  (∀ c' u, V c' r.val u → B5 (CK h' r.hw) c' → Fr n c' → Dc c c' → (∀ j, j ∉ Au r.new → c'.ρ j = c.ρ j) → Kr (a.put o.dst u) c'.w) → o.wpIn E.fc 0 P a c.w Kr Qr
def Kp (E : By) (P : Program) (g : FuncId) (aS : List SV) (foot : List Nat) (wr : List (Nat × Option BY)) (v : SV) (h : Hp) : Prop :=
 ∀ (h' : Hp) (n : Nat), (∀ j ∈ foot, h' j = h j) → Ak E P g aS h' n fun v' h2 n2 => v' = v ∧ h2 = CK h' wr ∧ n2 = n
def Ef (ops : Array Oper) (j i : Nat) : Bool := match ops[i]? with | some o => o.after.any fun e => Region.binds .any e && e.on == j | none => false
def Ep (ops : Array Oper) : Bool := (List.range ops.size).all fun i =>
 match ops[i]? with
 | some oi => (oi.after.all fun e => !Region.binds .any e || decide (e.on < i)) && (List.range i).all fun j => Ef ops j i || (match ops[j]? with | some oj => oj.apart ops oi | none => true)
 | none => true
theorem NQ {ops : Array Oper} (h : Ep ops = true) {i : Nat} {oi : Oper} (hi : ops[i]? = some oi) : ∀ e ∈ oi.after, Region.binds .any e = true → e.on < i := by
 intro e he hb
 have hlt := (KA.1 hi).1
 have := Ys.1 h i (List.mem_range.2 hlt)
 simp only [hi, KB] at this
 have := Array.all_eq_true'.1 this.1 e he
 simpa [hb] using this
theorem Ga {ops : Array Oper} (h : Ep ops = true) {i j : Nat} {oi oj : Oper} (hi : ops[i]? = some oi) (hj : ops[j]? = some oj) (hji : j < i) (hd : Ef ops j i = false) : oj.apart ops oi = true := by
 have hlt := (KA.1 hi).1
 have := Ys.1 h i (List.mem_range.2 hlt)
 simp only [hi, KB] at this
 have := Ys.1 this.2 j (List.mem_range.2 hji)
 simpa [hd, hj] using this
structure Pp (E : By) (P : Program) (N : Nat) (ops : Array Oper) (f0 : Nat → SV) (h0 : Hp) (n0 n : Nat) (rs : List CP) : Prop where
 len : rs.length = ops.size
 stat : Ep ops = true
 dok : ∀ (i : Nat) (o : Oper), ops[i]? = some o → ∀ d, o.dst = some d → d < N
 ok : ∀ (i : Nat) (o : Oper) (r : CP), ops[i]? = some o → rs[i]? = some r → r.dst = o.dst ∧ (∀ j ∈ Au r.wr, j ∈ r.foot) ∧
  ((FY ops (EE (rs.map CP.tw) (fun q => decide (q < i)) 0 f0) o = some false ∧ r.val = .tup [] ∧ r.foot = [] ∧ r.wr = [] ∧ r.new = []) ∨
   (FY ops (EE (rs.map CP.tw) (fun q => decide (q < i)) 0 f0) o = some true ∧
    Jb E P N o (EE (rs.map CP.tw) (fun q => decide (q < i)) 0 f0) (EE (rs.map CP.hw) (fun q => decide (q < i)) 0 h0) n r))
 ind : ∀ (i j : Nat) (ri rj : CP), j < i → rs[i]? = some ri → rs[j]? = some rj → Ef ops j i = false →
  (∀ k ∈ Au rj.wr, k ∉ ri.foot) ∧ (∀ k ∈ Au ri.wr, k ∉ rj.foot) ∧ (∀ k ∈ Au rj.new, k ∉ ri.foot)
 newlo : ∀ (i : Nat) (r : CP), rs[i]? = some r → ∀ k ∈ Au r.new, n0 ≤ k ∧ k < n
 newne : ∀ (i j : Nat) (ri rj : CP), i ≠ j → rs[i]? = some ri → rs[j]? = some rj → ∀ k ∈ Au ri.new, k ∉ Au rj.new
 newfoot : ∀ (i j : Nat) (ri rj : CP), j ≤ i → rs[i]? = some ri → rs[j]? = some rj → ∀ k ∈ Au ri.new, k ∉ rj.foot
section
variable {E : By} {P : Program} {N : Nat} {ops : Array Oper} {f0 : Nat → SV} {h0 : Hp} {n0 n : Nat} {rs : List CP}
theorem LB {f : Nat → SV} {c : Cx} {a : Act} {o : Oper} {b : Bool} (F : RA E N f c a) (hg : FY ops f o = some b) : Region.wanted o (yielded ops a.tmps) = b := by
 unfold FY at hg
 unfold Region.wanted
 split at hg
 · rename_i e; rw [e]; simpa using hg
 · rename_i j want e
   rw [e]
   split at hg <;> try cases hg
   rename_i d hd
   split at hg <;> try cases hg
   · rename_i b' hb
     have hv := F.val d
     rw [hb] at hv
     have := GX hv
     simp only [yielded, hd, Yd]
     have hget : a.tmps[d]? = some (.bool b') := by
      rcases Yr d a.tmps.size with hl | hl
      · rw [Ym, YB hl] at this
        rw [YB hl]; simpa using this
      · rw [Ym, YE hl] at this
        cases this
     rw [hget]
     simp
   · rename_i hb
     have hv := F.val d
     rw [hb, V] at hv
     obtain ⟨vs, hv, _⟩ := hv
     simp only [yielded, hd, Yd]
     rcases Yr d a.tmps.size with hl | hl
     · rw [Ym, YB hl] at hv
       rw [YB hl]
       simp only [Xl] at hv
       rw [hv]; rfl
     · rw [YE hl]; rfl
theorem NW {r : CP} {t : Nat} : t ∈ Au r.tw ↔ r.dst = some t := by
 unfold CP.tw Au
 cases h : r.dst <;> simp [eq_comm]
theorem RA.put {f : Nat → SV} {c : Cx} {a : Act} (h : RA E N f c a) {r : CP} (hd : ∀ d, r.dst = some d → d < N) {u : Value} (hv : V c r.val u) : RA E N (CK f r.tw) c (a.put r.dst u) := by
 unfold CP.tw
 cases e : r.dst with
 | none => exact h
 | some d =>
  refine ⟨by simpa [Act.put] using h.size, h.defers, fun t => ?_⟩
  simp only [Option.toList_some, Y3, YR, CK, YO, List.foldl_nil, RF, Act.put]
  by_cases et : t = d
  · subst et
    have := hd t e
    have hs := h.size
    simp [hs, this, hv]
  · simp only [et, if_false]
    have := h.val t
    simpa [YX (Ne.symm et)] using this
structure At (E : By) (P : Program) (N : Nat) (ops : Array Oper) (f0 : Nat → SV) (h0 : Hp) (n0 n : Nat) (rs : List CP) (c0 : Cx) (listed : Array Bool) (c : Cx) (a : Act) : Prop where
 size : listed.size = ops.size
 closed : ∀ (i : Nat) (o : Oper), ops[i]? = some o → listed.getD i false = true → ∀ e ∈ o.after, Region.binds .any e = true → listed.getD e.on false = true
 inv : E.inv c
 rel : B5 (EE (rs.map CP.hw) (fun q => listed.getD q false) 0 h0) c
 fr : RA E N (EE (rs.map CP.tw) (fun q => listed.getD q false) 0 f0) c a
 free : Fr n c
 ext : Dc c0 c
 same : ∀ j, j < n0 → c.ρ j = c0.ρ j
 new : ∀ (i : Nat) (r : CP), rs[i]? = some r → listed.getD i false = false → ∀ k ∈ Au r.new, c.ρ k = none
theorem GQ {listed : Array Bool} {i : Nat} (h : i < listed.size) (b : Bool) : listed.getD i b = listed[i] := by simp [Array.getD, h]
theorem QS (G : Pp E P N ops f0 h0 n0 n rs) {c0 c : Cx} {listed : Array Bool} {a : Act} (A : At E P N ops f0 h0 n0 n rs c0 listed c a) {i : Nat} (hi : i ∈ Region.ready .any ops listed)
 {Qr : Exit → Act → World → Prop} {Kr : Act → World → Prop} (hK : ∀ c' a', At E P N ops f0 h0 n0 n rs c0 (listed.setIfInBounds i true) c' a' → Kr a' c'.w) : wpOpIn E.fc 0 P ops Qr i Kr a c.w := by
 obtain ⟨hun, o, ho, hall⟩ := mem_ready.1 hi
 have hlt := (KA.1 ho).1
 have hunF : listed.getD i false = false := by rw [GQ (by rw [A.size]; exact hlt)] at hun ⊢; exact hun
 obtain ⟨r, hr⟩ : ∃ r, rs[i]? = some r := ⟨rs[i]'(by rw [G.len]; exact hlt), by simp⟩
 obtain ⟨hdst, hwf, hok⟩ := G.ok i o r ho hr
 have lsel : ∀ {α : Type} (g : CP → List (Nat × α)) (q : Nat) (w : List (Nat × α)), (rs.map g)[q]? = some w → ∃ rq, rs[q]? = some rq ∧ w = g rq := fun g q w hq => by
  simp only [Yh, Yn] at hq
  obtain ⟨rq, h1, rfl⟩ := hq; exact ⟨rq, h1, rfl⟩
 have oq : ∀ (q : Nat) (rq : CP), rs[q]? = some rq → ∃ oq, ops[q]? = some oq := fun q rq hq => ⟨ops[q]'(by rw [← G.len]; exact (Ky.1 hq).1), by simp⟩
 have e1 : ∀ q, listed.getD q false = false → Ef ops q i = false := fun q hq => by
  unfold Ef
  rw [ho]
  simp only
  rw [Array.any_eq_false']
  intro e he
  rw [KB, beq_iff_eq]
  rintro ⟨hb, rfl⟩
  rw [hall e he hb] at hq; cases hq
 have e2 : ∀ q, listed.getD q false = true → Ef ops i q = false := fun q hq => by
  unfold Ef
  cases hoq : ops[q]? with
  | none => rfl
  | some oq =>
   simp only
   rw [Array.any_eq_false']
   intro e he
   rw [KB, beq_iff_eq]
   rintro ⟨hb, rfl⟩
   have := A.closed q oq hoq hq e he hb
   rw [hunF] at this; cases this
 have agreeT : ∀ t, t ∈ o.looksAt ops → EE (rs.map CP.tw) (fun q => listed.getD q false) 0 f0 t = EE (rs.map CP.tw) (fun q => decide (q < i)) 0 f0 t := fun t ht => by
  refine Gm fun q w _ hw hne => ?_
  rw [ZG] at hw
  obtain ⟨rq, hrq, rfl⟩ := lsel _ q w hw
  obtain ⟨oq', hoq⟩ := oq q rq hrq
  have hdq := (G.ok q oq' rq hoq hrq).1
  rw [NW, hdq]
  intro hdt
  rcases Nat.lt_trichotomy q i with hq | hq | hq
  · have hnl : listed.getD q false = false := by cases hx : listed.getD q false with | false => rfl | true => rw [hx] at hne; simp [hq] at hne
    exact (Oper.apart_spec (Ga G.stat ho hoq hq (e1 q hnl))).1 t hdt ht
  · subst hq; rw [hunF] at hne; simp at hne
  · have hl : listed.getD q false = true := by cases hx : listed.getD q false with | true => rfl | false => rw [hx] at hne; simp [Nat.not_lt.2 (Zk hq)] at hne
    exact (Oper.apart_spec (Ga G.stat hoq ho hq (e2 q hl))).2.2 t hdt ht
 have agreeH : ∀ k ∈ r.foot, EE (rs.map CP.hw) (fun q => listed.getD q false) 0 h0 k = EE (rs.map CP.hw) (fun q => decide (q < i)) 0 h0 k := fun k hk => by
  refine Gm fun q w _ hw hne => ?_
  rw [ZG] at hw
  obtain ⟨rq, hrq, rfl⟩ := lsel _ q w hw
  simp only [CP.hw, Au, K1, Kz]
  rcases Nat.lt_trichotomy q i with hq | hq | hq
  · have hnl : listed.getD q false = false := by cases hx : listed.getD q false with | false => rfl | true => rw [hx] at hne; simp [hq] at hne
    have := G.ind i q r rq hq hr hrq (e1 q hnl)
    rintro (h1 | h1)
    · exact this.1 k h1 hk
    · exact this.2.2 k h1 hk
  · subst hq; rw [hunF] at hne; simp at hne
  · have hl : listed.getD q false = true := by cases hx : listed.getD q false with | true => rfl | false => rw [hx] at hne; simp [Nat.not_lt.2 (Zk hq)] at hne
    have := G.ind q i rq r hq hrq hr (e2 q hl)
    rintro (h1 | h1)
    · exact this.2.1 k h1 hk
    · exact G.newfoot q i rq r (Zk hq) hrq hr k h1 hk
 have hD : (fun q => (listed.setIfInBounds i true).getD q false) = fun q => listed.getD q false || q == i := by
  funext q
  by_cases hq : q = i
  · subst hq; simp [A.size, hlt]
  · have : (q == i) = false := by simp; exact hq
    rw [this, Bool.or_false]
    simp [YX (Ne.symm hq)]
 have insT : ∀ t, EE (rs.map CP.tw) (fun q => listed.getD q false || q == i) 0 f0 t = CK (EE (rs.map CP.tw) (fun q => listed.getD q false) 0 f0) r.tw t := by
  refine Io hunF (K2 _) (by simp [hr]) fun q w hq _ hw hl k hk hk2 => ?_
  rw [ZG] at hw
  obtain ⟨rq, hrq, rfl⟩ := lsel _ q w hw
  obtain ⟨oq', hoq⟩ := oq q rq hrq
  rw [NW, hdst] at hk
  rw [NW, (G.ok q oq' rq hoq hrq).1] at hk2
  exact (Oper.apart_spec (Ga G.stat hoq ho hq (e2 q hl))).2.1 k hk hk2
 have insH : ∀ k, EE (rs.map CP.hw) (fun q => listed.getD q false || q == i) 0 h0 k = CK (EE (rs.map CP.hw) (fun q => listed.getD q false) 0 h0) r.hw k := by
  refine Io hunF (K2 _) (by simp [hr]) fun q w hq _ hw hl k hk hk2 => ?_
  rw [ZG] at hw
  obtain ⟨rq, hrq, rfl⟩ := lsel _ q w hw
  obtain ⟨oq', hoq⟩ := oq q rq hrq
  have hI := G.ind q i rq r hq hrq hr (e2 q hl)
  have hwq := (G.ok q oq' rq hoq hrq).2.1
  simp only [CP.hw, Au, K1, Kz] at hk hk2
  rcases hk with hk | hk <;> rcases hk2 with hk2 | hk2
  · exact hI.1 k hk (hwq k hk2)
  · exact G.newfoot q i rq r (Zk hq) hrq hr k hk2 (hwf k hk)
  · exact hI.2.2 k hk (hwq k hk2)
  · exact G.newne i q r rq (by omega) hr hrq k hk hk2
 have behind : ∀ c' u, V c' r.val u → B5 (CK (EE (rs.map CP.hw) (fun q => listed.getD q false) 0 h0) r.hw) c' → Fr n c' → Dc c c' → (∀ j, j ∉ Au r.new → c'.ρ j = c.ρ j) → Kr (a.put o.dst u) c'.w := by
  intro c' u hv R' F' X' hρ
  refine hK c' _ ⟨by simp [A.size], fun j oj hoj hl e he hb => ?_, E.ext X' A.inv, ?_, ?_, F', A.ext.trans X', fun j hj => ?_, fun j rj hrj hl k hk => ?_⟩
  · by_cases hji : j = i
    · subst hji
      rw [ho] at hoj; cases hoj
      exact getD_set_true (hall e he hb)
    · rw [getD_set_ne false (Ne.symm hji)] at hl
      exact getD_set_true (A.closed j oj hoj hl e he hb)
  · rw [hD]
    have : EE (rs.map CP.hw) (fun q => listed.getD q false || q == i) 0 h0 = CK (EE (rs.map CP.hw) (fun q => listed.getD q false) 0 h0) r.hw := funext insH
    rw [this]; exact R'
  · rw [hD]
    have : EE (rs.map CP.tw) (fun q => listed.getD q false || q == i) 0 f0 = CK (EE (rs.map CP.tw) (fun q => listed.getD q false) 0 f0) r.tw := funext insT
    rw [this, ← hdst]
    have FE : RA E N (EE (rs.map CP.tw) (fun q => listed.getD q false) 0 f0) c' a := ⟨A.fr.size, A.fr.defers.mono X', fun t => ZH X' (A.fr.val t)⟩
    exact FE.put (fun d hd => G.dok i o ho d (by rw [← hdst]; exact hd)) hv
  · rw [hρ j fun hj2 => by have := (G.newlo i r hr j hj2).1; omega]
    exact A.same j hj
  · by_cases hji : j = i
    · subst hji
      rw [show (listed.setIfInBounds j true).getD j false = true by simp [A.size, hlt]] at hl
      cases hl
    · rw [getD_set_ne false (Ne.symm hji)] at hl
      rw [hρ k fun hk2 => G.newne j i rj r hji hrj hr k hk hk2]
      exact A.new j rj hrj hl k hk
 have guardEq : FY ops (EE (rs.map CP.tw) (fun q => listed.getD q false) 0 f0) o = FY ops (EE (rs.map CP.tw) (fun q => decide (q < i)) 0 f0) o := by
  unfold FY
  cases hg : o.guard with
  | none => rfl
  | some p =>
   obtain ⟨j, want⟩ := p
   simp only
   cases hd : (ops[j]?).bind (·.dst) with
   | none => rfl
   | some d =>
    simp only
    rw [agreeT d (by simp [Oper.looksAt, hg, hd])]
 unfold wpOpIn
 rw [ho]
 simp only
 rcases hok with ⟨hg, hv, _, hw0, hn0⟩ | ⟨hg, hstep⟩
 · rw [LB A.fr (guardEq.trans hg)]
   simp only [KC, if_false]
   refine ⟨fun _ _ => trivial, ?_⟩
   refine behind c undef (by rw [hv]; exact Kc) ?_ A.free (Xh c) fun _ _ => rfl
   have : r.hw = [] := by simp [CP.hw, hw0, hn0]
   rw [this]; exact A.rel
 · rw [LB A.fr (guardEq.trans hg), if_pos rfl]
   refine (hstep _ _ c a _ _ (fun x hx => ?_) agreeH A.inv A.rel A.free (A.new i r hr hunF) A.fr behind)
   cases x with
   | tmp t => exact agreeT t (by simp only [Oper.looksAt, Kz, List.mem_filterMap]; exact .inl ⟨.tmp t, by simpa using hx, rfl⟩)
   | _ => rfl
end
section
variable {E : By} {P : Program} {N : Nat} {ops : Array Oper} {f0 : Nat → SV} {h0 : Hp} {n0 n : Nat} {rs : List CP}
def Sp (listed : Array Bool) : Nat := listed.toList.count false
theorem JT {listed : Array Bool} {i : Nat} (hi : i < listed.size) (h : listed.getD i false = false) : Sp (listed.setIfInBounds i true) + 1 = Sp listed := by
 have hv : listed.toList[i]'(by simpa using hi) = false := by rw [GQ hi] at h; simpa using h
 have hpos : 0 < listed.toList.count false := List.count_pos_iff.2 (by rw [← hv]; exact Kn _)
 unfold Sp
 rw [Array.toList_setIfInBounds, List.count_set (h := by simpa using hi), hv]
 have e1 : (if (false == false) = true then 1 else 0) = 1 := rfl
 have e2 : (if (true == false) = true then 1 else 0) = 0 := rfl
 rw [e1, e2]
 omega
theorem O3 (hst : Ep ops = true) {listed : Array Bool} (hs : listed.size = ops.size) (hr : Region.ready .any ops listed = []) : ∀ i, i < ops.size → listed.getD i false = true := by
 intro i
 induction i using Nat.strongRecOn with
 | _ i ih =>
  intro hi
  cases h : listed.getD i false with
  | true => rfl
  | false =>
   exfalso
   have hoi : ops[i]? = some ops[i] := by simp [hi]
   have : i ∈ Region.ready .any ops listed := mem_ready.2 ⟨by rw [GQ (by omega)] at h ⊢; exact h, ops[i], hoi, fun e he hb => by
    have hlt := NQ hst hoi e he hb
    exact ih e.on hlt (by omega)⟩
   rw [hr] at this; cases this
theorem NK {listed : Array Bool} (hs : listed.size = ops.size) (h : Sp listed = 0) : Region.ready .any ops listed = [] := by
 cases hr : Region.ready .any ops listed with
 | nil => rfl
 | cons i l =>
  exfalso
  obtain ⟨hun, o, ho, _⟩ := mem_ready.1 (show i ∈ Region.ready .any ops listed by rw [hr]; simp)
  have hlt := (KA.1 ho).1
  have hF : listed.getD i false = false := by rw [GQ (by omega)] at hun ⊢; exact hun
  have := JT (by omega) hF
  omega
theorem Rc (G : Pp E P N ops f0 h0 n0 n rs) {c0 : Cx} {Qr : Exit → Act → World → Prop}
 (hQ : ∀ c' a', B5 (EE (rs.map CP.hw) (fun q => decide (q < ops.size)) 0 h0) c' → RA E N (EE (rs.map CP.tw) (fun q => decide (q < ops.size)) 0 f0) c' a' → Fr n c' → Dc c0 c' → (∀ j, j < n0 → c'.ρ j = c0.ρ j) → Qr .normal a' c'.w) :
 ∀ (fuel : Nat) (listed : Array Bool) (c : Cx) (a : Act), At E P N ops f0 h0 n0 n rs c0 listed c a → Sp listed = fuel → wpAnyIn E.fc 0 P .any ops Qr fuel listed a c.w := by
 have done : ∀ (listed : Array Bool) (c : Cx) (a : Act), At E P N ops f0 h0 n0 n rs c0 listed c a → Region.ready .any ops listed = [] → Qr .normal a c.w := by
  intro listed c a A hr
  have hall := O3 G.stat A.size hr
  have e : ∀ {α : Type} (l : List (List (Nat × α))) (f : Nat → α), l.length = ops.size → EE l (fun q => listed.getD q false) 0 f = EE l (fun q => decide (q < ops.size)) 0 f := fun l f hl => by
   funext k
   refine Gm fun q w _ hw hne => ?_
   have hq := (Ky.1 hw).1
   rw [ZG] at hq
   rw [hall q (by omega)] at hne
   simp [show q < ops.size by omega] at hne
  have R := A.rel
  have F := A.fr
  rw [e _ _ (by simp [G.len])] at R F
  exact hQ c a R F A.free A.ext A.same
 intro fuel
 induction fuel with
 | zero =>
  intro listed c a A hf
  have hr := NK A.size hf
  exact ⟨hr, done listed c a A hr⟩
 | succ fuel ih =>
  intro listed c a A hf
  refine ⟨done listed c a A, fun i hi => ?_⟩
  obtain ⟨hun, o, ho, _⟩ := mem_ready.1 hi
  have hlt := (KA.1 ho).1
  have hF : listed.getD i false = false := by rw [GQ (by rw [A.size]; exact hlt)] at hun ⊢; exact hun
  have hu := JT (by rw [A.size]; exact hlt) hF
  exact QS G A hi fun c' a' A' => ih _ c' a' A' (by omega)
theorem PH (G : Pp E P N ops f0 h0 n0 n rs) (hm : P.follows .mixedOrders = true) {id : Nat} {c : Cx} {a : Act} {Qr : Exit → Act → World → Prop} (hn : n0 ≤ n) (I : E.inv c) (R : B5 h0 c) (F : Fr n0 c) (A : RA E N f0 c a)
 (hQ : ∀ c' a', B5 (EE (rs.map CP.hw) (fun q => decide (q < ops.size)) 0 h0) c' → RA E N (EE (rs.map CP.tw) (fun q => decide (q < ops.size)) 0 f0) c' a' → Fr n c' → F5 n0 c n c' → Qr .normal a' c'.w) :
 (Code.region id ops true).wpIn E.fc 0 P Qr a c.w := by
 refine wpIn_region_any hm ?_
 have hg : ∀ i, (Array.replicate ops.size false).getD i false = false := fun i => by
  rw [Ym]
  by_cases hi : i < ops.size <;> simp [hi]
 have hsel : ∀ {α : Type} (l : List (List (Nat × α))) (f : Nat → α), EE l (fun q => (Array.replicate ops.size false).getD q false) 0 f = f := fun l f => by
  funext k; exact QF fun q w _ hD => by rw [hg] at hD; cases hD
 have := Rc G (c0 := c) (Qr := Qr) (fun c' a' R' F' Fr' E' S' => hQ c' a' R' F' Fr' ⟨E', hn, S'⟩) ops.size (Array.replicate ops.size false) c.drew a
  ⟨by simp, fun i o _ hl => (by rw [hg] at hl; cases hl), E.ext c.drew_ext I, (by rw [hsel]; exact R.drew), (by rw [hsel]; exact ⟨A.size, A.defers.mono c.drew_ext, fun t => ZH c.drew_ext (A.val t)⟩), fun j hj => F j (by omega), c.drew_ext, fun _ _ => rfl,
   fun i r hr _ k hk => F k (G.newlo i r hr k hk).1⟩ (by simp [Sp])
 exact this
def C2 (a b : List Nat) : Bool := a.all fun x => !b.contains x
theorem IV {a b : List Nat} (h : C2 a b = true) : ∀ k ∈ a, k ∉ b := fun k hk hb => by
 have := Ys.1 h k hk
 simp at this; exact this hb
def HI (ops : Array Oper) (i : Nat) (r : CP) : Nat → List CP → Bool
 | _, [] => true
 | j, q :: qs => ((C2 (Au q.wr) r.foot && C2 (Au r.wr) q.foot && C2 (Au q.new) r.foot) || Ef ops j i) && HI ops i r (j + 1) qs
def El (E : By) (P : Program) (ops : Array Oper) (Q : SA → Hp → Nat → Prop) : List Oper → List CP → SA → Hp → Nat → Prop
 | [], _, sa, h, n => Q sa h n
 | o :: rest, tr, sa, h, n =>
  match DR ops sa o with
  | none => False
  | some b =>
   if b = true then
   match o.op with
   | .call { callee := .value f, args, .. } =>
    match callee (GZ sa f) (args.toList.map (GZ sa)) with
    | some (g, aS) => ∃ foot wr v, Kp E P g aS foot wr v h ∧ (∀ k ∈ Au wr, k ∈ foot) ∧ (∀ k ∈ foot, k < n) ∧ HI ops tr.length { dst := o.dst, val := v, foot := foot, wr := wr } 0 tr = true ∧
     El E P ops Q rest (tr ++ [{ dst := o.dst, val := v, foot := foot, wr := wr }]) (Dl sa o.dst v) (CK h wr) n
    | none => False
   | op =>
    match Cq P (GZ sa) h n op with
    | some out =>
     (∀ k ∈ Au out.upd.toList ++ EV (GZ sa) op, k < n) ∧ HI ops tr.length { dst := o.dst, val := out.val, foot := Au out.upd.toList ++ EV (GZ sa) op, wr := out.upd.toList, new := (out.new.map fun x => (n, some x)).toList } 0 tr = true ∧
     El E P ops Q rest (tr ++ [{ dst := o.dst, val := out.val, foot := Au out.upd.toList ++ EV (GZ sa) op, wr := out.upd.toList, new := (out.new.map fun x => (n, some x)).toList }]) (Dl sa o.dst out.val) (out.app h n) (if out.new.isSome then n + 1 else n)
    | none => ∃ v, QL P (GZ sa) o v ∧ HI ops tr.length { dst := o.dst, val := v } 0 tr = true ∧ El E P ops Q rest (tr ++ [{ dst := o.dst, val := v }]) (Dl sa o.dst v) h n
   else El E P ops Q rest (tr ++ [{ dst := o.dst, val := .tup [] }]) (Dl sa o.dst (.tup [])) h n
theorem In {α : Type} {D : Nat → Bool} {l2 : List (List (Nat × α))} : ∀ {l1 : List (List (Nat × α))} {i : Nat} {f : Nat → α}, EE (l1 ++ l2) D i f = EE l2 D (i + l1.length) (EE l1 D i f)
 | [], i, f => rfl
 | w :: l1, i, f => by
  simp only [Y7, EE, Yl]
  rw [In, show i + 1 + l1.length = i + (l1.length + 1) by omega]
theorem Km {α : Type} {l : List (List (Nat × α))} {w : List (Nat × α)} {i : Nat} {f : Nat → α} (hi : i ≤ l.length) : EE (l ++ [w]) (fun q => decide (q < i)) 0 f = EE l (fun q => decide (q < i)) 0 f := by
 rw [In]
 simp only [EE, YV]
 rw [if_neg (by simp; omega)]
theorem Od {α : Type} {l : List (List (Nat × α))} {w : List (Nat × α)} {f : Nat → α} : EE (l ++ [w]) (fun q => decide (q < l.length + 1)) 0 f = CK (EE l (fun q => decide (q < l.length)) 0 f) w := by
 rw [In]
 simp only [EE, YV]
 rw [if_pos (by simp)]
 congr 1
 funext k
 refine Gm fun q v _ hv hne => ?_
 have hq := (Ky.1 hv).1
 rw [ZG] at hq
 simp [hq, show q < l.length + 1 by omega] at hne
structure T8 (E : By) (P : Program) (N : Nat) (ops : Array Oper) (f0 : Nat → SV) (h0 : Hp) (n0 n : Nat) (tr : List CP) (f : Nat → SV) (h : Hp) : Prop where
 le : n0 ≤ n
 fr : f = EE (tr.map CP.tw) (fun q => decide (q < tr.length)) 0 f0
 hp : h = EE (tr.map CP.hw) (fun q => decide (q < tr.length)) 0 h0
 ok : ∀ (i : Nat) (o : Oper) (r : CP), ops[i]? = some o → tr[i]? = some r → r.dst = o.dst ∧ (∀ j ∈ Au r.wr, j ∈ r.foot) ∧
  ((FY ops (EE (tr.map CP.tw) (fun q => decide (q < i)) 0 f0) o = some false ∧ r.val = .tup [] ∧ r.foot = [] ∧ r.wr = [] ∧ r.new = []) ∨
   (FY ops (EE (tr.map CP.tw) (fun q => decide (q < i)) 0 f0) o = some true ∧
    ∀ m, n ≤ m → Jb E P N o (EE (tr.map CP.tw) (fun q => decide (q < i)) 0 f0) (EE (tr.map CP.hw) (fun q => decide (q < i)) 0 h0) m r))
 ind : ∀ (i j : Nat) (ri rj : CP), j < i → tr[i]? = some ri → tr[j]? = some rj → Ef ops j i = false →
  (∀ k ∈ Au rj.wr, k ∉ ri.foot) ∧ (∀ k ∈ Au ri.wr, k ∉ rj.foot) ∧ (∀ k ∈ Au rj.new, k ∉ ri.foot)
 newlo : ∀ (i : Nat) (r : CP), tr[i]? = some r → ∀ k ∈ Au r.new, n0 ≤ k ∧ k < n
 newne : ∀ (i j : Nat) (ri rj : CP), i ≠ j → tr[i]? = some ri → tr[j]? = some rj → ∀ k ∈ Au ri.new, k ∉ Au rj.new
 footlo : ∀ (i : Nat) (r : CP), tr[i]? = some r → ∀ k ∈ r.foot, k < n
 newfoot : ∀ (i j : Nat) (ri rj : CP), j ≤ i → tr[i]? = some ri → tr[j]? = some rj → ∀ k ∈ Au ri.new, k ∉ rj.foot
theorem LD {i : Nat} {r : CP} : ∀ {tr : List CP} {j0 : Nat}, HI ops i r j0 tr = true → ∀ (j : Nat) (q : CP), tr[j]? = some q → Ef ops (j0 + j) i = false →
 (∀ k ∈ Au q.wr, k ∉ r.foot) ∧ (∀ k ∈ Au r.wr, k ∉ q.foot) ∧ (∀ k ∈ Au q.new, k ∉ r.foot)
 | [], _, _, j, q, hq, _ => by simp at hq
 | x :: tr, j0, h, j, q, hq, hd => by
  simp only [HI, KB] at h
  cases j with
  | zero =>
   simp only [ZO, Kk] at hq
   subst hq
   rw [Z7] at hd
   have h1 := h.1
   rw [hd, Bool.or_false, KB, KB] at h1
   exact ⟨IV h1.1.1, IV h1.1.2, IV h1.2⟩
  | succ j => exact LD h.2 j q (by simpa using hq) (by rw [show j0 + 1 + j = j0 + (j + 1) by omega]; exact hd)
theorem T8.snoc {tr : List CP} {f : Nat → SV} {h : Hp} {n n' : Nat} (A : T8 E P N ops f0 h0 n0 n tr f h) {o : Oper} (ho : ops[tr.length]? = some o) {r : CP} (hn : n ≤ n') (hdst : r.dst = o.dst) (hwf : ∀ k ∈ Au r.wr, k ∈ r.foot)
 (hfoot : ∀ k ∈ r.foot, k < n) (hnew : ∀ k ∈ Au r.new, n ≤ k ∧ k < n') (hind : HI ops tr.length r 0 tr = true)
 (hok : (FY ops f o = some false ∧ r.val = .tup [] ∧ r.foot = [] ∧ r.wr = [] ∧ r.new = []) ∨ (FY ops f o = some true ∧ ∀ m, n' ≤ m → Jb E P N o f h m r)) :
 T8 E P N ops f0 h0 n0 n' (tr ++ [r]) (CK f r.tw) (CK h r.hw) := by
 have hm : ∀ {α : Type} (g : CP → List (Nat × α)), (tr ++ [r]).map g = tr.map g ++ [g r] := fun g => by simp
 have hl : ∀ {α : Type} (g : CP → List (Nat × α)), (tr.map g).length = tr.length := fun g => by simp
 have get : ∀ {i : Nat} {q : CP}, (tr ++ [r])[i]? = some q → (i < tr.length ∧ tr[i]? = some q) ∨ (i = tr.length ∧ q = r) := fun {i q} h => by
  rw [List.getElem?_append] at h
  split at h
  · exact .inl ⟨by assumption, h⟩
  · rename_i hi
    have := (Ky.1 h).1
    simp at this
    have e : i = tr.length := by omega
    subst e; simp at h
    exact .inr ⟨rfl, h.symm⟩
 refine ⟨Yv A.le hn, ?_, ?_, fun i oi ri hoi hri => ?_, fun i j ri rj hji hri hrj hd => ?_, fun i ri hri k hk => ?_, fun i j ri rj hij hri hrj k hk => ?_, fun i ri hri k hk => ?_, fun i j ri rj hji hri hrj k hk => ?_⟩
 · rw [hm, Ye, XC]
   have := Od (l := tr.map CP.tw) (w := r.tw) (f := f0)
   rw [hl] at this
   rw [this, ← A.fr]
 · rw [hm, Ye, XC]
   have := Od (l := tr.map CP.hw) (w := r.hw) (f := h0)
   rw [hl] at this
   rw [this, ← A.hp]
 · rcases get hri with ⟨hi, hri⟩ | ⟨rfl, rfl⟩
   · obtain ⟨g1, g2, g3⟩ := A.ok i oi ri hoi hri
     rw [hm, hm, Km (by rw [hl]; omega), Km (by rw [hl]; omega)]
     refine ⟨g1, g2, g3.imp id fun ⟨x, y⟩ => ⟨x, fun m hm => y m (by omega)⟩⟩
   · rw [ho] at hoi; cases hoi
     rw [hm, hm, Km (by rw [hl]; omega), Km (by rw [hl]; omega), ← A.fr, ← A.hp]
     exact ⟨hdst, hwf, hok⟩
 · rcases get hri with ⟨hi, hri⟩ | ⟨rfl, rfl⟩
   · rcases get hrj with ⟨hj, hrj⟩ | ⟨rfl, rfl⟩
     · exact A.ind i j ri rj hji hri hrj hd
     · omega
   · rcases get hrj with ⟨hj, hrj⟩ | ⟨rfl, rfl⟩
     · exact LD hind j rj hrj (by rw [YV]; exact hd)
     · omega
 · rcases get hri with ⟨hi, hri⟩ | ⟨rfl, rfl⟩
   · have := A.newlo i ri hri k hk; omega
   · have := hnew k hk; have := A.le; omega
 · rcases get hri with ⟨hi, gri⟩ | ⟨rfl, rfl⟩
   · rcases get hrj with ⟨hj, grj⟩ | ⟨rfl, rfl⟩
     · exact A.newne i j ri rj hij gri grj k hk
     · intro h2; have := A.newlo i ri gri k hk; have := hnew k h2; omega
   · rcases get hrj with ⟨hj, grj⟩ | ⟨rfl, rfl⟩
     · intro h2; have := A.newlo j rj grj k h2; have := hnew k hk; omega
     · exact absurd rfl hij
 · rcases get hri with ⟨hi, gri⟩ | ⟨rfl, rfl⟩
   · have := A.footlo i ri gri k hk; omega
   · have := hfoot k hk; omega
 · rcases get hri with ⟨hi, gri⟩ | ⟨rfl, rfl⟩
   · rcases get hrj with ⟨hj, grj⟩ | ⟨rfl, rfl⟩
     · exact A.newfoot i j ri rj hji gri grj k hk
     · omega
   · rcases get hrj with ⟨hj, grj⟩ | ⟨rfl, rfl⟩
     · intro h2; have := A.footlo j rj grj k h2; have := hnew k hk; omega
     · intro h2; have := hfoot k h2; have := hnew k hk; omega
end
section
variable {E : By} {P : Program} {N : Nat} {ops : Array Oper} {f0 : Nat → SV} {h0 : Hp} {n0 n : Nat}
theorem JH (sa : SA) (dst : Option Tmp) (v : SV) (r : CP) (hd : r.dst = dst) (hv : r.val = v) : Am (Dl sa dst v) = CK (Am sa) r.tw := by
 funext t
 unfold CP.tw
 rw [hd, hv]
 cases dst with
 | none => rfl
 | some d =>
  show (if d = t then v else Am sa t) = if t = d then v else Am sa t
  by_cases e : d = t
  · rw [if_pos e, if_pos e.symm]
  · rw [if_neg e, if_neg (Ne.symm e)]
theorem RN (h : Hp) (k : Nat) (out : Cu) (r : CP) (hw : r.wr = out.upd.toList) (hn : r.new = (out.new.map fun x => (k, some x)).toList) : out.app h k = CK h r.hw := by
 unfold CP.hw Cu.app
 rw [hw, hn]
 cases out.upd with
 | none => cases out.new <;> rfl
 | some p => obtain ⟨j, x⟩ := p; cases out.new <;> rfl
theorem RA.ev {f : Nat → SV} {c : Cx} {a : Act} (F : RA E N f c a) (x : Operand) : V c (M8 f x) (a.eval x) := by
 cases x with
 | tmp t => exact F.val t
 | const v => exact C8 c v
 | global g => simp [M8, V]
 | func g => simp [M8, Act.eval, V, VL]
theorem Pj {ev : Operand → SV} {h : Hp} {k q : Nat} {op : Op} {out : Cu} (hs : Cq P ev h k op = some out) (hn : out.new = none) : Cq P ev h q op = some out := by
 cases op with
 | alloc e => simp only [Cq] at hs; split at hs <;> cases hs; cases hn
 | box e x => simp only [Cq] at hs; split at hs <;> cases hs; cases hn
 | buildSlice t l ps =>
  simp only [Cq] at hs
  split at hs <;> try cases hs
  split at hs <;> try cases hs
  simp only [Xq] at hs
  obtain ⟨cs, _, e⟩ := hs
  cases e; cases hn
 | makeMap t r => simp only [Cq] at hs; split at hs <;> cases hs; cases hn
 | makeSlice t l c =>
  simp only [Cq] at hs
  split at hs <;> try cases hs
  split at hs <;> try cases hs
  cases hn
 | call cl =>
  obtain ⟨callee, args, ts⟩ := cl
  cases callee with
  | value f => exact hs
  | invoke r m => exact hs
  | builtin b =>
   simp only [Cq] at hs ⊢
   unfold AT at hs ⊢
   split at hs <;> try exact hs
   split at hs
   rotate_left
   · exfalso
     unfold E6 at hs
     split at hs <;> try cases hs
     split at hs <;> cases hs
     cases hn
   rename_i ht2
   rw [if_pos ht2]
   unfold C5 at hs ⊢
   split at hs <;> try cases hs
   rename_i e he
   simp only at hs
   split at hs <;> try cases hs
   rename_i m ys hm hys
   simp only []
   split at hs <;> try cases hs
   rename_i hc
   rw [if_neg hc]
   split at hs
   · rename_i h0; rw [if_pos h0]; exact hs
   · exfalso
     split at hs
     · split at hs <;> cases hs; cases hn
     · split at hs <;> try cases hs
       split at hs <;> cases hs; cases hn
     · cases hs
 | _ => exact hs
theorem NR {o : Oper} {f : Nat → SV} {h : Hp} {out : Cu} (hs : Cq P (M8 f) h n o.op = some out) {m : Nat} (hm : (if out.new.isSome then n + 1 else n) ≤ m) :
 Jb E P N o f h m { dst := o.dst, val := out.val, foot := Au out.upd.toList ++ EV (M8 f) o.op, wr := out.upd.toList, new := (out.new.map fun x => (n, some x)).toList } := by
 intro f' h' c a Kr Qr hev hh I R F hnew A hK
 refine ⟨fun _ _ => trivial, ?_⟩
 have happ : out.app h' n = CK h' (CP.hw { dst := o.dst, val := out.val, foot := Au out.upd.toList ++ EV (M8 f) o.op, wr := out.upd.toList, new := (out.new.map fun x => (n, some x)).toList }) := RN h' n out _ rfl rfl
 have hs' : Cq P (M8 f') h' n o.op = some out := by
  rw [← hs]
  refine (Qz (fun x hx => (hev x hx).symm) fun j hj => ?_).symm
  exact (hh j (Kz.2 (.inr hj))).symm
 by_cases hn : out.new.isSome = true
 · obtain ⟨x, hx⟩ := YF.1 hn
   have hρn : c.ρ n = none := hnew n (by show n ∈ Au ((out.new.map fun x => (n, some x)).toList); rw [hx]; simp [Au])
   obtain ⟨u, c', hr, hv, R', X, hρ⟩ := J3 (ev := a.eval) hs' R hρn fun x _ => A.ev x
   have := hK c' u hv (happ ▸ R') (fun j hj => by
    rw [hρ j (.inr (by rw [if_pos hn] at hm; omega))]; exact F j hj) X (fun j hj => hρ j (.inr fun e => hj (by subst e; show j ∈ Au ((out.new.map fun x => (j, some x)).toList); rw [hx]; simp [Au])))
   rw [Oper.semAt_eq _ _ _ (Hn hs)]
   rcases hr with hr | ⟨rfl, hr⟩ <;> (rw [hr]; exact this)
 · have hnone : out.new = none := by cases h : out.new <;> simp [h] at hn ⊢
   have free : ∃ q, c.ρ q = none := ⟨m, F m (JO _)⟩
   obtain ⟨q, hq⟩ := free
   have hs2 : Cq P (M8 f') h' q o.op = some out := Pj hs' hnone
   obtain ⟨u, c', hr, hv, R', X, hρ⟩ := J3 (ev := a.eval) hs2 R hq fun x _ => A.ev x
   have eapp : out.app h' q = out.app h' n := by unfold Cu.app; rw [hnone]
   have := hK c' u hv (happ ▸ eapp ▸ R') (fun j hj => by
    rw [hρ j (.inl (by simp [hnone]))]; exact F j hj) X (fun j hj => hρ j (.inl (by simp [hnone])))
   rw [Oper.semAt_eq _ _ _ (Hn hs)]
   rcases hr with hr | ⟨rfl, hr⟩ <;> (rw [hr]; exact this)
theorem Oo {o : Oper} {f : Nat → SV} {h : Hp} {x : Operand} {args : Array Operand} {ts : Array TypeId} {g : FuncId} {aS : List SV} {foot : List Nat} {wr : List (Nat × Option BY)} {v : SV}
 (ho : o.op = .call { callee := .value x, args := args, argTypes := ts }) (hc : callee (M8 f x) (args.toList.map (M8 f)) = some (g, aS)) (hU : Kp E P g aS foot wr v h) {m : Nat} :
 Jb E P N o f h m { dst := o.dst, val := v, foot := foot, wr := wr } := by
 intro f' h' c a Kr Qr hev hh I R F hnew A hK
 refine ⟨fun _ _ => trivial, ?_⟩
 have ev1 : M8 f' x = M8 f x := hev x (by rw [ho]; simp [Op.operands, Call.operands])
 have ev2 : args.toList.map (M8 f') = args.toList.map (M8 f) := Ya fun y hy => hev y (by rw [ho]; simp [Op.operands, Call.operands]; exact .inr (by simpa using hy))
 have hcall := hU h' m hh
 have hf := A.ev x
 rw [ev1] at hf
 unfold callee at hc
 split at hc <;> try cases hc
 rename_i g' y z e1
 rw [e1, V] at hf
 obtain ⟨xs, ys, hfv, h1, h2⟩ := hf
 have hargs : AY (V c) (y ++ args.toList.map (M8 f) ++ z) (xs ++ (args.map a.eval).toList ++ ys) := by
  rw [← ev2]
  exact Zd (Zd (BL.1 h1) (GR args fun w _ => A.ev w)) (BL.1 h2)
 obtain ⟨hok, hcall⟩ := hcall
 have hc := hcall c _ I R F hargs
 unfold Lv at hok
 cases hfn : P.funcs[g]? with
 | none => simp [hfn] at hok
 | some fn =>
  simp only [hfn, KB, bne_iff_ne, ne_eq] at hok
  have hrun : (execOp a.eval o).run P c.w = .ok (.enter g (xs.toArray ++ args.map a.eval ++ ys.toArray)) c.w := by
   have hb : fn.body ≠ none := by intro e; simp [e] at hok
   simp [execOp, ho, resolve, Deferred.ofValue, hfv, invoke, callFunc, hfn, hok.2, hb]
  have earr : xs.toArray ++ args.map a.eval ++ ys.toArray = (xs ++ (args.map a.eval).toList ++ ys).toArray := by
   apply Xd; simp
  rw [Oper.semAt_eq _ _ _ (by rw [ho]; simp), hrun, Oper.uponIn_enter, earr]
  refine ⟨fun h => by simp [By.fc, Fence.wide] at h, (callsIn_wide.2 (hc.mono fun e w' ⟨u, v', h2', n', c', he, ⟨hv1, hh1, hn1⟩, hw, hv, R', F', A'⟩ => ?_) : CallsIn Fence.wide _ P g _ c.w _)⟩
  subst he; subst hw; subst hv1; subst hh1; subst hn1
  refine hK c' u hv (by simpa [CP.hw] using R') F' A'.ext fun j _ => ?_
  rcases Yr j n' with hj | hj
  · exact A'.same j hj
  · rw [F j hj, F' j hj]
theorem Pl {o : Oper} {f : Nat → SV} {h : Hp} {v : SV} (H : QL P (M8 f) o v) {m : Nat} : Jb E P N o f h m { dst := o.dst, val := v } := by
 intro f' h' c a Kr Qr hev hh I R F hnew A hK
 refine ⟨fun _ _ => trivial, ?_⟩
 rw [Oper.semAt_eq _ _ _ H.1]
 obtain ⟨u, hr, hv⟩ := H.2 c a.eval (fun _ => rfl) fun x hx => by rw [← hev x hx]; exact A.ev x
 rw [hr]
 exact hK c u hv (by simpa [CP.hw, CK] using R) F (Xh c) fun _ _ => rfl
theorem FT {Q : SA → Hp → Nat → Prop} : ∀ (rest : List Oper) (tr : List CP) (sa : SA) (h : Hp) (n : Nat), T8 E P N ops f0 h0 n0 n tr (Am sa) h → ops.toList.drop tr.length = rest → tr.length ≤ ops.size →
 El E P ops Q rest tr sa h n → ∃ rs sa' h' n', T8 E P N ops f0 h0 n0 n' rs (Am sa') h' ∧ rs.length = ops.size ∧ Q sa' h' n'
 | [], tr, sa, h, n, A, hd, hle, H => ⟨tr, sa, h, n, A, by have := List.drop_eq_nil_iff.1 hd; simp at this; omega, H⟩
 | o :: rest, tr, sa, h, n, A, hd, hle, H => by
  have hlt : tr.length < ops.size := by
   rcases Yr tr.length ops.size with h | h
   · exact h
   · rw [Zg (by simpa using h)] at hd; cases hd
  have ho : ops[tr.length]? = some o := by
   have : (ops.toList.drop tr.length)[0]? = some o := by rw [hd]; rfl
   rw [Yp] at this; simpa using this
  have hd' : ∀ r : CP, ops.toList.drop (tr ++ [r]).length = rest := fun r => by
   rw [Ye, XC, ← ZB, hd]; rfl
  have hle' : ∀ r : CP, (tr ++ [r]).length ≤ ops.size := fun r => by simp; omega
  have plain : ∀ out, Cq P (GZ sa) h n o.op = some out →
   ((∀ k ∈ Au out.upd.toList ++ EV (GZ sa) o.op, k < n) ∧ HI ops tr.length { dst := o.dst, val := out.val, foot := Au out.upd.toList ++ EV (GZ sa) o.op, wr := out.upd.toList, new := (out.new.map fun x => (n, some x)).toList } 0 tr = true ∧
     El E P ops Q rest (tr ++ [{ dst := o.dst, val := out.val, foot := Au out.upd.toList ++ EV (GZ sa) o.op, wr := out.upd.toList, new := (out.new.map fun x => (n, some x)).toList }]) (Dl sa o.dst out.val) (out.app h n) (if out.new.isSome then n + 1 else n)) →
   DR ops sa o = some true → ∃ rs sa' h' n', T8 E P N ops f0 h0 n0 n' rs (Am sa') h' ∧ rs.length = ops.size ∧ Q sa' h' n' := fun out hs ⟨h1, h2, h3⟩ hg => by
   refine FT rest _ _ _ _ ?_ (hd' _) (hle' _) h3
   have := A.snoc (n' := if out.new.isSome then n + 1 else n) ho (r := { dst := o.dst, val := out.val, foot := Au out.upd.toList ++ EV (GZ sa) o.op, wr := out.upd.toList, new := (out.new.map fun x => (n, some x)).toList })
    (by split <;> omega) rfl (fun k hk => Kz.2 (.inl hk)) h1 (fun k hk => by
      cases hn : out.new with
      | none => rw [hn] at hk; simp [Au] at hk
      | some x => rw [hn] at hk; simp [Au] at hk; subst hk; simp) h2
    (.inr ⟨by rw [← H4]; exact hg, fun m hm => by rw [PI] at hs ⊢; exact NR hs hm⟩)
   rw [JH sa o.dst out.val { dst := o.dst, val := out.val, foot := Au out.upd.toList ++ EV (GZ sa) o.op, wr := out.upd.toList, new := (out.new.map fun x => (n, some x)).toList } rfl rfl,
    RN h n out { dst := o.dst, val := out.val, foot := Au out.upd.toList ++ EV (GZ sa) o.op, wr := out.upd.toList, new := (out.new.map fun x => (n, some x)).toList } rfl rfl]
   exact this
  simp only [El] at H
  split at H
  case h_1 => exact H.elim
  rename_i b hg
  cases b
  case false =>
   simp only [KC, if_false] at H
   refine FT rest _ _ _ _ ?_ (hd' _) (hle' _) H
   have := A.snoc (n' := n) ho (r := { dst := o.dst, val := .tup [] }) (JO _) rfl (by simp [Au]) (by simp) (by simp [Au]) (by
    have : ∀ (l : List CP) (j : Nat), HI ops tr.length { dst := o.dst, val := .tup [] } j l = true := by
     intro l
     induction l with
     | nil => intro j; rfl
     | cons q l ih =>
      intro j
      simp only [HI, ih, Bool.and_true]
      have d1 : ∀ a : List Nat, C2 a [] = true := fun a => by simp [C2]
      rw [d1, d1]
      simp [C2, Au]
    exact this tr 0) (.inl ⟨by rw [← H4]; exact hg, rfl, rfl, rfl, rfl⟩)
   rw [JH sa o.dst (.tup []) { dst := o.dst, val := .tup [] } rfl rfl]
   exact this
  case true =>
   rw [if_pos rfl] at H
   split at H
   · rename_i f args ts hop
     split at H
     · rename_i g aS hc
       obtain ⟨foot, wr, v, hU, hwf, hfoot, hind, hrest⟩ := H
       refine FT rest _ _ _ _ ?_ (hd' _) (hle' _) hrest
       have := A.snoc (n' := n) ho (r := { dst := o.dst, val := v, foot := foot, wr := wr }) (JO _) rfl hwf hfoot (by simp [Au]) hind
        (.inr ⟨by rw [← H4]; exact hg, fun m _ => by rw [PI] at hc; exact Oo hop hc hU⟩)
       rw [JH sa o.dst v { dst := o.dst, val := v, foot := foot, wr := wr } rfl rfl]
       simpa [CP.hw] using this
     · exact H.elim
   · split at H
     · rename_i out hs
       exact plain out hs H hg
     · obtain ⟨v, hV, hind, hrest⟩ := H
       refine FT rest _ _ _ _ ?_ (hd' _) (hle' _) hrest
       have := A.snoc (n' := n) ho (r := { dst := o.dst, val := v }) (JO _) rfl (by simp [Au]) (by simp) (by simp [Au]) hind
        (.inr ⟨by rw [← H4]; exact hg, fun m _ => by rw [PI] at hV; exact Pl hV⟩)
       rw [JH sa o.dst v { dst := o.dst, val := v } rfl rfl]
       simpa [CP.hw, CK] using this
theorem RJ {id : Nat} {Q : Cl} {sa : SA} {h : Hp} {n : Nat} (hm : P.follows .mixedOrders = true) (hst : Ep ops = true) (H : El E P ops (Q .normal) ops.toList [] sa h n) : HN E P N (.region id ops true) Q sa h n := by
 intro hd c a I R F A
 simp only [Code.dok, Ys] at hd
 have hdd : ∀ (i : Nat) (o : Oper), ops[i]? = some o → ∀ d, o.dst = some d → d < N := fun i o ho d e => by
  have := hd o (by simpa using Array.mem_of_getElem? ho)
  rw [e] at this; simpa using this
 have A0 : T8 E P N ops (Am sa) h n n [] (Am sa) h :=
  ⟨JO _, rfl, rfl, by simp, by simp, by simp, by simp, by simp, by simp⟩
 obtain ⟨rs, sa', h', n', A1, hlen, hq⟩ := FT (N := N) ops.toList [] sa h n A0 rfl (K2 _) H
 have G : Pp E P N ops (Am sa) h n n' rs :=
  ⟨hlen, hst, hdd, fun i o r ho hr => by
   obtain ⟨g1, g2, g3⟩ := A1.ok i o r ho hr
   exact ⟨g1, g2, g3.imp (fun z => z) fun ⟨x, y⟩ => ⟨x, y n' (JO _)⟩⟩, A1.ind, A1.newlo, A1.newne, A1.newfoot⟩
 refine PH G hm A1.le I R F ⟨A.size, A.defers, A.val⟩ fun c' a' R' F' Fr' E' => ?_
 rw [← hlen, ← A1.hp] at R'
 rw [← hlen, ← A1.fr] at F'
 exact ⟨sa', h', n', c', hq, rfl, R', Fr', ⟨F'.size, F'.defers, F'.val⟩, E'⟩
end
def FU (E : By) (P : Program) (N : Nat) : Code → Cl → SA → Hp → Nat → Prop
 | .skip, Q, sa, h, n => Q .normal sa h n
 | .seq a b, Q, sa, h, n => FU E P N a (DG (FU E P N b Q) Q) sa h n
 | .cond c a b, Q, sa, h, n => match GZ sa c with | .bool t => if t = true then FU E P N a Q sa h n else FU E P N b Q sa h n | _ => False
 | .block id b, Q, sa, h, n => FU E P N b (E7 id Q) sa h n
 | .exit id, Q, sa, h, n => Q (.exit id) sa h n
 | .ret, Q, sa, h, n => Q .ret sa h n
 | .region _ ops false, Q, sa, h, n => Ho E P ops (Q .normal) ops.toList sa h n
 | .region _ ops true, Q, sa, h, n => Ep ops = true ∧ El E P ops (Q .normal) ops.toList [] sa h n
 | .loop b, Q, sa, h, n => HN E P N (.loop b) Q sa h n
 | .rangeFunc g ps a b, Q, sa, h, n => HN E P N (.rangeFunc g ps a b) Q sa h n
 | _, _, _, _, _ => False
theorem FI {K K' : SA → Hp → Nat → Prop} {Q : Cl} (hk : ∀ sa h n, K sa h n → K' sa h n) : ∀ e sa h n, DG K Q e sa h n → DG K' Q e sa h n := by
 intro e sa h n H
 cases e <;> first | exact hk _ _ _ H | exact H
theorem EY {E : By} {P : Program} {N : Nat} (hm : P.follows .mixedOrders = true) : ∀ (c : Code) (Q : Cl) (sa : SA) (h : Hp) (n : Nat), FU E P N c Q sa h n → HN E P N c Q sa h n
 | .skip, Q, sa, h, n, H => F8 H
 | .seq a b, Q, sa, h, n, H => Ix (F7 (EY hm a _ sa h n H) (FI fun sa h n => EY hm b Q sa h n))
 | .cond c a b, Q, sa, h, n, H => by
  simp only [FU] at H
  split at H
  · rename_i t ht
    refine Ap ht ?_
    split at H
    · rename_i e; rw [if_pos e]; exact EY hm a Q sa h n H
    · rename_i e; rw [if_neg e]; exact EY hm b Q sa h n H
  · exact H.elim
 | .block id b, Q, sa, h, n, H => MA (EY hm b _ sa h n H)
 | .exit id, Q, sa, h, n, H => RK H
 | .ret, Q, sa, h, n, H => Sr H
 | .region _ ops false, Q, sa, h, n, H => O1 H
 | .region _ ops true, Q, sa, h, n, H => RJ hm H.1 H.2
 | .loop b, Q, sa, h, n, H => H
 | .rangeFunc _ _ _ _, _, _, _, _, H => H
 | .scope _, _, _, _, _, H => H.elim
 | .label _, _, _, _, _, H => H.elim
 | .goto _, _, _, _, _, H => H.elim
 | .refuse _, _, _, _, _, H => H.elim
def Is (v : SV) (h : Hp) (n : Nat) : SV → Hp → Nat → Prop := fun v' h' n' => v' = v ∧ h' = h ∧ n' = n
def Fc (P : Program) (f : FuncId) (args : List SV) (v : SV) : Prop := ∀ h n, BN P f args h n (Is v h n)
theorem Fc.use {E : By} {P : Program} {f : FuncId} {args : List SV} {v : SV} (H : Fc P f args v) {h : Hp} {n : Nat} {K : SV → Hp → Nat → Prop} (hk : K v h n) : Ak E P f args h n K :=
 Ak.lift <| (H h n).mono fun _ _ _ ⟨e1, e2, e3⟩ => by subst e1; subst e2; subst e3; exact hk
theorem Fc.u {E : By} {P : Program} {f : FuncId} {args : List SV} {v : SV} (H : Fc P f args v) (h : Hp) : Kp E P f args [] [] v h :=
 fun h' n _ => Ak.lift <| (H h' n).mono fun _ _ _ ⟨e1, e2, e3⟩ => ⟨e1, e2, e3⟩
theorem QK {E : By} {P : Program} (hm : P.follows .mixedOrders = true) {f : FuncId} {fn : Func} {code : Code} {args : List SV} {h : Hp} {n : Nat} {K : SV → Hp → Nat → Prop} (hf : P.funcs[f]? = some fn) (hb : fn.body = some code)
 (hn : (fn.name != "runtime.NumGoroutine") = true) (hd : Code.dok fn.ntmps code = true) (hl : args.length ≤ fn.ntmps)
 (H : (∀ a ∈ args, closed n a = true) → (∀ o x, h o = some x → o < n ∧ BW n x = true) → FU (E.call false 0) P fn.ntmps code (Lx P fn n K) (EK 0 args) h n) : Ak E P f args h n K :=
 L9 hf hb hn hd hl fun h1 h2 => EY hm _ _ _ _ _ (H h1 h2)
theorem CE.plain {n : Nat} {h h' : Hp} {n' : Nat} {v : SV} {K : SV → Hp → Nat → Prop} (hc : closed n v = true) (hs : ∀ o x, h o = some x → o < n ∧ BW n x = true) (hh : ∀ o x, h o = some x → h' o = some x) (hk : K v h n) : CE n h' n' v K :=
 .inr ⟨0, v, h, rfl, hc, fun o x e => ⟨hh o x e, hs o x e⟩, hk⟩
abbrev swp := FU By.plain
abbrev TY (k sz b : Nat) (ag : Option Bool) (sl : Option TypeId) (ar : Option (Nat × TypeId)) (mp : Option (TypeId × TypeId)) (st : Bool) (i : Option IntKind) (bo pt : Bool) (ze : SV) : Prop :=
 Bk Tryz.prog k = sz ∧ Bj Tryz.prog k = b ∧ Gb Tryz.prog k = ag ∧ BC Tryz.prog k = sl ∧ Ir Tryz.prog k = ar ∧ KZ Tryz.prog k = mp ∧ Er Tryz.prog k = st ∧ L8 Tryz.prog k = i ∧ Le Tryz.prog k = bo ∧ Sf Tryz.prog k = pt ∧ BP Tryz.prog k = ze
abbrev TF (k i o t : Nat) : Prop := Hv Tryz.prog k i = some (o, t)
@[go_sem] theorem ty3 : TY 3 1 8 (some false) none none none false (some .i64) false false (.int .i64 0) := by (repeat' apply And.intro) <;> kernel_rfl
@[go_sem] theorem ty4 : TY 4 1 1 (some false) none none none false none true false (.bool false) := by (repeat' apply And.intro) <;> kernel_rfl
@[go_sem] theorem ty5 : TY 5 1 1 (some false) none none none false (some .u8) false false (.int .u8 0) := by (repeat' apply And.intro) <;> kernel_rfl
@[go_sem] theorem ty9 : TY 9 1 16 (some false) none none none true none false false (.str .empty) := by (repeat' apply And.intro) <;> kernel_rfl
@[go_sem] theorem ty22 : TY 22 1 24 (some false) (some 70) none none false none false false (.imm 0 [] true) := by (repeat' apply And.intro) <;> kernel_rfl
@[go_sem] theorem ty23 : TY 23 1 24 (some false) (some 193) none none false none false false (.imm 0 [] true) := by (repeat' apply And.intro) <;> kernel_rfl
@[go_sem] theorem ty24 : TY 24 1 24 (some false) (some 166) none none false none false false (.imm 0 [] true) := by (repeat' apply And.intro) <;> kernel_rfl
@[go_sem] theorem ty25 : TY 25 1 24 (some false) (some 164) none none false none false false (.imm 0 [] true) := by (repeat' apply And.intro) <;> kernel_rfl
@[go_sem] theorem ty27 : TY 27 4 64 (some true) none none none false none false false (.agg [.int .i64 0, .int .i64 0, .imm 0 [] true, .imm 0 [] true]) ∧ Ba Tryz.prog 27 = some [(0, 1), (1, 1), (2, 1), (3, 1)] ∧ TF 27 0 0 3 ∧ TF 27 1 1 3 ∧ TF 27 2 2 24 ∧ TF 27 3 3 25 := by (repeat' first | apply And.intro | unfold TF) <;> kernel_rfl
@[go_sem] theorem ty29 : TY 29 5 88 (some true) none none none false none false false (.agg [.imm 0 [] true, .int .i64 0, .int .i64 0, .imm 0 [] true, .imm 0 [] true]) ∧ Ba Tryz.prog 29 = some [(0, 1), (1, 4)] ∧ TF 29 0 0 23 ∧ TF 29 1 1 27 := by (repeat' first | apply And.intro | unfold TF) <;> kernel_rfl
@[go_sem] theorem ty30 : TY 30 1 24 (some false) (some 42) none none false none false false (.imm 0 [] true) := by (repeat' apply And.intro) <;> kernel_rfl
@[go_sem] theorem ty31 : TY 31 1 24 (some false) (some 198) none none false none false false (.imm 0 [] true) := by (repeat' apply And.intro) <;> kernel_rfl
@[go_sem] theorem ty32 : TY 32 1 24 (some false) (some 103) none none false none false false (.imm 0 [] true) := by (repeat' apply And.intro) <;> kernel_rfl
@[go_sem] theorem ty33 : TY 33 1 24 (some false) (some 115) none none false none false false (.imm 0 [] true) := by (repeat' apply And.intro) <;> kernel_rfl
@[go_sem] theorem ty34 : TY 34 1 24 (some false) (some 118) none none false none false false (.imm 0 [] true) := by (repeat' apply And.intro) <;> kernel_rfl
@[go_sem] theorem ty36 : TY 36 4 96 (some true) none none none false none false false (.agg [.imm 0 [] true, .imm 0 [] true, .imm 0 [] true, .imm 0 [] true]) ∧ Ba Tryz.prog 36 = some [(0, 1), (1, 1), (2, 1), (3, 1)] ∧ TF 36 0 0 31 ∧ TF 36 1 1 32 ∧ TF 36 2 2 33 ∧ TF 36 3 3 34 := by (repeat' first | apply And.intro | unfold TF) <;> kernel_rfl
@[go_sem] theorem ty38 : TY 38 11 232 (some true) none none none false none false false (.agg [.imm 0 [] true, .imm 0 [] true, .int .i64 0, .int .i64 0, .imm 0 [] true, .imm 0 [] true, .imm 0 [] true, .imm 0 [] true, .imm 0 [] true, .imm 0 [] true, .imm 0 [] true]) ∧ Ba Tryz.prog 38 = some [(0, 1), (1, 5), (6, 1), (7, 4)] ∧ TF 38 0 0 22 ∧ TF 38 1 1 29 ∧ TF 38 2 6 30 ∧ TF 38 3 7 36 := by (repeat' first | apply And.intro | unfold TF) <;> kernel_rfl
@[go_sem] theorem ty40 : TY 40 3 24 (some true) none none none false none false false (.agg [.int .i64 0, .int .i64 0, .int .i64 0]) ∧ Ba Tryz.prog 40 = some [(0, 1), (1, 1), (2, 1)] ∧ TF 40 0 0 3 ∧ TF 40 1 1 3 ∧ TF 40 2 2 3 := by (repeat' first | apply And.intro | unfold TF) <;> kernel_rfl
@[go_sem] theorem ty42 : TY 42 3 32 (some true) none none none false none false false (.agg [.int .i64 0, .str .empty, .int .i64 0]) ∧ Ba Tryz.prog 42 = some [(0, 1), (1, 1), (2, 1)] ∧ TF 42 0 0 3 ∧ TF 42 1 1 9 ∧ TF 42 2 2 3 := by (repeat' first | apply And.intro | unfold TF) <;> kernel_rfl
@[go_sem] theorem ty44 : TY 44 7 64 (some true) none none none false none false false (.agg [.int .i64 0, .int .i64 0, .int .i64 0, .int .i64 0, .int .i64 0, .str .empty, .int .i64 0]) ∧ Ba Tryz.prog 44 = some [(0, 1), (1, 3), (4, 3)] ∧ TF 44 0 0 3 ∧ TF 44 1 1 40 ∧ TF 44 2 4 42 := by (repeat' first | apply And.intro | unfold TF) <;> kernel_rfl
@[go_sem] theorem ty47 : TY 47 1 8 (some false) none none none false (some .i64) false false (.int .i64 0) := by (repeat' apply And.intro) <;> kernel_rfl
@[go_sem] theorem ty61 : TY 61 1 24 (some false) (some 3) none none false none false false (.imm 0 [] true) := by (repeat' apply And.intro) <;> kernel_rfl
@[go_sem] theorem ty68 : TY 68 1 24 (some false) (some 169) none none false none false false (.imm 0 [] true) := by (repeat' apply And.intro) <;> kernel_rfl
@[go_sem] theorem ty70 : TY 70 11 176 (some true) none none none false none false false (.agg [.int .i64 0, .int .i64 0, .int .i64 0, .str .empty, .imm 0 [] true, .int .i64 0, .int .i64 0, .imm 0 [] true, .imm 0 [] true, .imm 0 [] true, .imm 0 [] true]) ∧ Ba Tryz.prog 70 = some [(0, 1), (1, 1), (2, 1), (3, 1), (4, 5), (9, 1), (10, 1)] ∧ TF 70 0 0 3 ∧ TF 70 1 1 3 ∧ TF 70 2 2 3 ∧ TF 70 3 3 9 ∧ TF 70 4 4 29 ∧ TF 70 5 9 22 ∧ TF 70 6 10 68 := by (repeat' first | apply And.intro | unfold TF) <;> kernel_rfl
@[go_sem] theorem ty72 : TY 72 1 8 (some false) none none none false none false true .nilp := by (repeat' apply And.intro) <;> kernel_rfl
@[go_sem] theorem ty79 : TY 79 7 104 (some true) none none none false none false false (.agg [.imm 0 [] true, .int .i64 0, .int .i64 0, .imm 0 [] true, .imm 0 [] true, .bool false, .int .i64 0]) ∧ Ba Tryz.prog 79 = some [(0, 5), (5, 1), (6, 1)] ∧ TF 79 0 0 29 ∧ TF 79 1 5 4 ∧ TF 79 2 6 3 := by (repeat' first | apply And.intro | unfold TF) <;> kernel_rfl
@[go_sem] theorem ty81 : TY 81 1 8 (some false) none none none false none false false .nilf := by (repeat' apply And.intro) <;> kernel_rfl
@[go_sem] theorem ty85 : TY 85 1 8 (some false) none none (some (89, 90)) false none false false .nilm := by (repeat' apply And.intro) <;> kernel_rfl
@[go_sem] theorem ty86 : TY 86 1 24 (some false) (some 89) none none false none false false (.imm 0 [] true) := by (repeat' apply And.intro) <;> kernel_rfl
@[go_sem] theorem ty89 : TY 89 2 16 (some true) none none none false none false false (.agg [.int .i64 0, .int .i64 0]) ∧ Ba Tryz.prog 89 = some [(0, 1), (1, 1)] ∧ TF 89 0 0 3 ∧ TF 89 1 1 3 := by (repeat' first | apply And.intro | unfold TF) <;> kernel_rfl
@[go_sem] theorem ty90 : TY 90 2 2 (some true) none (some (2, 4)) none false none false false (.agg [.bool false, .bool false]) ∧ Ba Tryz.prog 90 = some [(0, 1), (1, 1)] := by (repeat' apply And.intro) <;> kernel_rfl
@[go_sem] theorem ty94 : TY 94 1 8 (some false) none none none false none false false .nilf := by (repeat' apply And.intro) <;> kernel_rfl
@[go_sem] theorem ty96 : TY 96 1 8 (some false) none none none false none false false .nilf := by (repeat' apply And.intro) <;> kernel_rfl
@[go_sem] theorem ty101 : TY 101 1 24 (some false) (some 106) none none false none false false (.imm 0 [] true) := by (repeat' apply And.intro) <;> kernel_rfl
@[go_sem] theorem ty103 : TY 103 2 32 (some true) none none none false none false false (.agg [.int .i64 0, .imm 0 [] true]) ∧ Ba Tryz.prog 103 = some [(0, 1), (1, 1)] ∧ TF 103 0 0 3 ∧ TF 103 1 1 101 := by (repeat' first | apply And.intro | unfold TF) <;> kernel_rfl
@[go_sem] theorem ty106 : TY 106 4 40 (some true) none none none false none false false (.agg [.int .i64 0, .int .i64 0, .str .empty, .int .i64 0]) ∧ Ba Tryz.prog 106 = some [(0, 1), (1, 1), (2, 1), (3, 1)] ∧ TF 106 0 0 3 ∧ TF 106 1 1 3 ∧ TF 106 2 2 9 ∧ TF 106 3 3 3 := by (repeat' first | apply And.intro | unfold TF) <;> kernel_rfl
@[go_sem] theorem ty107 : TY 107 1 8 (some false) none none none false none false false .nilf := by (repeat' apply And.intro) <;> kernel_rfl
@[go_sem] theorem ty115 : TY 115 6 64 (some true) none none none false none false false (.agg [.int .i64 0, .int .i64 0, .str .empty, .int .i64 0, .str .empty, .bool false]) ∧ Ba Tryz.prog 115 = some [(0, 1), (1, 1), (2, 1), (3, 1), (4, 1), (5, 1)] ∧ TF 115 0 0 3 ∧ TF 115 1 1 3 ∧ TF 115 2 2 9 ∧ TF 115 3 3 3 ∧ TF 115 4 4 9 ∧ TF 115 5 5 4 := by (repeat' first | apply And.intro | unfold TF) <;> kernel_rfl
@[go_sem] theorem ty118 : TY 118 2 32 (some true) none none none false none false false (.agg [.str .empty, .str .empty]) ∧ Ba Tryz.prog 118 = some [(0, 1), (1, 1)] ∧ TF 118 0 0 9 ∧ TF 118 1 1 9 := by (repeat' first | apply And.intro | unfold TF) <;> kernel_rfl
@[go_sem] theorem ty130 : TY 130 1 8 (some false) none none none false none false false .nilf := by (repeat' apply And.intro) <;> kernel_rfl
@[go_sem] theorem ty134 : TY 134 1 8 (some false) none none none false none false true .nilp := by (repeat' apply And.intro) <;> kernel_rfl
@[go_sem] theorem ty140 : TY 140 3 16 (some true) none none none false none false false (.agg [.bool false, .bool false, .int .i64 0]) ∧ Ba Tryz.prog 140 = some [(0, 1), (1, 1), (2, 1)] ∧ TF 140 0 0 4 ∧ TF 140 1 1 4 ∧ TF 140 2 2 3 := by (repeat' first | apply And.intro | unfold TF) <;> kernel_rfl
@[go_sem] theorem ty141 : TY 141 1 8 (some false) none none (some (3, 3)) false none false false .nilm := by (repeat' apply And.intro) <;> kernel_rfl
@[go_sem] theorem ty142 : TY 142 1 8 (some false) none none (some (3, 4)) false none false false .nilm := by (repeat' apply And.intro) <;> kernel_rfl
@[go_sem] theorem ty144 : TY 144 6 48 (some true) none none none false none false false (.agg [.nilm, .nilm, .nilm, .nilm, .nilm, .int .i64 0]) ∧ Ba Tryz.prog 144 = some [(0, 1), (1, 1), (2, 1), (3, 1), (4, 1), (5, 1)] ∧ TF 144 0 0 141 ∧ TF 144 1 1 142 ∧ TF 144 2 2 142 ∧ TF 144 3 3 142 ∧ TF 144 4 4 142 ∧ TF 144 5 5 3 := by (repeat' first | apply And.intro | unfold TF) <;> kernel_rfl
@[go_sem] theorem ty146 : TY 146 1 8 (some false) none none none false none false false .nilf := by (repeat' apply And.intro) <;> kernel_rfl
@[go_sem] theorem ty147 : TY 147 1 24 (some false) (some 3) none none false none false false (.imm 0 [] true) := by (repeat' apply And.intro) <;> kernel_rfl
@[go_sem] theorem ty150 : TY 150 1 8 (some false) none none none false none false false .nilf := by (repeat' apply And.intro) <;> kernel_rfl
@[go_sem] theorem ty154 : TY 154 1 8 (some false) none none none false none false false .nilf := by (repeat' apply And.intro) <;> kernel_rfl
@[go_sem] theorem ty155 : TY 155 1 8 (some false) none none (some (89, 3)) false none false false .nilm := by (repeat' apply And.intro) <;> kernel_rfl
@[go_sem] theorem ty159 : TY 159 1 24 (some false) (some 239) none none false none false false (.imm 0 [] true) := by (repeat' apply And.intro) <;> kernel_rfl
@[go_sem] theorem ty164 : TY 164 4 32 (some true) none none none false none false false (.agg [.int .i64 0, .int .i64 0, .int .i64 0, .bool false]) ∧ Ba Tryz.prog 164 = some [(0, 1), (1, 1), (2, 1), (3, 1)] ∧ TF 164 0 0 3 ∧ TF 164 1 1 3 ∧ TF 164 2 2 3 ∧ TF 164 3 3 4 := by (repeat' first | apply And.intro | unfold TF) <;> kernel_rfl
@[go_sem] theorem ty166 : TY 166 2 16 (some true) none none none false none false false (.agg [.int .i64 0, .int .i64 0]) ∧ Ba Tryz.prog 166 = some [(0, 1), (1, 1)] ∧ TF 166 0 0 3 ∧ TF 166 1 1 3 := by (repeat' first | apply And.intro | unfold TF) <;> kernel_rfl
@[go_sem] theorem ty167 : TY 167 1 24 (some false) (some 171) none none false none false false (.imm 0 [] true) := by (repeat' apply And.intro) <;> kernel_rfl
@[go_sem] theorem ty169 : TY 169 6 112 (some true) none none none false none false false (.agg [.imm 0 [] true, .int .i64 0, .int .i64 0, .imm 0 [] true, .imm 0 [] true, .imm 0 [] true]) ∧ Ba Tryz.prog 169 = some [(0, 5), (5, 1)] ∧ TF 169 0 0 29 ∧ TF 169 1 5 167 := by (repeat' first | apply And.intro | unfold TF) <;> kernel_rfl
@[go_sem] theorem ty171 : TY 171 7 120 (some true) none none none false none false false (.agg [.int .i64 0, .imm 0 [] true, .int .i64 0, .int .i64 0, .imm 0 [] true, .imm 0 [] true, .imm 0 [] true]) ∧ Ba Tryz.prog 171 = some [(0, 1), (1, 5), (6, 1)] ∧ TF 171 0 0 3 ∧ TF 171 1 1 29 ∧ TF 171 2 6 22 := by (repeat' first | apply And.intro | unfold TF) <;> kernel_rfl
@[go_sem] theorem ty176 : TY 176 4 40 (some true) none none none false none false false (.agg [.imm 0 [] true, .bool false, .bool false, .int .i64 0]) ∧ Ba Tryz.prog 176 = some [(0, 1), (1, 3)] ∧ TF 176 0 0 22 ∧ TF 176 1 1 140 := by (repeat' first | apply And.intro | unfold TF) <;> kernel_rfl
@[go_sem] theorem ty179 : TY 179 1 8 (some false) none none none false none false false .nilf := by (repeat' apply And.intro) <;> kernel_rfl
@[go_sem] theorem ty186 : TY 186 1 8 (some false) none none none false none false false .nilf := by (repeat' apply And.intro) <;> kernel_rfl
@[go_sem] theorem ty190 : TY 190 1 8 (some false) none none none false none false false .nilf := by (repeat' apply And.intro) <;> kernel_rfl
@[go_sem] theorem ty193 : TY 193 2 16 (some true) none none none false none false false (.agg [.int .i64 0, .int .i64 0]) ∧ Ba Tryz.prog 193 = some [(0, 1), (1, 1)] ∧ TF 193 0 0 3 ∧ TF 193 1 1 3 := by (repeat' first | apply And.intro | unfold TF) <;> kernel_rfl
@[go_sem] theorem ty198 : TY 198 6 72 (some true) none none none false none false false (.agg [.int .i64 0, .int .i64 0, .str .empty, .int .i64 0, .int .i64 0, .imm 0 [] true]) ∧ Ba Tryz.prog 198 = some [(0, 1), (1, 1), (2, 1), (3, 1), (4, 1), (5, 1)] ∧ TF 198 0 0 3 ∧ TF 198 1 1 3 ∧ TF 198 2 2 9 ∧ TF 198 3 3 3 ∧ TF 198 4 4 3 ∧ TF 198 5 5 23 := by (repeat' first | apply And.intro | unfold TF) <;> kernel_rfl
@[go_sem] theorem ty199 : TY 199 1 8 (some false) none none none false none false false .nilf := by (repeat' apply And.intro) <;> kernel_rfl
@[go_sem] theorem ty201 : TY 201 1 8 (some false) none none none false none false false .nilf := by (repeat' apply And.intro) <;> kernel_rfl
@[go_sem] theorem ty204 : TY 204 1 8 (some false) none none none false none false false .nilf := by (repeat' apply And.intro) <;> kernel_rfl
@[go_sem] theorem ty205 : TY 205 1 8 (some false) none none none false none false false .nilf := by (repeat' apply And.intro) <;> kernel_rfl
@[go_sem] theorem ty206 : TY 206 1 8 (some false) none none none false none false false .nilf := by (repeat' apply And.intro) <;> kernel_rfl
@[go_sem] theorem ty210 : TY 210 1 8 (some false) none none none false none false false .nilf := by (repeat' apply And.intro) <;> kernel_rfl
@[go_sem] theorem ty213 : TY 213 1 8 (some false) none none none false (some .u64) false false (.int .u64 0) := by (repeat' apply And.intro) <;> kernel_rfl
@[go_sem] theorem ty218 : TY 218 2 48 (some true) none none none false none false false (.agg [.imm 0 [] true, .imm 0 [] true]) ∧ Ba Tryz.prog 218 = some [(0, 1), (1, 1)] ∧ TF 218 0 0 61 ∧ TF 218 1 1 61 := by (repeat' first | apply And.intro | unfold TF) <;> kernel_rfl
@[go_sem] theorem ty219 : TY 219 1 24 (some false) (some 47) none none false none false false (.imm 0 [] true) := by (repeat' apply And.intro) <;> kernel_rfl
@[go_sem] theorem ty226 : TY 226 1 8 (some false) none none none false none false false .nilf := by (repeat' apply And.intro) <;> kernel_rfl
@[go_sem] theorem ty228 : TY 228 1 8 (some false) none none none false none false false .nilf := by (repeat' apply And.intro) <;> kernel_rfl
@[go_sem] theorem ty239 : TY 239 2 16 (some true) none (some (2, 3)) none false none false false (.agg [.int .i64 0, .int .i64 0]) ∧ Ba Tryz.prog 239 = some [(0, 1), (1, 1)] := by (repeat' apply And.intro) <;> kernel_rfl
@[go_sem] theorem ty243 : TY 243 1 8 (some false) none none none false none false false .nilf := by (repeat' apply And.intro) <;> kernel_rfl
@[go_sem] theorem ty259 : TY 259 1 8 (some false) none none none false none false false .nilf := by (repeat' apply And.intro) <;> kernel_rfl
@[go_sem] theorem ty262 : TY 262 1 8 (some false) none none none false none false false .nilf := by (repeat' apply And.intro) <;> kernel_rfl
@[go_sem] theorem ty278 : TY 278 1 8 (some false) none none none false none false false .nilf := by (repeat' apply And.intro) <;> kernel_rfl
@[go_sem] theorem ty282 : TY 282 1 8 (some false) none none none false none false false .nilf := by (repeat' apply And.intro) <;> kernel_rfl
@[go_sem] theorem ty285 : TY 285 1 8 (some false) none none none false none false false .nilf := by (repeat' apply And.intro) <;> kernel_rfl
@[go_sem] theorem ty289 : TY 289 1 24 (some false) (some 291) none none false none false false (.imm 0 [] true) := by (repeat' apply And.intro) <;> kernel_rfl
@[go_sem] theorem ty291 : TY 291 2 16 (some true) none none none false none false false (.agg [.int .i64 0, .bool false]) ∧ Ba Tryz.prog 291 = some [(0, 1), (1, 1)] ∧ TF 291 0 0 3 ∧ TF 291 1 1 4 := by (repeat' first | apply And.intro | unfold TF) <;> kernel_rfl
@[go_sem] theorem ty299 : TY 299 1 8 (some false) none none none false (some .i64) false false (.int .i64 0) := by (repeat' apply And.intro) <;> kernel_rfl
@[go_sem] theorem ty306 : TY 306 1 4 (some false) none none none false (some .u32) false false (.int .u32 0) := by (repeat' apply And.intro) <;> kernel_rfl
@[go_sem] theorem ty308 : TY 308 1 8 (some false) none none none false (some .u64) false false (.int .u64 0) := by (repeat' apply And.intro) <;> kernel_rfl
@[go_sem] theorem ty309 : TY 309 1 8 (some false) none none none false none false false .nilf := by (repeat' apply And.intro) <;> kernel_rfl
@[go_sem] theorem ty311 : TY 311 1 24 (some false) (some 61) none none false none false false (.imm 0 [] true) := by (repeat' apply And.intro) <;> kernel_rfl
@[go_sem] theorem ty319 : TY 319 1 24 (some false) (some 22) none none false none false false (.imm 0 [] true) := by (repeat' apply And.intro) <;> kernel_rfl
@[go_sem] theorem ty323 : TY 323 1 8 (some false) none none none false none false false .nilf := by (repeat' apply And.intro) <;> kernel_rfl
@[go_sem] theorem ty329 : TY 329 1 8 (some false) none none none false none false false .nilf := by (repeat' apply And.intro) <;> kernel_rfl
@[go_sem] theorem ty333 : TY 333 6 56 (some true) none none none false none false false (.agg [.int .i64 0, .int .i64 0, .int .i64 0, .int .i64 0, .int .i64 0, .str .empty]) ∧ Ba Tryz.prog 333 = some [(0, 1), (1, 1), (2, 1), (3, 1), (4, 1), (5, 1)] ∧ TF 333 0 0 3 ∧ TF 333 1 1 3 ∧ TF 333 2 2 3 ∧ TF 333 3 3 3 ∧ TF 333 4 4 3 ∧ TF 333 5 5 9 := by (repeat' first | apply And.intro | unfold TF) <;> kernel_rfl
@[go_sem] theorem ty342 : TY 342 1 8 (some false) none none none false (some .u64) false false (.int .u64 0) := by (repeat' apply And.intro) <;> kernel_rfl
@[go_sem] theorem ty361 : TY 361 1 24 (some false) (some 366) none none false none false false (.imm 0 [] true) := by (repeat' apply And.intro) <;> kernel_rfl
@[go_sem] theorem ty366 : TY 366 3 32 (some true) none none none false none false false (.agg [.str .empty, .int .i64 0, .bool false]) ∧ Ba Tryz.prog 366 = some [(0, 1), (1, 1), (2, 1)] ∧ TF 366 0 0 9 ∧ TF 366 1 1 3 ∧ TF 366 2 2 4 := by (repeat' first | apply And.intro | unfold TF) <;> kernel_rfl
@[go_sem] theorem ty367 : TY 367 1 8 (some false) none none none false none false false .nilf := by (repeat' apply And.intro) <;> kernel_rfl
@[go_sem] theorem ty368 : TY 368 1 24 (some false) (some 333) none none false none false false (.imm 0 [] true) := by (repeat' apply And.intro) <;> kernel_rfl
@[go_sem] theorem ty371 : TY 371 1 8 (some false) none none none false none false false .nilf := by (repeat' apply And.intro) <;> kernel_rfl
@[go_sem] theorem ty381 : TY 381 1 24 (some false) (some 5) none none false none false false (.imm 0 [] true) := by (repeat' apply And.intro) <;> kernel_rfl
@[go_sem] theorem ty382 : TY 382 1 8 (some false) none none none false none false false .nilf := by (repeat' apply And.intro) <;> kernel_rfl
@[go_sem] theorem ty383 : TY 383 1 8 (some false) none none none false none false true .nilp := by (repeat' apply And.intro) <;> kernel_rfl
@[go_sem] theorem ty384 : TY 384 1 8 (some false) none none none false none false true .nilp := by (repeat' apply And.intro) <;> kernel_rfl
@[go_sem] theorem ty386 : TY 386 2 32 (some true) none none none false none false false (.agg [.nilp, .imm 0 [] true]) ∧ Ba Tryz.prog 386 = some [(0, 1), (1, 1)] ∧ TF 386 0 0 384 ∧ TF 386 1 1 381 := by (repeat' first | apply And.intro | unfold TF) <;> kernel_rfl
@[go_sem] theorem ty388 : TY 388 7 96 (some true) none none none false none false false (.agg [.str .empty, .int .i64 0, .nilp, .imm 0 [] true, .imm 0 [] true, .int .i64 0, .int .i64 0]) ∧ Ba Tryz.prog 388 = some [(0, 1), (1, 1), (2, 2), (4, 1), (5, 1), (6, 1)] ∧ TF 388 0 0 9 ∧ TF 388 1 1 3 ∧ TF 388 2 2 386 ∧ TF 388 3 4 361 ∧ TF 388 4 5 3 ∧ TF 388 5 6 47 := by (repeat' first | apply And.intro | unfold TF) <;> kernel_rfl
@[go_sem] theorem ty391 : TY 391 1 8 (some false) none none none false none false false .nilf := by (repeat' apply And.intro) <;> kernel_rfl
@[go_sem] theorem ty403 : TY 403 1 8 (some false) none none none false none false false .nilp := by (repeat' apply And.intro) <;> kernel_rfl
@[go_sem] theorem ty405 : TY 405 1 8 (some false) none none none false none false true .nilp := by (repeat' apply And.intro) <;> kernel_rfl
attribute [go_sem] G9 KR Mx DR Cq D6 GZ Am Dl EK callee ofValue Gj O5 Bm Fp I9 Jm NT Sw isNil Gi C3 HM flat Ea ID Nu Kx SE SB JG NS Gd Gh RP Iq KJ Cu.app E6
 SV.cells SV.storable
section
variable (P : Program) (h : Hp) (n : Nat) (t t2 : TypeId)
@[go_sem] theorem bi_len (x : SV) : AT P h n .len [t] [x] = match x with
 | .str s => if Er P t then D6 (.int .i64 s.size) else none
 | .imm _ es _ => if (BC P t).isSome then D6 (.int .i64 es.length) else none
 | .sl _ _ _ len _ => if (BC P t).isSome then D6 (.int .i64 len) else none
 | .map o => match h o with | some (.map es) => if (KZ P t).isSome then D6 (.int .i64 es.length) else none | _ => none
 | _ => none := by cases x <;> rfl
@[go_sem] theorem bi_cap (x : SV) : AT P h n .cap [t] [x] = match x with
 | .imm _ es true => if (BC P t).isSome then D6 (.int .i64 es.length) else none
 | .sl _ _ _ len true => if (BC P t).isSome then D6 (.int .i64 len) else none
 | _ => none := by cases x <;> rfl
@[go_sem] theorem bi_copy (d x : SV) : AT P h n .copy [t, t2] [d, x] = Nu P h t d x := rfl
@[go_sem] theorem bi_clear (d : SV) : AT P h n .clear [t] [d] = Kx P h t d := rfl
@[go_sem] theorem bi_min (ts : List TypeId) (l : List SV) : AT P h n .min ts l = (SE l).bind D6 := by simp [AT]
@[go_sem] theorem bi_max (ts : List TypeId) (l : List SV) : AT P h n .max ts l = (SB l).bind D6 := by simp [AT]
@[go_sem] theorem bi_delete (o : Nat) (k : SV) : AT P h n .delete [t, t2] [.map o, k] = match KZ P t, h o with
 | some (kt, _), some (.map es) =>
  if !CM P kt k then none else
  match C3 k es 0 with
  | some (some (i, _)) => some { val := .tup [], upd := some (o, some (.map (es.eraseIdx i))) }
  | some none => some { val := .tup [], upd := some (o, some (.map es)) }
  | none => none
 | _, _ => none := rfl
end
theorem follows : Proofs.Tryz.prog.follows .mixedOrders = true := by kernel_rfl
section
variable {E : By} {P : Program} {N : Nat}
end
attribute [simp] Jo
theorem Fz.any {h h2 : Hp} : ∀ (k : Nat) {v r : SV}, Fz (fun _ => none) (fun _ => none) k v r → Fz h h2 k v r
 | 0, _, _, H => H
 | k + 1, v, r, H => by
  have ih : ∀ {us bs : List SV}, AY (Fz (fun _ => none) (fun _ => none) k) us bs → AY (Fz h h2 k) us bs := fun H => H.mono fun _ _ => Fz.any k
  rcases H with H | H
  · exact .inl H
  · refine .inr ?_
    split at H
    · trivial
    · obtain ⟨_, _, _, _, _, _, h1, _⟩ := H; cases h1
    · obtain ⟨_, _, h1, _⟩ := H; cases h1
    · exact ih H
    · exact ih H
    · exact ⟨H.1, ih H.2.1, ih H.2.2⟩
    · exact ih H
    · exact ⟨H.1, H.2.1, ih H.2.2.1, H.2.2.2⟩
    · exact H
    · exact H.elim
section
variable {E : By} {P : Program} {N : Nat}
theorem FR.fz {sa sb : SA} {h h2 : Hp} {c : Cx} {a : Act} (k : Nat) (R : B5 h c) (hs : ∀ o x, h2 o = some x → h o = some x) (A : FR E N sa c a) (hw : ∀ p ∈ sb, Fz h h2 k (Am sa p.1) p.2) : FR E N sb (c.less h2) a := by
 refine ⟨A.size, A.defers.mono (DE R hs), fun t => ?_⟩
 have key : ∀ l : SA, (∀ p ∈ l, Fz h h2 k (Am sa p.1) p.2) → Am l t = .junk ∨ Fz h h2 k (Am sa t) (Am l t) := by
  intro l
  induction l with
  | nil => intro _; exact .inl rfl
  | cons p l ih =>
   intro hl
   obtain ⟨j, x⟩ := p
   simp only [Am]
   by_cases e : j = t
   · subst e; simp only [if_true]; exact .inr (hl (j, x) (by simp))
   · simp only [e, if_false]; exact ih fun q hq => hl q (by simp [hq])
 rcases key sb hw with e | e
 · rw [e]; simp [V]
 · exact Fz.sound R hs k e (A.val t)
theorem Ms {code : Code} {Q : Cl} {sa sb : SA} {h h2 : Hp} {n m : Nat} (k : Nat) (hs : ∀ o x, h2 o = some x → h o = some x) (hm : n ≤ m) (hw : ∀ p ∈ sb, Fz h h2 k (Am sa p.1) p.2) (H : HN E P N code Q sb h2 m) : HN E P N code Q sa h n := by
 intro hd c a I R F A
 have F' : Fr m (c.less h2) := fun j hj => F j (Yv hm hj)
 refine wpIn_mono (H hd (c.less h2) a (E.ext (DE R hs) I) (R.less hs) F' (A.fz k R hs hw)) ?_
 rintro e a' w' ⟨sa', h', n', c', q, hw, R', Fr', A', X⟩
 refine ⟨sa', h', n', c', q, hw, R', Fr', A', ⟨(DE R hs).trans X.ext, Yv hm X.le, fun j hj => ?_⟩⟩
 exact X.same j (Zw hj hm)
theorem Ak.fz {f : FuncId} {us bs : List SV} {h h2 : Hp} {n : Nat} {K : SV → Hp → Nat → Prop} (k : Nat) (hs : ∀ o x, h2 o = some x → h o = some x) (hw : AY (Fz h h2 k) us bs) (H : Ak E P f bs h2 n K) : Ak E P f us h n K := by
 refine ⟨H.1, fun c vs I R F A => ?_⟩
 have A' : AY (V (c.less h2)) bs vs := AY.trans3 (R := V c) (S := Fz h h2 k) (T := V (c.less h2)) (fun a b g h1 h2 => Fz.sound R hs k h2 h1) A hw
 refine (H.2 (c.less h2) vs (E.ext (DE R hs) I) (R.less hs) F A').mono ?_
 rintro e w' ⟨u, v, h', n', c', he, q, hw, hv, R', F', X⟩
 exact ⟨u, v, h', n', c', he, q, hw, hv, R', F', ⟨(DE R hs).trans X.ext, X.le, X.same⟩⟩
theorem Fc.wk {f : FuncId} {us bs : List SV} {v : SV} (k : Nat) (H : Fc P f bs v) (hw : AY (Fz (fun _ => none) (fun _ => none) k) us bs) : Fc P f us v := fun h n =>
 Ak.fz k (fun _ _ e => e) (hw.mono fun _ _ => Fz.any k) (H h n)
mutual
def Dy : SV → Bool
 | .bool _ | .int _ _ | .str _ | .nilp | .nilf | .nilm | .junk => true
 | .agg cs => LR cs
 | .tup cs => LR cs
 | _ => false
def LR : List SV → Bool
 | [] => true
 | s :: ss => Dy s && LR ss
end
mutual
theorem V.plain {c c' : Cx} : ∀ {s : SV} {v : Value}, Dy s = true → V c s v → V c' s v
 | .bool _, _, _, h => h
 | .int _ _, _, _, h => h
 | .str _, _, _, h => h
 | .nilp, _, _, h => h
 | .nilf, _, _, h => h
 | .nilm, _, _, h => h
 | .junk, _, _, _ => trivial
 | .agg cs, v, hp, h => by rw [V] at *; rw [Dy] at hp; obtain ⟨vs, e, hl, ho⟩ := h; exact ⟨vs, e, VL.plain hp hl, ho⟩
 | .tup cs, v, hp, h => by rw [V] at *; rw [Dy] at hp; obtain ⟨vs, e, hl⟩ := h; exact ⟨vs, e, VL.plain hp hl⟩
 | .fn _ _ _, _, hp, _ => by simp [Dy] at hp
 | .ptr _ _, _, hp, _ => by simp [Dy] at hp
 | .iptr _, _, hp, _ => by simp [Dy] at hp
 | .sl _ _ _ _ _, _, hp, _ => by simp [Dy] at hp
 | .slc _ _ _ _ _, _, hp, _ => by simp [Dy] at hp
 | .imm _ _ _, _, hp, _ => by simp [Dy] at hp
 | .map _, _, hp, _ => by simp [Dy] at hp
theorem VL.plain {c c' : Cx} : ∀ {s : List SV} {v : List Value}, LR s = true → VL c s v → VL c' s v
 | [], _, _, h => by rw [VL] at *; exact h
 | s :: ss, v, hp, h => by rw [VL] at *; rw [LR, KB] at hp; obtain ⟨u, r, e, h1, h2⟩ := h; exact ⟨u, r, e, V.plain hp.1 h1, VL.plain hp.2 h2⟩
end
theorem Fc.lend {f : FuncId} {us bs : List SV} {v : SV} {h : Hp} {n : Nat} {K : SV → Hp → Nat → Prop} (k : Nat) (H : Fc P f bs v) (hv : Dy v = true) (hw : AY (Fz h (fun _ => none) k) us bs) (hk : K v h n) : Ak E P f us h n K := by
 refine ⟨(H h n).1, fun c vs _ R F A => ?_⟩
 have hs : ∀ o x, (fun _ => none : Hp) o = some x → h o = some x := fun _ _ e => by cases e
 have A' : AY (V (c.less fun _ => none)) bs vs := AY.trans3 (R := V c) (S := Fz h (fun _ => none) k) (T := V (c.less fun _ => none)) (fun a b g h1 h2 => Fz.sound R hs k h2 h1) A hw
 refine ((H (fun _ => none) n).2 (c.less fun _ => none) vs trivial (R.less hs) F A').mono ?_
 rintro e w' ⟨u, v', h', n', c', he, ⟨rfl, rfl, rfl⟩, rfl, hv', R', F', X0⟩
 have hno : ∀ b, ¬ (c.less fun _ => none).own b := fun b ⟨o, x, e, _⟩ => by cases e
 have hρ : ∀ j, c'.ρ j = c.ρ j := fun j => by
  rcases Yr j n' with hj | hj
  · exact X0.same j hj
  · rw [F' j hj, F j hj]
 have X : Dc c { c with w := c'.w } := ⟨fun _ _ e => e, X0.ext.size, fun b hb ho => ⟨ho, (X0.ext.keep b hb (hno b)).2⟩, X0.ext.room, X0.ext.os, X0.ext.out⟩
 refine ⟨u, v', h, n', { c with w := c'.w }, he, hk, rfl, hv'.plain hv, ⟨fun o x ho => ?_, R.inj2, R.own2⟩, F, ⟨X, JO _, fun _ _ => rfl⟩⟩
 refine (R.obj o x ho).mono X fun b hb => ?_
 exact (X0.ext.keep b ((R.obj o x ho).hold_lt hb) (hno b)).2
theorem Fc.lendU {f : FuncId} {us bs : List SV} {v : SV} {h : Hp} (k : Nat) (foot : List Nat) (H : Fc P f bs v) (hv : Dy v = true) (hw : ∀ h', (∀ j ∈ foot, h' j = h j) → AY (Fz h' (fun _ => none) k) us bs) : Kp E P f us foot [] v h := fun h' _n hf =>
 Fc.lend k H hv (hw h' hf) ⟨rfl, rfl, rfl⟩
theorem Q5 (hm : P.follows .mixedOrders = true) {x : Code} {Q : Cl} {sa : SA} {h : Hp} {n : Nat} {α : Type} (k : Nat) (fr : α → SA) (hp : α → Hp) (I : α → Nat → Prop) (μ : α → Nat) (a0 : α) (hI : I a0 n)
 (hfr : ∀ p ∈ fr a0, Fz h (hp a0) k (Am sa p.1) p.2) (hhp : ∀ o y, hp a0 o = some y → h o = some y)
 (round : ∀ a n, I a n → FU E P N x (DG (fun sa' h' n' => ∃ a', μ a' < μ a ∧ I a' n' ∧ (∀ p ∈ fr a', Fz h' (hp a') k (Am sa' p.1) p.2) ∧ (∀ o y, hp a' o = some y → h' o = some y)) Q) (fr a) (hp a) n) :
 HN E P N (.loop x) Q sa h n := by
 refine Nj (μ a0) (fun m sa h n => ∃ a, m = μ a ∧ I a n ∧ (∀ p ∈ fr a, Fz h (hp a) k (Am sa p.1) p.2) ∧ (∀ o y, hp a o = some y → h o = some y)) ⟨a0, rfl, hI, hfr, hhp⟩ ?_
 rintro m sa h n ⟨a, rfl, hI, hfr, hhp⟩
 refine Ms k hhp (JO _) hfr (F7 (EY hm _ _ _ _ _ (round a n hI)) ?_)
 refine FI fun sa' h' n' ⟨a', h1, h2, h3, h4⟩ => ⟨μ a', h1, a', rfl, h2, h3, h4⟩
end
open Proofs
abbrev FN (f : Func) (n : Nat) (r : List ResultVar) : Prop := f.results.toList = r ∧ f.ntmps = n
@[go_sem] theorem fr6 : FN Tryz.f6 91 [.tmp 6] := ⟨rfl, rfl⟩
@[go_sem] theorem fr11 : FN Tryz.f11 60 [.tmp 0] := ⟨rfl, rfl⟩
@[go_sem] theorem fr12 : FN Tryz.f12 45 [.tmp 2] := ⟨rfl, rfl⟩
@[go_sem] theorem fr13 : FN Tryz.f13 60 [.cell 6 3, .cell 7 3, .tmp 8] := ⟨rfl, rfl⟩
@[go_sem] theorem fr15 : FN Tryz.f15 105 [.cell 8 38, .tmp 9] := ⟨rfl, rfl⟩
@[go_sem] theorem fr17 : FN Tryz.f17 60 [.tmp 4] := ⟨rfl, rfl⟩
@[go_sem] theorem fr18 : FN Tryz.f18 68 [.cell 6 38, .tmp 7] := ⟨rfl, rfl⟩
@[go_sem] theorem fr19 : FN Tryz.f19 35 [.cell 6 38, .tmp 7] := ⟨rfl, rfl⟩
@[go_sem] theorem fr20 : FN Tryz.f20 38 [.cell 4 42, .tmp 5] := ⟨rfl, rfl⟩
@[go_sem] theorem fr21 : FN Tryz.f21 18 [.cell 2 38] := ⟨rfl, rfl⟩
@[go_sem] theorem fr24 : FN Tryz.f24 62 [.tmp 2] := ⟨rfl, rfl⟩
@[go_sem] theorem fr32 : FN Tryz.f32 9 [.cell 0 38] := ⟨rfl, rfl⟩
@[go_sem] theorem fr33 : FN Tryz.f33 133 [.tmp 6] := ⟨rfl, rfl⟩
@[go_sem] theorem fr34 : FN Tryz.f34 18 [.cell 4 22, .cell 5 4] := ⟨rfl, rfl⟩
@[go_sem] theorem fr35 : FN Tryz.f35 27 [.tmp 2, .tmp 3] := ⟨rfl, rfl⟩
@[go_sem] theorem fr36 : FN Tryz.f36 12 [] := ⟨rfl, rfl⟩
@[go_sem] theorem fr37 : FN Tryz.f37 22 [] := ⟨rfl, rfl⟩
@[go_sem] theorem fr38 : FN Tryz.f38 9 [.tmp 4] := ⟨rfl, rfl⟩
@[go_sem] theorem fr39 : FN Tryz.f39 27 [.cell 8 38] := ⟨rfl, rfl⟩
@[go_sem] theorem fr42 : FN Tryz.f42 35 [.tmp 2] := ⟨rfl, rfl⟩
@[go_sem] theorem fr43 : FN Tryz.f43 36 [] := ⟨rfl, rfl⟩
@[go_sem] theorem fr44 : FN Tryz.f44 41 [.tmp 2] := ⟨rfl, rfl⟩
@[go_sem] theorem fr45 : FN Tryz.f45 39 [.tmp 4, .tmp 5] := ⟨rfl, rfl⟩
@[go_sem] theorem fr46 : FN Tryz.f46 17 [.cell 4 29, .tmp 5] := ⟨rfl, rfl⟩
@[go_sem] theorem fr47 : FN Tryz.f47 90 [.cell 6 29] := ⟨rfl, rfl⟩
@[go_sem] theorem fr48 : FN Tryz.f48 7 [.tmp 3] := ⟨rfl, rfl⟩
@[go_sem] theorem fr49 : FN Tryz.f49 28 [.cell 8 38] := ⟨rfl, rfl⟩
@[go_sem] theorem fr52 : FN Tryz.f52 18 [.tmp 4] := ⟨rfl, rfl⟩
@[go_sem] theorem fr54 : FN Tryz.f54 75 [.cell 6 29] := ⟨rfl, rfl⟩
@[go_sem] theorem fr55 : FN Tryz.f55 17 [.tmp 4] := ⟨rfl, rfl⟩
@[go_sem] theorem fr56 : FN Tryz.f56 26 [.tmp 4] := ⟨rfl, rfl⟩
@[go_sem] theorem fr57 : FN Tryz.f57 8 [.tmp 4] := ⟨rfl, rfl⟩
@[go_sem] theorem fr58 : FN Tryz.f58 46 [.tmp 4] := ⟨rfl, rfl⟩
@[go_sem] theorem fr59 : FN Tryz.f59 26 [.tmp 4] := ⟨rfl, rfl⟩
@[go_sem] theorem fr60 : FN Tryz.f60 8 [.tmp 4] := ⟨rfl, rfl⟩
@[go_sem] theorem fr61 : FN Tryz.f61 32 [.tmp 6] := ⟨rfl, rfl⟩
@[go_sem] theorem fr62 : FN Tryz.f62 26 [.tmp 4] := ⟨rfl, rfl⟩
@[go_sem] theorem fr63 : FN Tryz.f63 26 [.tmp 4] := ⟨rfl, rfl⟩
@[go_sem] theorem fr64 : FN Tryz.f64 25 [.tmp 4] := ⟨rfl, rfl⟩
@[go_sem] theorem fr65 : FN Tryz.f65 12 [.cell 4 29, .tmp 5] := ⟨rfl, rfl⟩
@[go_sem] theorem fr66 : FN Tryz.f66 7 [.tmp 3] := ⟨rfl, rfl⟩
@[go_sem] theorem fr67 : FN Tryz.f67 2 [.cell 0 40] := ⟨rfl, rfl⟩
@[go_sem] theorem fr68 : FN Tryz.f68 86 [.tmp 6] := ⟨rfl, rfl⟩
@[go_sem] theorem fr69 : FN Tryz.f69 2 [.cell 0 40] := ⟨rfl, rfl⟩
@[go_sem] theorem fr70 : FN Tryz.f70 15 [.cell 8 29, .tmp 9] := ⟨rfl, rfl⟩
@[go_sem] theorem fr71 : FN Tryz.f71 37 [.tmp 2] := ⟨rfl, rfl⟩
@[go_sem] theorem fr72 : FN Tryz.f72 11 [.tmp 4, .tmp 5] := ⟨rfl, rfl⟩
@[go_sem] theorem fr73 : FN Tryz.f73 93 [.tmp 2] := ⟨rfl, rfl⟩
@[go_sem] theorem fr74 : FN Tryz.f74 19 [.tmp 2] := ⟨rfl, rfl⟩
@[go_sem] theorem fr75 : FN Tryz.f75 42 [.tmp 4] := ⟨rfl, rfl⟩
@[go_sem] theorem fr76 : FN Tryz.f76 8 [.tmp 2] := ⟨rfl, rfl⟩
@[go_sem] theorem fr77 : FN Tryz.f77 15 [.tmp 3] := ⟨rfl, rfl⟩
@[go_sem] theorem fr78 : FN Tryz.f78 54 [.tmp 4, .tmp 5] := ⟨rfl, rfl⟩
@[go_sem] theorem fr79 : FN Tryz.f79 16 [.cell 2 38] := ⟨rfl, rfl⟩
@[go_sem] theorem fr82 : FN Tryz.f82 15 [.tmp 2] := ⟨rfl, rfl⟩
@[go_sem] theorem fr83 : FN Tryz.f83 17 [.tmp 2] := ⟨rfl, rfl⟩
@[go_sem] theorem fr84 : FN Tryz.f84 14 [.tmp 2] := ⟨rfl, rfl⟩
@[go_sem] theorem fr85 : FN Tryz.f85 64 [.tmp 2] := ⟨rfl, rfl⟩
@[go_sem] theorem fr86 : FN Tryz.f86 121 [.tmp 6] := ⟨rfl, rfl⟩
@[go_sem] theorem fr87 : FN Tryz.f87 7 [.tmp 4] := ⟨rfl, rfl⟩
@[go_sem] theorem fr88 : FN Tryz.f88 11 [.tmp 6] := ⟨rfl, rfl⟩
@[go_sem] theorem fr100 : FN Tryz.f100 20 [.tmp 4] := ⟨rfl, rfl⟩
@[go_sem] theorem fr109 : FN Tryz.f109 7 [.tmp 2] := ⟨rfl, rfl⟩
@[go_sem] theorem fr110 : FN Tryz.f110 5 [.tmp 2] := ⟨rfl, rfl⟩
@[go_sem] theorem fr111 : FN Tryz.f111 12 [.tmp 2, .tmp 3] := ⟨rfl, rfl⟩
@[go_sem] theorem fr112 : FN Tryz.f112 10 [.cell 3 29, .tmp 4] := ⟨rfl, rfl⟩
@[go_sem] theorem fr113 : FN Tryz.f113 9 [.tmp 4] := ⟨rfl, rfl⟩
@[go_sem] theorem fr114 : FN Tryz.f114 49 [.tmp 2] := ⟨rfl, rfl⟩
@[go_sem] theorem fr115 : FN Tryz.f115 168 [.tmp 10] := ⟨rfl, rfl⟩
@[go_sem] theorem fr116 : FN Tryz.f116 6 [.tmp 2] := ⟨rfl, rfl⟩
@[go_sem] theorem fr117 : FN Tryz.f117 95 [.tmp 6] := ⟨rfl, rfl⟩
@[go_sem] theorem fr118 : FN Tryz.f118 20 [.cell 2 29] := ⟨rfl, rfl⟩
@[go_sem] theorem fr119 : FN Tryz.f119 9 [] := ⟨rfl, rfl⟩
@[go_sem] theorem fr120 : FN Tryz.f120 10 [.tmp 4] := ⟨rfl, rfl⟩
@[go_sem] theorem fr121 : FN Tryz.f121 91 [.tmp 10] := ⟨rfl, rfl⟩
@[go_sem] theorem fr122 : FN Tryz.f122 63 [.tmp 2] := ⟨rfl, rfl⟩
@[go_sem] theorem fr123 : FN Tryz.f123 32 [.tmp 6] := ⟨rfl, rfl⟩
@[go_sem] theorem fr124 : FN Tryz.f124 52 [.tmp 4] := ⟨rfl, rfl⟩
@[go_sem] theorem fr125 : FN Tryz.f125 26 [.tmp 4] := ⟨rfl, rfl⟩
@[go_sem] theorem fr126 : FN Tryz.f126 26 [.tmp 4] := ⟨rfl, rfl⟩
@[go_sem] theorem fr127 : FN Tryz.f127 26 [.tmp 4] := ⟨rfl, rfl⟩
@[go_sem] theorem fr128 : FN Tryz.f128 32 [.tmp 6] := ⟨rfl, rfl⟩
@[go_sem] theorem fr129 : FN Tryz.f129 45 [.tmp 4] := ⟨rfl, rfl⟩
@[go_sem] theorem fr130 : FN Tryz.f130 8 [.tmp 4] := ⟨rfl, rfl⟩
@[go_sem] theorem fr131 : FN Tryz.f131 49 [.tmp 6, .tmp 7] := ⟨rfl, rfl⟩
@[go_sem] theorem fr132 : FN Tryz.f132 9 [.tmp 4] := ⟨rfl, rfl⟩
@[go_sem] theorem fr133 : FN Tryz.f133 42 [.tmp 4] := ⟨rfl, rfl⟩
@[go_sem] theorem fr134 : FN Tryz.f134 22 [.tmp 4] := ⟨rfl, rfl⟩
@[go_sem] theorem fr135 : FN Tryz.f135 10 [.cell 2 169] := ⟨rfl, rfl⟩
@[go_sem] theorem fr136 : FN Tryz.f136 7 [.tmp 2] := ⟨rfl, rfl⟩
@[go_sem] theorem fr137 : FN Tryz.f137 35 [] := ⟨rfl, rfl⟩
@[go_sem] theorem fr138 : FN Tryz.f138 59 [] := ⟨rfl, rfl⟩
@[go_sem] theorem fr139 : FN Tryz.f139 9 [.tmp 2] := ⟨rfl, rfl⟩
@[go_sem] theorem fr140 : FN Tryz.f140 4 [.tmp 2] := ⟨rfl, rfl⟩
@[go_sem] theorem fr141 : FN Tryz.f141 19 [.tmp 4] := ⟨rfl, rfl⟩
@[go_sem] theorem fr142 : FN Tryz.f142 17 [.tmp 4] := ⟨rfl, rfl⟩
@[go_sem] theorem fr143 : FN Tryz.f143 6 [.tmp 2] := ⟨rfl, rfl⟩
@[go_sem] theorem fr144 : FN Tryz.f144 58 [.cell 2 36] := ⟨rfl, rfl⟩
@[go_sem] theorem fr146 : FN Tryz.f146 79 [.cell 2 47] := ⟨rfl, rfl⟩
@[go_sem] theorem fr147 : FN Tryz.f147 14 [.tmp 2] := ⟨rfl, rfl⟩
@[go_sem] theorem fr148 : FN Tryz.f148 14 [.tmp 2] := ⟨rfl, rfl⟩
@[go_sem] theorem fr149 : FN Tryz.f149 14 [.tmp 2] := ⟨rfl, rfl⟩
@[go_sem] theorem fr150 : FN Tryz.f150 18 [.tmp 4] := ⟨rfl, rfl⟩
@[go_sem] theorem fr151 : FN Tryz.f151 25 [.tmp 3] := ⟨rfl, rfl⟩
@[go_sem] theorem fr152 : FN Tryz.f152 37 [.tmp 4] := ⟨rfl, rfl⟩
@[go_sem] theorem fr153 : FN Tryz.f153 9 [.tmp 3] := ⟨rfl, rfl⟩
@[go_sem] theorem fr154 : FN Tryz.f154 15 [.tmp 2] := ⟨rfl, rfl⟩
@[go_sem] theorem fr155 : FN Tryz.f155 15 [.tmp 6] := ⟨rfl, rfl⟩
@[go_sem] theorem fr156 : FN Tryz.f156 64 [.tmp 4] := ⟨rfl, rfl⟩
@[go_sem] theorem fr157 : FN Tryz.f157 41 [.tmp 6] := ⟨rfl, rfl⟩
@[go_sem] theorem fr158 : FN Tryz.f158 12 [.tmp 5] := ⟨rfl, rfl⟩
@[go_sem] theorem fr159 : FN Tryz.f159 64 [.tmp 8] := ⟨rfl, rfl⟩
@[go_sem] theorem fr160 : FN Tryz.f160 13 [.tmp 5] := ⟨rfl, rfl⟩
@[go_sem] theorem fr161 : FN Tryz.f161 117 [.tmp 6] := ⟨rfl, rfl⟩
@[go_sem] theorem fr169 : FN Tryz.f169 8 [.tmp 2] := ⟨rfl, rfl⟩
@[go_sem] theorem fr170 : FN Tryz.f170 6 [.tmp 2] := ⟨rfl, rfl⟩
@[go_sem] theorem fr173 : FN Tryz.f173 8 [.tmp 6] := ⟨rfl, rfl⟩
@[go_sem] theorem fr174 : FN Tryz.f174 22 [.tmp 4] := ⟨rfl, rfl⟩
@[go_sem] theorem fr175 : FN Tryz.f175 16 [.cell 2 70] := ⟨rfl, rfl⟩
@[go_sem] theorem fr176 : FN Tryz.f176 10 [.cell 2 169] := ⟨rfl, rfl⟩
@[go_sem] theorem fr177 : FN Tryz.f177 22 [.tmp 2, .tmp 3] := ⟨rfl, rfl⟩
@[go_sem] theorem fr178 : FN Tryz.f178 19 [.tmp 4] := ⟨rfl, rfl⟩
@[go_sem] theorem fr179 : FN Tryz.f179 37 [.tmp 2] := ⟨rfl, rfl⟩
@[go_sem] theorem fr180 : FN Tryz.f180 34 [.tmp 6, .tmp 7] := ⟨rfl, rfl⟩
@[go_sem] theorem fr181 : FN Tryz.f181 73 [.cell 8 169, .tmp 9] := ⟨rfl, rfl⟩
@[go_sem] theorem fr182 : FN Tryz.f182 24 [.tmp 2] := ⟨rfl, rfl⟩
@[go_sem] theorem fr185 : FN Tryz.f185 8 [.tmp 2] := ⟨rfl, rfl⟩
@[go_sem] theorem fr186 : FN Tryz.f186 8 [.tmp 2] := ⟨rfl, rfl⟩
@[go_sem] theorem fr187 : FN Tryz.f187 8 [.tmp 2] := ⟨rfl, rfl⟩
@[go_sem] theorem fr188 : FN Tryz.f188 63 [] := ⟨rfl, rfl⟩
@[go_sem] theorem fr189 : FN Tryz.f189 36 [.tmp 2] := ⟨rfl, rfl⟩
@[go_sem] theorem fr190 : FN Tryz.f190 74 [.tmp 8] := ⟨rfl, rfl⟩
@[go_sem] theorem fr191 : FN Tryz.f191 32 [.tmp 6] := ⟨rfl, rfl⟩
@[go_sem] theorem fr192 : FN Tryz.f192 17 [.tmp 4] := ⟨rfl, rfl⟩
@[go_sem] theorem fr193 : FN Tryz.f193 19 [.tmp 4] := ⟨rfl, rfl⟩
@[go_sem] theorem fr194 : FN Tryz.f194 22 [.tmp 4] := ⟨rfl, rfl⟩
@[go_sem] theorem fr195 : FN Tryz.f195 12 [.cell 2 171] := ⟨rfl, rfl⟩
@[go_sem] theorem fr196 : FN Tryz.f196 5 [.tmp 2] := ⟨rfl, rfl⟩
@[go_sem] theorem fr197 : FN Tryz.f197 11 [] := ⟨rfl, rfl⟩
@[go_sem] theorem fr198 : FN Tryz.f198 14 [] := ⟨rfl, rfl⟩
@[go_sem] theorem fr199 : FN Tryz.f199 8 [.tmp 2] := ⟨rfl, rfl⟩
@[go_sem] theorem fr200 : FN Tryz.f200 8 [.tmp 2] := ⟨rfl, rfl⟩
@[go_sem] theorem fr201 : FN Tryz.f201 8 [.tmp 2] := ⟨rfl, rfl⟩
@[go_sem] theorem fr202 : FN Tryz.f202 8 [.tmp 2] := ⟨rfl, rfl⟩
@[go_sem] theorem fr203 : FN Tryz.f203 8 [.tmp 2] := ⟨rfl, rfl⟩
@[go_sem] theorem fr207 : FN Tryz.f207 99 [.tmp 4] := ⟨rfl, rfl⟩
@[go_sem] theorem fr208 : FN Tryz.f208 25 [.tmp 6] := ⟨rfl, rfl⟩
@[go_sem] theorem fr209 : FN Tryz.f209 6 [.tmp 4] := ⟨rfl, rfl⟩
@[go_sem] theorem fr210 : FN Tryz.f210 15 [.tmp 3] := ⟨rfl, rfl⟩
@[go_sem] theorem fr211 : FN Tryz.f211 9 [.tmp 3] := ⟨rfl, rfl⟩
@[go_sem] theorem fr212 : FN Tryz.f212 57 [.tmp 2] := ⟨rfl, rfl⟩
@[go_sem] theorem fr213 : FN Tryz.f213 41 [.tmp 3] := ⟨rfl, rfl⟩
@[go_sem] theorem fr214 : FN Tryz.f214 9 [.tmp 4] := ⟨rfl, rfl⟩
@[go_sem] theorem fr215 : FN Tryz.f215 9 [.tmp 3] := ⟨rfl, rfl⟩
@[go_sem] theorem fr216 : FN Tryz.f216 9 [.tmp 3] := ⟨rfl, rfl⟩
@[go_sem] theorem fr217 : FN Tryz.f217 13 [.tmp 2] := ⟨rfl, rfl⟩
@[go_sem] theorem fr218 : FN Tryz.f218 56 [.tmp 3] := ⟨rfl, rfl⟩
@[go_sem] theorem fr219 : FN Tryz.f219 63 [.tmp 2] := ⟨rfl, rfl⟩
@[go_sem] theorem fr220 : FN Tryz.f220 20 [.tmp 4] := ⟨rfl, rfl⟩
@[go_sem] theorem fr221 : FN Tryz.f221 26 [.tmp 4] := ⟨rfl, rfl⟩
@[go_sem] theorem fr222 : FN Tryz.f222 164 [.tmp 2] := ⟨rfl, rfl⟩
@[go_sem] theorem fr223 : FN Tryz.f223 29 [.tmp 4] := ⟨rfl, rfl⟩
@[go_sem] theorem fr224 : FN Tryz.f224 77 [.tmp 6] := ⟨rfl, rfl⟩
@[go_sem] theorem fr245 : FN Tryz.f245 19 [.tmp 2] := ⟨rfl, rfl⟩
@[go_sem] theorem fr246 : FN Tryz.f246 25 [.tmp 2] := ⟨rfl, rfl⟩
@[go_sem] theorem fr247 : FN Tryz.f247 10 [] := ⟨rfl, rfl⟩
@[go_sem] theorem fr248 : FN Tryz.f248 74 [.tmp 8] := ⟨rfl, rfl⟩
@[go_sem] theorem fr249 : FN Tryz.f249 12 [.cell 2 171] := ⟨rfl, rfl⟩
@[go_sem] theorem fr250 : FN Tryz.f250 31 [.tmp 6] := ⟨rfl, rfl⟩
@[go_sem] theorem fr251 : FN Tryz.f251 74 [.cell 4 22, .cell 5 22] := ⟨rfl, rfl⟩
@[go_sem] theorem fr252 : FN Tryz.f252 74 [.tmp 4, .tmp 5, .tmp 6] := ⟨rfl, rfl⟩
@[go_sem] theorem fr254 : FN Tryz.f254 53 [] := ⟨rfl, rfl⟩
@[go_sem] theorem fr256 : FN Tryz.f256 27 [.tmp 4] := ⟨rfl, rfl⟩
@[go_sem] theorem fr257 : FN Tryz.f257 77 [.tmp 8] := ⟨rfl, rfl⟩
@[go_sem] theorem fr258 : FN Tryz.f258 32 [.tmp 6] := ⟨rfl, rfl⟩
@[go_sem] theorem fr259 : FN Tryz.f259 24 [.tmp 4] := ⟨rfl, rfl⟩
@[go_sem] theorem fr260 : FN Tryz.f260 13 [.tmp 4] := ⟨rfl, rfl⟩
@[go_sem] theorem fr261 : FN Tryz.f261 134 [] := ⟨rfl, rfl⟩
@[go_sem] theorem fr266 : FN Tryz.f266 41 [.tmp 2] := ⟨rfl, rfl⟩
@[go_sem] theorem fr267 : FN Tryz.f267 16 [.tmp 6, .tmp 7] := ⟨rfl, rfl⟩
@[go_sem] theorem fr268 : FN Tryz.f268 5 [.tmp 2] := ⟨rfl, rfl⟩
@[go_sem] theorem fr269 : FN Tryz.f269 14 [.tmp 4, .tmp 5] := ⟨rfl, rfl⟩
@[go_sem] theorem fr270 : FN Tryz.f270 46 [] := ⟨rfl, rfl⟩
@[go_sem] theorem fr271 : FN Tryz.f271 26 [.tmp 4] := ⟨rfl, rfl⟩
@[go_sem] theorem fr272 : FN Tryz.f272 19 [.tmp 4] := ⟨rfl, rfl⟩
@[go_sem] theorem fr273 : FN Tryz.f273 21 [.cell 2 333, .tmp 3] := ⟨rfl, rfl⟩
@[go_sem] theorem fr274 : FN Tryz.f274 25 [.tmp 2] := ⟨rfl, rfl⟩
@[go_sem] theorem fr281 : FN Tryz.f281 7 [.tmp 2] := ⟨rfl, rfl⟩
@[go_sem] theorem fr282 : FN Tryz.f282 33 [.tmp 2] := ⟨rfl, rfl⟩
@[go_sem] theorem fr285 : FN Tryz.f285 4 [.tmp 2] := ⟨rfl, rfl⟩
@[go_sem] theorem fr286 : FN Tryz.f286 24 [.tmp 4, .tmp 5] := ⟨rfl, rfl⟩
@[go_sem] theorem fr287 : FN Tryz.f287 33 [.tmp 2, .tmp 3, .tmp 4] := ⟨rfl, rfl⟩
@[go_sem] theorem fr290 : FN Tryz.f290 49 [] := ⟨rfl, rfl⟩
@[go_sem] theorem fr291 : FN Tryz.f291 56 [] := ⟨rfl, rfl⟩
@[go_sem] theorem fr292 : FN Tryz.f292 65 [] := ⟨rfl, rfl⟩
@[go_sem] theorem fr293 : FN Tryz.f293 57 [.tmp 6, .tmp 7] := ⟨rfl, rfl⟩
@[go_sem] theorem fr294 : FN Tryz.f294 32 [] := ⟨rfl, rfl⟩
@[go_sem] theorem fr295 : FN Tryz.f295 133 [.tmp 6] := ⟨rfl, rfl⟩
@[go_sem] theorem fr296 : FN Tryz.f296 84 [.tmp 8] := ⟨rfl, rfl⟩
@[go_sem] theorem fr297 : FN Tryz.f297 168 [.tmp 8, .tmp 9] := ⟨rfl, rfl⟩
@[go_sem] theorem fr299 : FN Tryz.f299 19 [.tmp 4] := ⟨rfl, rfl⟩
@[go_sem] theorem fr300 : FN Tryz.f300 15 [.tmp 4] := ⟨rfl, rfl⟩
@[go_sem] theorem fr301 : FN Tryz.f301 8 [.tmp 3] := ⟨rfl, rfl⟩
@[go_sem] theorem fr302 : FN Tryz.f302 35 [.tmp 2, .tmp 3] := ⟨rfl, rfl⟩
@[go_sem] theorem fr303 : FN Tryz.f303 9 [.tmp 4] := ⟨rfl, rfl⟩
@[go_sem] theorem fr304 : FN Tryz.f304 8 [.tmp 3] := ⟨rfl, rfl⟩
@[go_sem] theorem fr305 : FN Tryz.f305 47 [.tmp 0] := ⟨rfl, rfl⟩
@[go_sem] theorem fr306 : FN Tryz.f306 49 [.tmp 6, .tmp 7] := ⟨rfl, rfl⟩
@[go_sem] theorem fr307 : FN Tryz.f307 9 [.tmp 4] := ⟨rfl, rfl⟩
@[go_sem] theorem fr312 : FN Tryz.f312 28 [] := ⟨rfl, rfl⟩
@[go_sem] theorem fr313 : FN Tryz.f313 25 [.tmp 2] := ⟨rfl, rfl⟩
@[go_sem] theorem fr315 : FN Tryz.f315 76 [] := ⟨rfl, rfl⟩
@[go_sem] theorem fr316 : FN Tryz.f316 15 [.tmp 6] := ⟨rfl, rfl⟩
@[go_sem] theorem fr317 : FN Tryz.f317 36 [.tmp 10] := ⟨rfl, rfl⟩
@[go_sem] theorem fr318 : FN Tryz.f318 9 [.tmp 4] := ⟨rfl, rfl⟩
@[go_sem] theorem fr319 : FN Tryz.f319 9 [.tmp 2] := ⟨rfl, rfl⟩
@[go_sem] theorem fr320 : FN Tryz.f320 68 [] := ⟨rfl, rfl⟩
@[go_sem] theorem fr321 : FN Tryz.f321 19 [.tmp 4] := ⟨rfl, rfl⟩
@[go_sem] theorem fr326 : FN Tryz.f326 28 [.tmp 8, .tmp 9] := ⟨rfl, rfl⟩
@[go_sem] theorem fr327 : FN Tryz.f327 19 [.tmp 4] := ⟨rfl, rfl⟩
@[go_sem] theorem fr328 : FN Tryz.f328 93 [] := ⟨rfl, rfl⟩
@[go_sem] theorem fr329 : FN Tryz.f329 17 [.tmp 4] := ⟨rfl, rfl⟩
@[go_sem] theorem fr330 : FN Tryz.f330 25 [] := ⟨rfl, rfl⟩
@[go_sem] theorem fr332 : FN Tryz.f332 8 [.tmp 4] := ⟨rfl, rfl⟩
@[go_sem] theorem fr333 : FN Tryz.f333 30 [.tmp 4] := ⟨rfl, rfl⟩
@[go_sem] theorem fr334 : FN Tryz.f334 29 [] := ⟨rfl, rfl⟩
@[go_sem] theorem fr335 : FN Tryz.f335 20 [] := ⟨rfl, rfl⟩
@[go_sem] theorem fr336 : FN Tryz.f336 8 [.tmp 2] := ⟨rfl, rfl⟩
@[go_sem] theorem fr337 : FN Tryz.f337 14 [.tmp 2] := ⟨rfl, rfl⟩
@[go_sem] theorem fr338 : FN Tryz.f338 8 [] := ⟨rfl, rfl⟩
@[go_sem] theorem fr340 : FN Tryz.f340 18 [.tmp 4] := ⟨rfl, rfl⟩
theorem Bl {α : Type} (a : α) : ∃ b, b = a := ⟨a, rfl⟩
noncomputable def NY : (E : By) → (P : Program) → (ops : Array Oper) → (Q : SA → Hp → Nat → Prop) → List Oper → SA → Hp → Nat → Prop := Classical.choose (Bl Ho)
theorem NZ : NY = Ho := YI (Bl Ho)
noncomputable def KV : (E : By) → (P : Program) → (ops : Array Oper) → (Q : SA → Hp → Nat → Prop) → List Oper → List CP → SA → Hp → Nat → Prop := Classical.choose (Bl El)
theorem Lj : KV = El := YI (Bl El)
noncomputable def JZ : (E : By) → (P : Program) → (N : Nat) → Code → Cl → SA → Hp → Nat → Prop := Classical.choose (Bl FU)
theorem EP : JZ = FU := YI (Bl FU)
noncomputable def TI : (E : By) → (P : Program) → (ops : Array Oper) → (Q : SA → Hp → Nat → Prop) → List Oper → SA → Option Tmp → SV → Hp → Nat → Prop :=
 Classical.choose (Bl fun E P ops Q rest sa dst v h n => NY E P ops Q rest (Dl sa dst v) h n)
@[go_sem] theorem kont_at (E : By) (P : Program) (ops : Array Oper) (Q : SA → Hp → Nat → Prop) (rest : List Oper) (sa : SA) (dst : Option Tmp) (v : SV) (h : Hp) (n : Nat) :
 TI E P ops Q rest sa dst v h n = NY E P ops Q rest (Dl sa dst v) h n := by
 unfold TI; rw [YI (Bl fun E P ops Q rest sa dst v h n => NY E P ops Q rest (Dl sa dst v) h n)]
noncomputable def OH : (E : By) → (P : Program) → (N : Nat) → Code → Cl → Cl := Classical.choose (Bl fun E P N b Q => DG (FU E P N b Q) Q)
theorem JE : OH = fun E P N b Q => DG (FU E P N b Q) Q := YI (Bl fun E P N b Q => DG (FU E P N b Q) Q)
noncomputable def LI : Nat → Cl → Cl := Classical.choose (Bl E7)
theorem H5 : LI = E7 := YI (Bl E7)
section
variable (E : By) (P : Program) (N : Nat) (ops : Array Oper) (a b : Code) (id : Nat) (Q : Cl) (K : SA → Hp → Nat → Prop) (sa : SA) (h : Hp) (n : Nat)
@[go_sem] theorem TJ : OH E P N b Q .normal sa h n = JZ E P N b Q sa h n := by rw [JE, EP]; simp only [DG]
@[go_sem] theorem Ub : OH E P N b Q (.exit id) sa h n = Q (.exit id) sa h n := by rw [JE]; simp only [DG]
@[go_sem] theorem kthen_ret : OH E P N b Q .ret sa h n = Q .ret sa h n := by rw [JE]; simp only [DG]
@[go_sem] theorem So : LI id Q .normal sa h n = Q .normal sa h n := by rw [H5]; simp only [E7]
@[go_sem] theorem Ua : LI id Q .ret sa h n = Q .ret sa h n := by rw [H5]; simp only [E7]
@[go_sem] theorem Tz (i : Nat) : LI id Q (.exit i) sa h n = if i = id then Q .normal sa h n else Q (.exit i) sa h n := by rw [H5]; simp only [E7]
@[go_sem] theorem wlk_skip : JZ E P N .skip Q sa h n = Q .normal sa h n := by rw [EP]; simp only [FU]
@[go_sem] theorem wlk_seq : JZ E P N (.seq a b) Q sa h n = JZ E P N a (OH E P N b Q) sa h n := by rw [EP, JE]; simp only [FU]
@[go_sem] theorem wlk_cond (c : Operand) : JZ E P N (.cond c a b) Q sa h n = match GZ sa c with | .bool t => if t = true then JZ E P N a Q sa h n else JZ E P N b Q sa h n | _ => False := by rw [EP]; simp only [FU] <;> cases GZ sa c <;> rfl
@[go_sem] theorem wlk_block : JZ E P N (.block id b) Q sa h n = JZ E P N b (LI id Q) sa h n := by rw [EP, H5]; simp only [FU]
@[go_sem] theorem wlk_exit : JZ E P N (.exit id) Q sa h n = Q (.exit id) sa h n := by rw [EP]; simp only [FU]
@[go_sem] theorem wlk_ret : JZ E P N .ret Q sa h n = Q .ret sa h n := by rw [EP]; simp only [FU]
@[go_sem] theorem U5 : JZ E P N (.region id ops false) Q sa h n = NY E P ops (Q .normal) ops.toList sa h n := by rw [EP, NZ]; simp only [FU]
@[go_sem] theorem wlk_drawn : JZ E P N (.region id ops true) Q sa h n = (Ep ops = true ∧ KV E P ops (Q .normal) ops.toList [] sa h n) := by rw [EP, Lj]; simp only [FU]
@[go_sem] theorem wlk_loop : JZ E P N (.loop b) Q sa h n = HN E P N (.loop b) Q sa h n := by rw [EP]; simp only [FU]
@[go_sem] theorem wlk_range (g : Operand) (ps : Array Tmp) : JZ E P N (.rangeFunc g ps a b) Q sa h n = HN E P N (.rangeFunc g ps a b) Q sa h n := by rw [EP]; simp only [FU]
@[go_sem] theorem wops_nil : NY E P ops K [] sa h n = K sa h n := by rw [NZ]; simp only [Ho]
@[go_sem] theorem wops_cons (o : Oper) (rest : List Oper) : NY E P ops K (o :: rest) sa h n =
 match DR ops sa o with | some b => if b = true then KR E P o sa h n (TI E P ops K rest sa o.dst) else NY E P ops K rest (Dl sa o.dst (.tup [])) h n | none => False := by
 unfold TI; rw [YI (Bl fun E P ops Q rest sa dst v h n => NY E P ops Q rest (Dl sa dst v) h n)]
 rw [NZ]; simp only [Ho]; cases DR ops sa o <;> rfl
@[go_sem] theorem wdraw_nil (tr : List CP) : KV E P ops K [] tr sa h n = K sa h n := by rw [Lj]; simp only [El]
end
def CI (ops : Array Oper) (i : Nat) (r : CP) : Nat → List CP → Bool
 | _, [] => true
 | j, q :: qs => (Ef ops j i || (C2 (Au q.wr) r.foot && C2 (Au r.wr) q.foot && C2 (Au q.new) r.foot)) && CI ops i r (j + 1) qs
theorem MQ (ops : Array Oper) (i : Nat) (r : CP) : ∀ (l : List CP) (j : Nat), CI ops i r j l = HI ops i r j l
 | [], _ => rfl
 | q :: qs, j => by rw [CI, HI, MQ ops i r qs, Bool.or_comm]
noncomputable def JD : (E : By) → (P : Program) → (ops : Array Oper) → (Q : SA → Hp → Nat → Prop) → List Oper → List CP → SA → CP → Hp → Nat → Prop :=
 Classical.choose (Bl fun E P ops Q rest tr sa r h n => CI ops tr.length r 0 tr = true ∧ KV E P ops Q rest (tr ++ [r]) (Dl sa r.dst r.val) h n)
section
variable (E : By) (P : Program) (ops : Array Oper) (K : SA → Hp → Nat → Prop) (sa : SA) (h : Hp) (n : Nat)
@[go_sem] theorem Ru (rest : List Oper) (tr : List CP) (r : CP) : JD E P ops K rest tr sa r h n = (CI ops tr.length r 0 tr = true ∧ KV E P ops K rest (tr ++ [r]) (Dl sa r.dst r.val) h n) := by
 unfold JD; rw [YI (Bl fun E P ops Q rest tr sa r h n => CI ops tr.length r 0 tr = true ∧ KV E P ops Q rest (tr ++ [r]) (Dl sa r.dst r.val) h n)]
def Bq (g : FuncId) (us : List SV) (rest : List Oper) (tr : List CP) (dst : Option Tmp) : Prop :=
 ∃ foot wr v, Kp E P g us foot wr v h ∧ (∀ k ∈ Au wr, k ∈ foot) ∧ (∀ k ∈ foot, k < n) ∧ JD E P ops K rest tr sa { dst := dst, val := v, foot := foot, wr := wr } (CK h wr) n
def Rb (o : Oper) (rest : List Oper) (tr : List CP) : Prop :=
 match o.op with
 | .call { callee := .value f, args, .. } =>
  match callee (GZ sa f) (args.toList.map (GZ sa)) with
  | some (g, us) => Bq E P ops K sa h n g us rest tr o.dst
  | none => False
 | op =>
  match Cq P (GZ sa) h n op with
  | some out =>
   (∀ k ∈ Au out.upd.toList ++ EV (GZ sa) op, k < n) ∧ JD E P ops K rest tr sa { dst := o.dst, val := out.val, foot := Au out.upd.toList ++ EV (GZ sa) op, wr := out.upd.toList, new := (out.new.map fun x => (n, some x)).toList } (out.app h n) (if out.new.isSome then n + 1 else n)
  | none => ∃ v, QL P (GZ sa) o v ∧ JD E P ops K rest tr sa { dst := o.dst, val := v } h n
@[go_sem] theorem U3 (o : Oper) (rest : List Oper) (tr : List CP) : KV E P ops K (o :: rest) tr sa h n =
 match DR ops sa o with | some b => if b = true then Rb E P ops K sa h n o rest tr else KV E P ops K rest (tr ++ [{ dst := o.dst, val := .tup [] }]) (Dl sa o.dst (.tup [])) h n | none => False := by
 unfold Rb Bq
 simp only [Ru, MQ]
 rw [Lj]
 conv => lhs; unfold El
 cases DR ops sa o <;> rfl
variable {E}
theorem Bq.pure {g : FuncId} {us : List SV} {rest : List Oper} {tr : List CP} {dst : Option Tmp} {v : SV} (H : Fc P g us v) (hk : JD E P ops K rest tr sa { dst := dst, val := v } h n) : Bq E P ops K sa h n g us rest tr dst :=
 ⟨[], [], v, H.u h, by simp [Au], by simp, hk⟩
theorem Bq.lend {g : FuncId} {us bs : List SV} {rest : List Oper} {tr : List CP} {dst : Option Tmp} {v : SV} (k : Nat) (foot : List Nat) (H : Fc P g bs v) (hv : Dy v = true) (hf : ∀ j ∈ foot, j < n) (hw : ∀ h', (∀ j ∈ foot, h' j = h j) → AY (Fz h' (fun _ => none) k) us bs)
 (hk : JD E P ops K rest tr sa { dst := dst, val := v, foot := foot } h n) : Bq E P ops K sa h n g us rest tr dst :=
 ⟨foot, [], v, H.lendU k foot hv hw, by simp [Au], hf, hk⟩
end
attribute [go_sem] Rb EV Au Op.operands Call.operands SV.ids Yx Xo
attribute [go_sem] Lx Lw JN
abbrev PC (f : FuncId) (args : List SV) (v : SV) : Prop := Fc Tryz.prog f args v
abbrev FM (h : Hp) (n : Nat) : Prop := ∀ o x, h o = some x → o < n ∧ BW n x = true
theorem Ax {h h' : Hp} {n n' : Nat} {v' v : SV} (ho : FM h n) (hh : ∀ o x, h o = some x → h' o = some x) (e : v' = v) (hc : closed n v = true) : CE n h' n' v' (Is v h n) := by
 subst e; exact CE.plain hc ho hh ⟨rfl, rfl, rfl⟩
theorem Db {h h' : Hp} {n n' : Nat} {v' v : SV} (k : Nat) (ho : FM h n) (hh : ∀ o x, h o = some x → h' o = some x) (e : Fz h' h k v' v) (hc : closed n v = true) : CE n h' n' v' (Is v h n) :=
 .inr ⟨k, v, h, e, hc, fun o x e => ⟨hh o x e, ho o x e⟩, rfl, rfl, rfl⟩
theorem A3 {h : Hp} {n n' : Nat} {v' v : SV} (ho : FM h n) (hc : closed n v = true) (e : v' = v) : CE n h n' v' (Is v h n) := Ax ho (fun _ _ e => e) e hc
theorem AN {h : Hp} {n o : Nat} {y : Option BY} (ho : FM h n) (hn : n ≤ o) {h' : Hp} (hh : ∀ o x, h o = some x → h' o = some x) : ∀ o' x, h o' = some x → hset h' o y o' = some x := by
 intro o' x e
 have := (ho o' x e).1
 have ne : o' ≠ o := by omega
 simp [hset, ne, hh _ _ e]
theorem AB {h : Hp} : ∀ o x, h o = some x → h o = some x := fun _ _ e => e
theorem go {E : By} {f : FuncId} {fn : Func} {code : Code} {args : List SV} {h : Hp} {n : Nat} {K : SV → Hp → Nat → Prop} (hf : Tryz.prog.funcs[f]? = some fn) (hb : fn.body = some code)
 (hn : (fn.name != "runtime.NumGoroutine") = true) (hd : Code.dok fn.ntmps code = true) (hl : args.length ≤ fn.ntmps)
 (H : FM h n → JZ (E.call false 0) Tryz.prog fn.ntmps code (Lx Tryz.prog fn n K) (EK 0 args) h n) : Ak E Tryz.prog f args h n K :=
 QK follows hf hb hn hd hl fun _ ho => by rw [← EP]; exact H ho
theorem gq {E : By} {f : FuncId} {fn : Func} {code : Code} {args : List SV} {h : Hp} {n : Nat} {K : SV → Hp → Nat → Prop} (hf : Tryz.prog.funcs[f]? = some fn) (hb : fn.body = some code)
 (H : FM h n → JZ (E.call false 0) Tryz.prog fn.ntmps code (Lx Tryz.prog fn n K) (EK 0 args) h n)
 (hn : (fn.name != "runtime.NumGoroutine") = true := by kernel_rfl) (hd : Code.dok fn.ntmps code = true := by kernel_rfl) (hl : args.length ≤ fn.ntmps := by simp [go_sem]) : Ak E Tryz.prog f args h n K :=
 go hf hb hn hd hl H
theorem Aq {E : By} {N : Nat} {x : Code} {Q : Cl} {sa : SA} {h : Hp} {n : Nat} {α : Type} (k : Nat) (fr : α → SA) (hp : α → Hp) (I : α → Nat → Prop) (μ : α → Nat) (a0 : α) (hI : I a0 n)
 (hfr : ∀ p ∈ fr a0, Fz h (hp a0) k (Am sa p.1) p.2) (hhp : ∀ o y, hp a0 o = some y → h o = some y)
 (round : ∀ a n, I a n → JZ E Tryz.prog N x (DG (fun sa' h' n' => ∃ a', μ a' < μ a ∧ I a' n' ∧ (∀ p ∈ fr a', Fz h' (hp a') k (Am sa' p.1) p.2) ∧ (∀ o y, hp a' o = some y → h' o = some y)) Q) (fr a) (hp a) n) :
 HN E Tryz.prog N (.loop x) Q sa h n :=
 Q5 follows k fr hp I μ a0 hI hfr hhp fun a n ha => by rw [← EP]; exact round a n ha
@[go_sem] theorem Dv (K : SA → Hp → Nat → Prop) (Q : Cl) : DG K Q .normal = K := rfl
@[go_sem] theorem Uy (K : SA → Hp → Nat → Prop) (Q : Cl) (i : Nat) : DG K Q (.exit i) = Q (.exit i) := rfl
@[go_sem] theorem thenQ_ret (K : SA → Hp → Nat → Prop) (Q : Cl) : DG K Q .ret = Q .ret := rfl
attribute [go_sem] closed closedL
theorem nd {ops : Array Oper} {i j : Nat} {r : CP} {l : List CP} {R : Prop} (h : CI ops i r j l = true) (hr : R) : CI ops i r j l = true ∧ R := ⟨h, hr⟩
theorem sd {ops : Array Oper} {R : Prop} (h : Ep ops = true) (hr : R) : Ep ops = true ∧ R := ⟨h, hr⟩
theorem DJ {x : Int} (h0 : -4611686018427387904 ≤ x) (h1 : x ≤ 4611686018427387904) : IntKind.i64.wrap x = x := IntWalk.i64_in x (by omega)
theorem nq {ops : Array Oper} {i j : Nat} {r : CP} {l : List CP} {R : Prop} (hr : R) (h : CI ops i r j l = true := by kernel_rfl) : CI ops i r j l = true ∧ R := ⟨h, hr⟩
theorem sq {ops : Array Oper} {R : Prop} (hr : R) (h : Ep ops = true := by kernel_rfl) : Ep ops = true ∧ R := ⟨h, hr⟩
theorem aq {a R : Prop} (hr : R) (h : a := by omega) : a ∧ R := ⟨h, hr⟩
theorem wS (i : Nat) (h : i < 4611686018427387904) : IntKind.i64.wrap ((i : Int) + 1) = ((i + 1 : Nat) : Int) := by rw [DJ] <;> omega
theorem FM.lt {h : Hp} {n : Nat} (ho : FM h n) : ∀ j y, h j = some y → j < n := fun j y e => (ho j y e).1
theorem PC.use {E : By} {f : FuncId} {args : List SV} {v : SV} (H : PC f args v) {h : Hp} {n : Nat} {K : SV → Hp → Nat → Prop} (hk : K v h n) : Ak E Tryz.prog f args h n K := Fc.use H hk
theorem RO {s : ByteArray} {i : Nat} (h : i < s.size) : s[i]? = some s[i] := getElem?_pos s i h
set_option maxRecDepth 10000
def I4 (b : Int) : Int := if b = 224 then 160 else if b = 240 then 144 else 128
def Gy (b : Int) : Int := if b = 237 then 159 else if b = 244 then 143 else 191
def DQ (b : Int) : Int := if b < 128 then 1 else if b < 194 ∨ 244 < b then 0 else if b < 224 then 2 else if b < 240 then 3 else 4
theorem c287 (b : Int) : PC 287 [.int .u8 b] (.tup [.int .u8 (I4 b), .int .u8 (Gy b), .int .i64 (DQ b)]) := by
 intro h n
 refine gq Tryz.func287 rfl fun ho => ?_
 by_cases h1 : b < 128 <;> by_cases h2 : b < 194 <;> by_cases h3 : 244 < b <;> by_cases h4 : b < 224 <;> by_cases h5 : b < 240 <;> by_cases h6 : b = 224 <;> by_cases h7 : b = 237 <;> by_cases h8 : b = 240 <;> by_cases h9 : b = 244 <;> try omega
 all_goals
  simp [go_sem, h1, h2, h3, h4, h5, h6, h7, h8, h9, I4, Gy, DQ]
  exact A3 ho rfl (by simp)
def Al (s : ByteArray) (i : Nat) : Int := match s[i]? with | some b => b.toNat | none => 0
def Ct (s : ByteArray) (a n : Nat) : Nat → Int → Int → Nat → Nat × Bool
 | 0, _, _, k => (k, true)
 | f + 1, lo, hi, k => if s.size ≤ a + k ∨ Al s (a + k) < lo ∨ hi < Al s (a + k) then (k, false) else Ct s a n f 128 191 (k + 1)
def BJ (s : ByteArray) (a : Nat) : Nat × Bool :=
 let b := Al s a
 let n := DQ b
 if n = 0 then (0, false) else if n = 1 then (1, true) else Ct s a n.toNat (n.toNat - 1) (I4 b) (Gy b) 1
theorem Do {s : ByteArray} {i : Nat} (h : i < s.size) : s[i]? = some s[i] ∧ Al s i = s[i].toNat := by
 have := RO h
 simp [Al, this]
theorem Jg (b : Int) : 0 ≤ DQ b ∧ DQ b ≤ 4 := by unfold DQ; repeat' split <;> omega
theorem c252 (s : ByteArray) (a : Nat) (ha : a < s.size) (hs : s.size ≤ 1099511627776) : PC 252 [.str s, .int .i64 a] (.tup [.junk, .int .i64 (BJ s a).1, .bool (BJ s a).2]) := by
 intro h n
 refine gq Tryz.func252 rfl fun ho => ?_
 obtain ⟨e1, e2⟩ := Do ha
 simp [go_sem, e1, ← e2]
 refine (c287 _).use ?_
 obtain ⟨hz0, hz1⟩ := Jg (Al s a)
 simp [go_sem, hz0]
 by_cases h0 : DQ (Al s a) = 0
 · simp [h0]; exact Db 3 ho AB (by simp [Fz, AY, BJ, h0]) rfl
 by_cases h1 : DQ (Al s a) = 1
 · simp [h1]; exact Db 3 ho AB (by simp [Fz, AY, BJ, h1]) rfl
 have hD : BJ s a = Ct s a (DQ (Al s a)).toNat ((DQ (Al s a)).toNat - 1) (I4 (Al s a)) (Gy (Al s a)) 1 := by simp [BJ, h0, h1]
 obtain ⟨z, hz⟩ : ∃ z : Nat, DQ (Al s a) = z := ⟨(DQ (Al s a)).toNat, by omega⟩
 rw [hz] at hD h0 h1 hz0 hz1 ⊢
 simp only [h0, h1, if_false]
 rw [hD]
 simp only [Xj]
 generalize IntKind.i64.wrap _ = p0
 refine Aq 3 (α := Int × Int × Int × Nat) (fun q => [(0, .str s), (1, .int .i64 a), (4, .int .i64 q.1), (5, .int .i64 q.2.2.2), (8, .int .u8 q.2.1), (9, .int .u8 q.2.2.1), (10, .int .i64 z)]) (fun _ => h)
  (fun q m => n ≤ m ∧ 1 ≤ q.2.2.2 ∧ q.2.2.2 ≤ z ∧ Ct s a z (z - 1) (I4 (Al s a)) (Gy (Al s a)) 1 = Ct s a z (z - q.2.2.2) q.2.1 q.2.2.1 q.2.2.2) (fun q => z - q.2.2.2) (p0, I4 (Al s a), Gy (Al s a), 1) ?_ ?_ AB ?_
 · exact ⟨JO _, by simp, by simp; omega, rfl⟩
 · simp [Am]
 rintro ⟨p, lo, hi, k⟩ m ⟨hm, hk1, hkz, hJ⟩
 by_cases hlt : k < z
 · obtain ⟨f, hf⟩ : ∃ f, z - k = f + 1 := ⟨z - k - 1, by omega⟩
   have hk : z - (k + 1) = f := by omega
   have w1 : IntKind.i64.wrap ((a : Int) + k) = ((a + k : Nat) : Int) := by rw [DJ] <;> omega
   have w2 := wS k (by omega)
   dsimp only at hJ hk1 hkz
   rw [hf, Ct] at hJ
   by_cases hin : s.size ≤ a + k
   · simp [go_sem, hlt, w1, hin, -Int.natCast_add]
     exact Db 3 ho AB (by simp [Fz, AY, hJ, hin]) rfl
   obtain ⟨g1, g2⟩ := Do (Zt hin)
   by_cases hlo : Al s (a + k) < lo
   · simp [go_sem, hlt, w1, hin, g1, ← g2, hlo, -Int.natCast_add]
     exact Db 3 ho AB (by simp [Fz, AY, hJ, hlo]) rfl
   by_cases hhi : hi < Al s (a + k)
   · simp [go_sem, hlt, w1, hin, g1, ← g2, hlo, hhi, -Int.natCast_add]
     exact Db 3 ho AB (by simp [Fz, AY, hJ, hhi]) rfl
   simp [go_sem, hlt, w1, w2, hin, g1, ← g2, hlo, hhi, -Int.natCast_add]
   rw [if_neg (by simp only [not_or]; exact ⟨hin, hlo, hhi⟩)] at hJ
   refine ⟨_, 128, 191, k + 1, by omega, ⟨hm, by omega, by omega, by rw [hk]; exact hJ⟩, Jo, Jo, Jo, Jo⟩
 · have : k = z := by dsimp only at hkz; omega
   subst this
   simp [go_sem]
   rw [Xv, Ct] at hJ
   exact Db 3 ho AB (by simp [Fz, AY, hJ]) rfl
theorem Jf (s : ByteArray) (a n : Nat) : ∀ (f : Nat) (lo hi : Int) (k : Nat), k ≤ (Ct s a n f lo hi k).1 ∧ (Ct s a n f lo hi k).1 ≤ k + f
 | 0, _, _, k => by simp [Ct]
 | f + 1, lo, hi, k => by
  rw [Ct]
  split
  · simp
  · have := Jf s a n f 128 191 (k + 1)
    omega
theorem I3 {s : ByteArray} {a : Nat} (h : (BJ s a).2 = true) : 1 ≤ (BJ s a).1 := by
 simp only [BJ] at h ⊢
 split
 · rename_i e; simp [e] at h
 · split
   · exact JO _
   · exact (Jf _ _ _ _ _ _ _).1
theorem Nv (s : ByteArray) (a : Nat) : (BJ s a).1 ≤ 4 := by
 simp only [BJ]
 split
 · simp
 · split
   · simp
   · have := (Jf s a (DQ (Al s a)).toNat ((DQ (Al s a)).toNat - 1) (I4 (Al s a)) (Gy (Al s a)) 1).2
     have := Jg (Al s a)
     omega
def EH (s : ByteArray) (a : Nat) : Int :=
 if _ : a < s.size then if _ : (BJ s a).2 = true then EH s (a + (BJ s a).1) else a else -1
termination_by s.size - a
decreasing_by
 rename_i h2
 have := I3 h2; omega
def Bd (s : ByteArray) : Bool := decide (EH s 0 < 0)
theorem c182 (s : ByteArray) (hs : s.size ≤ 1099511627776) : PC 182 [.str s] (.int .i64 (EH s 0)) := by
 intro h n
 refine gq Tryz.func182 rfl fun ho => ?_
 simp [go_sem]
 refine Aq 1 (α := Nat) (fun k => [(0, .str s), (3, .int .i64 k)]) (fun _ => h) (fun k m => n ≤ m ∧ k ≤ s.size + 4 ∧ EH s 0 = EH s k) (fun k => s.size + 4 - k) 0 ?_ ?_ AB ?_
 · exact ⟨JO _, by omega, rfl⟩
 · simp [Am]
 rintro k m ⟨hm, hk, hJ⟩
 by_cases hlt : k < s.size
 · simp [go_sem, hlt]
   refine (c252 s k hlt hs).use ?_
   have hp := @I3 s k
   have hl := Nv s k
   have w : IntKind.i64.wrap ((k : Int) + ((BJ s k).1 : Int)) = ((k + (BJ s k).1 : Nat) : Int) := by rw [DJ] <;> omega
   rw [EH.eq_def s k] at hJ
   by_cases hd : (BJ s k).2 = true
   · simp [hlt, hd] at hJ
     simp [go_sem, hd, w, -Int.natCast_add]
     have := hp hd
     exact ⟨k + (BJ s k).1, by omega, ⟨hm, by omega, hJ⟩, Jo⟩
   · simp [hlt, hd] at hJ
     simp [go_sem, hd]
     exact A3 ho rfl (by rw [hJ])
 · simp [go_sem, hlt]
   rw [EH.eq_def s k] at hJ
   simp [hlt] at hJ
   exact A3 ho rfl (by rw [hJ])
theorem O8 (s : ByteArray) (hs : s.size ≤ 1099511627776) : PC 116 [.str s] (.bool (Bd s)) := by
 intro h n
 refine gq Tryz.func116 rfl fun ho => ?_
 simp [go_sem]
 refine (c182 s hs).use ?_
 simp [go_sem]
 exact A3 ho rfl (by simp [Bd])
def Dx (b : Int) : Bool := !(IntKind.u8.wrap (BitVec.ofInt 8 b &&& BitVec.ofInt 8 192).toNat == 128)
def BH (s : ByteArray) : Nat → Nat
 | 0 => 0
 | k + 1 => BH s k + if Dx (Al s k) then 1 else 0
theorem Gx (s : ByteArray) : ∀ k, BH s k ≤ k
 | 0 => JO _
 | k + 1 => by have := Gx s k; simp only [BH]; split <;> omega
theorem c177 (s : ByteArray) (hs : s.size ≤ 1099511627776) : PC 177 [.str s] (.tup [.int .i64 (if Bd s then BH s s.size else 0), .int .i64 (if Bd s then 0 else 12)]) := by
 intro h n
 refine gq Tryz.func177 rfl fun ho => ?_
 simp [go_sem]
 refine (O8 s hs).use ?_
 by_cases hv : Bd s = true
 · simp [go_sem, hv]
   refine Aq 1 (α := Nat) (fun k => [(0, .str s), (2, .int .i64 (BH s k)), (9, .int .i64 s.size), (10, .int .i64 k)]) (fun _ => h) (fun k m => n ≤ m ∧ k ≤ s.size) (fun k => s.size - k) 0 ?_ ?_ AB ?_
   · exact ⟨JO _, by omega⟩
   · simp [Am, BH]
   rintro k m ⟨hm, hk⟩
   by_cases hlt : k < s.size
   · obtain ⟨g1, g2⟩ := Do hlt
     have hl := Gx s k
     have w1 := wS k (by omega)
     have w2 : IntKind.i64.wrap ((BH s k : Int) + 1) = ((BH s k + 1 : Nat) : Int) := by rw [DJ] <;> omega
     simp [go_sem, hlt, ← g2, w1, w2, -Int.natCast_add]
     split
     · rename_i hh
       have hc : Dx (Al s k) = false := by simp only [Dx, Bool.not_eq_false', beq_iff_eq]; exact hh
       exact ⟨k + 1, by omega, ⟨hm, by omega⟩, by simp [BH, hc], Jo⟩
     · rename_i hh
       have hc : Dx (Al s k) = true := by simp only [Dx, YC, beq_eq_false_iff_ne]; exact hh
       exact ⟨k + 1, by omega, ⟨hm, by omega⟩, by simp [BH, hc], Jo⟩
   · have : k = s.size := by omega
     subst this
     simp [go_sem]
     exact A3 ho rfl (by simp)
 · simp [go_sem, hv]
   exact A3 ho rfl (by simp)
def AQ (z : Nat) (o : Option Nat) (es : List SV) : SV := match o with | none => .imm 0 [] true | some j => .sl j 0 z es.length false
def AS (o : Option Nat) (es : List SV) (h : Hp) : Hp := match o with | none => h | some j => hset h j (some (.cells (es.flatMap SV.cells)))
structure BQ (n m z : Nat) (o : Option Nat) (es : List SV) : Prop where
 none : o = Option.none → es = []
 lt : ∀ j, o = some j → n ≤ j ∧ j < m
 size : ∀ e ∈ es, e.storable = true ∧ e.cells.length = z
theorem BQ.nil (n m z : Nat) : BQ n m z Option.none [] := ⟨fun _ => rfl, by simp, by simp⟩
theorem BK {z : Nat} : ∀ {es : List SV}, (∀ e ∈ es, e.storable = true ∧ e.cells.length = z) → (es.flatMap SV.cells).length = es.length * z
 | [], _ => by simp
 | e :: es, h => by
  have := BK (es := es) (z := z) fun x hx => h x (by simp [hx])
  simp [this, (h e (by simp)).2, YY, ZU]
theorem BQ.push {n m m' z : Nat} {o : Option Nat} {es : List SV} {e : SV} {j : Nat} (H : BQ n m z o es) (hs : e.storable = true) (he : e.cells.length = z) (h1 : n ≤ j) (h2 : j < m') : BQ n m' z (some j) (es ++ [e]) :=
 ⟨by simp, by rintro k e; cases e; exact ⟨h1, h2⟩, by intro x hx; simp at hx; rcases hx with hx | rfl; exact H.size x hx; exact ⟨hs, he⟩⟩
theorem BQ.mono {n m m' z : Nat} {o : Option Nat} {es : List SV} (H : BQ n m z o es) (hm : m ≤ m') : BQ n m' z o es := ⟨H.none, fun j e => ⟨(H.lt j e).1, Zw (H.lt j e).2 hm⟩, H.size⟩
theorem FM.none {h : Hp} {n j : Nat} (ho : FM h n) (hj : n ≤ j) : h j = none := by
 cases e : h j with
 | none => rfl
 | some x => have := (ho j x e).1; omega
theorem AS.old {h : Hp} {n m z : Nat} {o : Option Nat} {es : List SV} (ho : FM h n) (H : BQ n m z o es) : ∀ j x, h j = some x → AS o es h j = some x := by
 cases o with
 | none => exact fun _ _ e => e
 | some k => exact AN ho (H.lt k rfl).1 AB
theorem AC (h : Hp) (j : Nat) (x : Option BY) : hset h j x j = x := by simp [hset]
theorem AD (h : Hp) {j k : Nat} (x : Option BY) (e : k ≠ j) : hset h j x k = h k := by simp [hset, e]
theorem AQ.fz {h : Hp} {n m z k : Nat} {o : Option Nat} {es : List SV} (ho : FM h n) (H : BQ n m z o es) {h' : Hp} (hh : ∀ j y, AS o es h j = some y → h' j = some y) : Fz h' h (k + 1) (AQ z o es) (.imm z es false) := by
 cases o with
 | none => rw [H.none rfl]; exact .inr ⟨by simp, .inl rfl, trivial, by simp⟩
 | some j =>
  have hj := hh j (.cells (es.flatMap SV.cells)) (by simp [AS, hset])
  refine .inr ⟨ho.none (H.lt j rfl).1, by simp, rfl, rfl, _, _, hj, by simp [Bm, BK H.size]; rfl, H.size, ?_⟩
  have : ∀ l : List SV, AY (Fz h' h k) l l := by
   intro l; induction l with
   | nil => trivial
   | cons a l ih => exact ⟨Jo, ih⟩
  simp only [← BK H.size, KE]
  exact this _
theorem TX {h h' : Hp} {n n' m z : Nat} {o : Option Nat} {es : List SV} {v : SV} (ho : FM h n) (H : BQ n m z o es) (hh : ∀ j y, AS o es h j = some y → h' j = some y) (hv : v = AQ z o es) (hc : ∀ e ∈ es, closed n e = true) : CE n h' n' v (Is (.imm z es false) h n) := by
 subst hv
 refine Db 1 ho (fun j x e => hh j x (AS.old ho H j x e)) (AQ.fz ho H hh) ?_
 rw [closed]
 exact Df.2 hc
section
variable {P : Program}
theorem app1 {h0 : Hp} {n m z : Nat} {es : List SV} {e : SV} {o : Option Nat} {t t2 el : TypeId} (ht : BC P t = some el) (ht2 : (BC P t2).isSome = true) (hz : Bk P el = z) (hz0 : z ≠ 0) (hst : (BP P el).storable = true) (hzl : (BP P el).cells.length = z)
 (hroom : es.length + 1 ≤ 1073741824) (hb : Bj P el ≤ 65536) (H : BQ n m z o es) (he : e.cells.length = z) (hrow : G9 el = none := by rfl) :
 AT P (hset (AS o es h0) m (some (.cells e.cells))) (m + 1) .append [t, t2] [AQ z o es, .sl m 0 z 1 true] =
  some { val := .sl (m + 1) 0 z (es.length + 1) false, upd := o.map fun j => (j, none), new := some (.cells (es.flatMap SV.cells ++ e.cells)) } := by
 have hfl : flat (hset (AS o es h0) m (some (.cells e.cells))) (.sl m 0 z 1 true) = some e.cells := by
  simp [flat, hset, Bm, he]
  exact Y8 (by omega)
 have hr : DM (es.length + 1) (Bj P el) = true := by simp [DM]; exact ⟨by omega, hb⟩
 simp only [AT, ht2, if_true, C5, ht, Ea, hfl, hz, hzl, hst]
 cases o with
 | none =>
  have := H.none rfl
  subst this
  simp [AQ, ID, hz0, hrow]
  have hr' : DM 1 (Bj P el) = true := by simpa using hr
  exact hr'
 | some j =>
  have hne : j ≠ m := by have := (H.lt j rfl).2; omega
  have hf : flat (hset (AS (some j) es h0) m (some (.cells e.cells))) (.sl j 0 z es.length false) = some (es.flatMap SV.cells) := by
   simp only [flat, AD _ _ hne, AS, AC, Bm, YV, BK H.size, JO, if_true, Zs]
   rw [← BK H.size, KE]
  simp [AQ, ID, hz0, hf, hr, Iu hrow]
theorem MB {h0 : Hp} {n m : Nat} {es : List SV} {e : SV} {o : Option Nat} {z : Nat} (ho : FM h0 n) (hn : n ≤ m) (H : BQ n m z o es) :
 ∀ j y, AS (some (m + 1)) (es ++ [e]) h0 j = some y →
  (Cu.app (hset (AS o es h0) m (some (.cells e.cells))) (m + 1) { val := .sl (m + 1) 0 z (es.length + 1) false, upd := o.map fun j => (j, none), new := some (.cells (es.flatMap SV.cells ++ e.cells)) }) j = some y := by
 intro j y hj
 simp only [AS] at hj
 by_cases e1 : j = m + 1
 · subst e1
   rw [AC] at hj
   simp only [Cu.app, AC]
   rw [← hj]; simp
 · rw [AD _ _ e1] at hj
   have hlt := (ho j y hj).1
   have hm : j ≠ m := by omega
   cases o with
   | none => simp [Cu.app, AD _ _ e1, AD _ _ hm, AS, hj]
   | some k =>
    have hk : j ≠ k := by have := (H.lt k rfl).1; omega
    simp [Cu.app, AD _ _ e1, AD _ _ hm, AD _ _ hk, AS, hj]
end
abbrev AA : Int → SV := .int .i64
structure Eu where
 key : Int
 value : Int
 deriving DecidableEq
structure BS where
 rev : Int
 move : Int
 deriving DecidableEq
structure Az where
 rev : Int
 key : Int
 before : Int
 had : Bool
 deriving DecidableEq
structure AF where
 props : List Eu
 ins : Int
 move : Int
 dels : List BS
 layers : List Az
 deriving DecidableEq
structure Av where
 id : Int
 author : ByteArray
 time : Int
 deriving DecidableEq
structure A7 where
 id : Int
 kind : Int
 name : ByteArray
 base : Int
 next : Int
 props : List Eu
 deriving DecidableEq
structure CZ where
 format : Int
 start : Int
 template : ByteArray
 restart : Int
 deriving DecidableEq
structure FL where
 id : Int
 levels : List CZ
 deriving DecidableEq
structure Aw where
 id : Int
 parent : Int
 author : ByteArray
 time : Int
 text : ByteArray
 done : Bool
 deriving DecidableEq
structure FX where
 name : ByteArray
 value : ByteArray
 deriving DecidableEq
structure AI where
 styles : List A7
 lists : List FL
 comments : List Aw
 vars : List FX
 deriving DecidableEq
mutual
inductive AE where
 | mk (kind code id : Int) (text : ByteArray) (head : AF) (flow : List AE) (rows : List AR)
inductive AR where
 | mk (head : AF) (cells : List AL)
inductive AL where
 | mk (id : Int) (head : AF) (flow : List AE)
end
structure AH where
 flow : List AE
 «end» : AF
 revs : List Av
 settings : AI
def Eu.enc (p : Eu) : SV := .agg [AA p.key, AA p.value]
def BS.enc (p : BS) : SV := .agg [AA p.rev, AA p.move]
def Az.enc (p : Az) : SV := .agg [AA p.rev, AA p.key, AA p.before, .bool p.had]
abbrev Ag (l : List Eu) : SV := .imm 2 (l.map Eu.enc) false
abbrev Aa (l : List BS) : SV := .imm 2 (l.map BS.enc) false
abbrev AO (l : List Az) : SV := .imm 4 (l.map Az.enc) false
def AF.flat (h : AF) : List SV := [Ag h.props, AA h.ins, AA h.move, Aa h.dels, AO h.layers]
def AF.enc (h : AF) : SV := .agg h.flat
def Av.enc (r : Av) : SV := .agg [AA r.id, .str r.author, AA r.time]
abbrev Aj (l : List Av) : SV := .imm 3 (l.map Av.enc) false
def A7.enc (s : A7) : SV := .agg [AA s.id, AA s.kind, .str s.name, AA s.base, AA s.next, Ag s.props]
def CZ.enc (l : CZ) : SV := .agg [AA l.format, AA l.start, .str l.template, AA l.restart]
abbrev C6 (l : List CZ) : SV := .imm 4 (l.map CZ.enc) false
def FL.enc (l : FL) : SV := .agg [AA l.id, C6 l.levels]
def Aw.enc (c : Aw) : SV := .agg [AA c.id, AA c.parent, .str c.author, AA c.time, .str c.text, .bool c.done]
def FX.enc (v : FX) : SV := .agg [.str v.name, .str v.value]
abbrev Ac (l : List A7) : SV := .imm 6 (l.map A7.enc) false
abbrev DS (l : List FL) : SV := .imm 2 (l.map FL.enc) false
abbrev BZ (l : List Aw) : SV := .imm 6 (l.map Aw.enc) false
abbrev Ey (l : List FX) : SV := .imm 2 (l.map FX.enc) false
def AI.flat (s : AI) : List SV := [Ac s.styles, DS s.lists, BZ s.comments, Ey s.vars]
def AI.enc (s : AI) : SV := .agg s.flat
mutual
def AE.enc : AE → SV
 | .mk k c i t h f r => .agg ([AA k, AA c, AA i, .str t] ++ h.flat ++ [.imm 11 (AE.encL f) false, .imm 6 (AR.encL r) false])
def AE.encL : List AE → List SV
 | [] => []
 | x :: l => x.enc :: AE.encL l
def AR.enc : AR → SV
 | .mk h c => .agg (h.flat ++ [.imm 7 (AL.encL c) false])
def AR.encL : List AR → List SV
 | [] => []
 | x :: l => x.enc :: AR.encL l
def AL.enc : AL → SV
 | .mk i h f => .agg ([AA i] ++ h.flat ++ [.imm 11 (AE.encL f) false])
def AL.encL : List AL → List SV
 | [] => []
 | x :: l => x.enc :: AL.encL l
end
theorem AE.encL_eq (l : List AE) : AE.encL l = l.map AE.enc := by induction l with | nil => rfl | cons a l ih => rw [AE.encL, ih]; rfl
theorem AR.encL_eq (l : List AR) : AR.encL l = l.map AR.enc := by induction l with | nil => rfl | cons a l ih => rw [AR.encL, ih]; rfl
theorem AL.encL_eq (l : List AL) : AL.encL l = l.map AL.enc := by induction l with | nil => rfl | cons a l ih => rw [AL.encL, ih]; rfl
abbrev AG (l : List AE) : SV := .imm 11 (l.map AE.enc) false
abbrev Ay (l : List AR) : SV := .imm 6 (l.map AR.enc) false
abbrev BT (l : List AL) : SV := .imm 7 (l.map AL.enc) false
def AE.kind : AE → Int | .mk k _ _ _ _ _ _ => k
def AE.code : AE → Int | .mk _ c _ _ _ _ _ => c
def AE.id : AE → Int | .mk _ _ i _ _ _ _ => i
def AE.text : AE → ByteArray | .mk _ _ _ t _ _ _ => t
def AE.head : AE → AF | .mk _ _ _ _ h _ _ => h
def AE.flow : AE → List AE | .mk _ _ _ _ _ f _ => f
def AE.rows : AE → List AR | .mk _ _ _ _ _ _ r => r
def AR.head : AR → AF | .mk h _ => h
def AR.cells : AR → List AL | .mk _ c => c
def AL.id : AL → Int | .mk i _ _ => i
def AL.head : AL → AF | .mk _ h _ => h
def AL.flow : AL → List AE | .mk _ _ f => f
theorem AE.enc_eq (x : AE) : x.enc = .agg [AA x.kind, AA x.code, AA x.id, .str x.text, Ag x.head.props, AA x.head.ins, AA x.head.move, Aa x.head.dels, AO x.head.layers, AG x.flow, Ay x.rows] := by
 cases x; simp [AE.enc, AF.flat, AE.encL_eq, AR.encL_eq]; exact ⟨rfl, rfl, rfl, rfl, rfl, rfl, rfl, rfl, rfl, rfl, rfl⟩
theorem AR.enc_eq (x : AR) : x.enc = .agg [Ag x.head.props, AA x.head.ins, AA x.head.move, Aa x.head.dels, AO x.head.layers, BT x.cells] := by
 cases x; simp [AR.enc, AF.flat, AL.encL_eq]; exact ⟨rfl, rfl, rfl, rfl, rfl, rfl⟩
theorem AL.enc_eq (x : AL) : x.enc = .agg [AA x.id, Ag x.head.props, AA x.head.ins, AA x.head.move, Aa x.head.dels, AO x.head.layers, AG x.flow] := by
 cases x; simp [AL.enc, AF.flat, AE.encL_eq]; exact ⟨rfl, rfl, rfl, rfl, rfl, rfl, rfl⟩
def Bc (s : ByteArray) : Nat → List Int
 | 0 => []
 | k + 1 => if Dx (Al s k) then Bc s k ++ [(k : Int)] else Bc s k
theorem DP (s : ByteArray) : ∀ k, (Bc s k).length = BH s k
 | 0 => rfl
 | k + 1 => by simp only [Bc, BH]; split <;> simp [DP s k]
theorem c313 (s : ByteArray) (hs : s.size ≤ 1048576) : PC 313 [.str s] (.imm 1 ((Bc s s.size ++ [(s.size : Int)]).map AA) false) := by
 intro h n
 refine gq Tryz.func313 rfl fun ho => ?_
 simp [go_sem]
 refine Aq 1 (α := Nat × Option Nat) (fun q => [(0, .str s), (3, AQ 1 q.2 ((Bc s q.1).map AA)), (6, .int .i64 s.size), (7, .int .i64 q.1)]) (fun q => AS q.2 ((Bc s q.1).map AA) h)
  (fun q m => n ≤ m ∧ q.1 ≤ s.size ∧ BQ n m 1 q.2 ((Bc s q.1).map AA)) (fun q => s.size - q.1) (0, none) ?_ ?_ AB ?_
 · exact ⟨JO _, by omega, BQ.nil _ _ _⟩
 · simp [Am, Bc, AQ]
 rintro ⟨k, o⟩ m ⟨hm, hk, hA⟩
 dsimp only at hk hA
 have hlen := DP s k
 have hle := Gx s k
 have w1 := wS k (by omega)
 by_cases hlt : k < s.size
 · obtain ⟨g1, g2⟩ := Do hlt
   have hap := app1 (P := Tryz.prog) (h0 := h) (e := AA k) (t := 61) (t2 := 61) (el := 3) (by simp [go_sem]) (by simp [go_sem]) (by simp [go_sem]) (by simp) (by simp [go_sem]) (by simp [go_sem]) (by simp; omega) (by simp [go_sem]) hA rfl
   simp only [SV.cells] at hap
   simp [go_sem, hlt, ← g2, w1, hap, -Int.natCast_add]
   split
   · rename_i hh
     have hc : Dx (Al s k) = false := by simp only [Dx, Bool.not_eq_false', beq_iff_eq]; exact hh
     have hb : Bc s (k + 1) = Bc s k := by simp [Bc, hc]
     exact ⟨k + 1, by omega, o, ⟨⟨hm, by omega, by rw [hb]; exact hA⟩, by rw [hb]; exact ⟨Jo, Jo⟩, by rw [hb]; exact AB⟩⟩
   · rename_i hh
     have hc : Dx (Al s k) = true := by simp only [Dx, YC, beq_eq_false_iff_ne]; exact hh
     have hb : Bc s (k + 1) = Bc s k ++ [(k : Int)] := by simp [Bc, hc]
     refine ⟨k + 1, by omega, some (m + 1), ⟨⟨by omega, by omega, ?_⟩, ⟨?_, Jo⟩, ?_⟩⟩
     · rw [hb, K1]; exact hA.push rfl rfl (by omega) (by omega)
     · rw [hb]; simp [AQ]
     · rw [hb, K1]; exact MB ho hm hA
 · have : k = s.size := by omega
   subst this
   have hap := app1 (P := Tryz.prog) (h0 := h) (e := AA s.size) (t := 61) (t2 := 61) (el := 3) (by simp [go_sem]) (by simp [go_sem]) (by simp [go_sem]) (by simp) (by simp [go_sem]) (by simp [go_sem]) (by simp; omega) (by simp [go_sem]) hA rfl
   simp only [SV.cells] at hap
   simp [go_sem, hap]
   refine TX ho (hA.push (e := AA s.size) rfl rfl (Nat.le_succ_of_le hm) (Yk (m + 1))) (MB ho hm hA) (by simp [AQ]) ?_
   intro e he; simp at he; rcases he with ⟨_, _, rfl⟩ | rfl <;> rfl
def CF (s : ByteArray) (u : Int) : Int × Int :=
 if Bd s = false then (0, 12) else if u < 0 ∨ BH s s.size + 1 ≤ u then (0, 2) else ((Bc s s.size ++ [(s.size : Int)]).getD u.toNat 0, 0)
theorem c286 (s : ByteArray) (u : Int) (hs : s.size ≤ 1048576) : PC 286 [.str s, .int .i64 u] (.tup [.int .i64 (CF s u).1, .int .i64 (CF s u).2]) := by
 intro h n
 refine gq Tryz.func286 rfl fun ho => ?_
 simp [go_sem]
 refine (O8 s (by omega)).use ?_
 by_cases hv : Bd s = true
 · simp [go_sem, hv]
   refine (c313 s hs).use ?_
   by_cases h1 : u < 0
   · simp [go_sem, h1]
     exact A3 ho rfl (by simp [CF, hv, h1])
   · by_cases h2 : BH s s.size + 1 ≤ u
     · simp [go_sem, h1, h2, DP]
       exact A3 ho rfl (by simp [CF, hv, h1, h2])
     · have hl : u.toNat < (Bc s s.size ++ [(s.size : Int)]).length := by simp [DP]; omega
       have hg : (List.map AA (Bc s s.size) ++ [AA s.size])[u.toNat]? = some (AA ((Bc s s.size ++ [(s.size : Int)]).getD u.toNat 0)) := by
        have : List.map AA (Bc s s.size) ++ [AA s.size] = (Bc s s.size ++ [(s.size : Int)]).map AA := by simp
        rw [this, Yh, Y1 hl, Xf, Y1 hl]; rfl
       simp [go_sem, h1, h2, DP, hg, Int.not_lt.1 h1]
       exact A3 ho rfl (by simp [CF, hv, h1, h2])
 · simp [go_sem, hv]
   exact A3 ho rfl (by simp [CF, hv])
end Go.Proofs.YtgakninlhfkkmaaGreat.Sh
