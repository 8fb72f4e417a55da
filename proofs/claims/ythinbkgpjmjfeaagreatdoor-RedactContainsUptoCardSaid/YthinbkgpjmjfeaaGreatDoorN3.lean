/- A part of the proof (part 3 of 13). -/
import Derived.Test.YthinbkgpjmjfeaaGreatDoorN2
import Derived.Test.YthinbkgpjmjfeaaGreatDoorProg
import Derived.KernelRfl
import Derived.Tactics
import Derived.IntWalk
namespace Go.Proofs.YthinbkgpjmjfeaaGreatDoor.Sh
def evF (f : Nat → SV) : Operand → SV
  | .tmp t => f t
  | .const v => ofValue v
  | .global _ => .junk
  | .func g => .fn (.func g) [] []
theorem evS_eq (sa : SA) : evS sa = evF (look sa) := by funext x; cases x <;> rfl
def guardF (ops : Array Oper) (f : Nat → SV) (o : Oper) : Option Bool :=
  match o.guard with
  | none => some true
  | some (j, want) =>
    match (ops[j]?).bind (·.dst) with
    | some d => match f d with | .bool b => some (b == want) | .tup [] => some false | _ => none
    | none => none
theorem guardS_eq (ops : Array Oper) (sa : SA) (o : Oper) : guardS ops sa o = guardF ops (look sa) o := rfl
structure FRf (E : Env) (N : Nat) (f : Nat → SV) (c : Cx) (a : Act) : Prop where
  size : a.tmps.size = N
  defers : Marks E c a.defers
  val : ∀ t, V c (f t) (a.tmps.getD t undef)
structure Rec where
  dst : Option Tmp
  val : SV
  foot : List Nat := []
  wr : List (Nat × Option SObj) := []
  new : List (Nat × Option SObj) := []
def Rec.tw (r : Rec) : List (Nat × SV) := r.dst.toList.map fun d => (d, r.val)
def Rec.hw (r : Rec) : List (Nat × Option SObj) := r.wr ++ r.new
def StepOk (E : Env) (P : Program) (N : Nat) (o : Oper) (f : Nat → SV) (h : Hp) (n : Nat) (r : Rec) : Prop :=
  ∀ (f' : Nat → SV) (h' : Hp) (c : Cx) (a : Act) (Kr : Act → World → Prop) (Qr : Exit → Act → World → Prop), (∀ x ∈ o.op.operands, evF f' x = evF f x) → (∀ j ∈ r.foot, h' j = h j) → E.inv c → Rel h' c → Fr n c →
    (∀ j ∈ keysW r.new, c.ρ j = none) → FRf E N f' c a →
    (∀ c' u, V c' r.val u → Rel (appW h' r.hw) c' → Fr n c' → Ext c c' → (∀ j, j ∉ keysW r.new → c'.ρ j = c.ρ j) → Kr (a.put o.dst u) c'.w) → o.wpIn E.fc 0 P a c.w Kr Qr
def UCallE (E : Env) (P : Program) (g : FuncId) (aS : List SV) (foot : List Nat) (wr : List (Nat × Option SObj)) (v : SV) (h : Hp) : Prop :=
  ∀ (h' : Hp) (n : Nat), (∀ j ∈ foot, h' j = h j) → SCallE E P g aS h' n fun v' h2 n2 => v' = v ∧ h2 = appW h' wr ∧ n2 = n
def dirE (ops : Array Oper) (j i : Nat) : Bool := match ops[i]? with | some o => o.after.any fun e => Region.binds .any e && e.on == j | none => false
def staticB (ops : Array Oper) : Bool := (List.range ops.size).all fun i =>
  match ops[i]? with
  | some oi => (oi.after.all fun e => !Region.binds .any e || decide (e.on < i)) && (List.range i).all fun j => dirE ops j i || (match ops[j]? with | some oj => oj.apart ops oi | none => true)
  | none => true
theorem staticB_edge {ops : Array Oper} (h : staticB ops = true) {i : Nat} {oi : Oper} (hi : ops[i]? = some oi) : ∀ e ∈ oi.after, Region.binds .any e = true → e.on < i := by
  intro e he hb
  have hlt := (Array.getElem?_eq_some_iff.1 hi).1
  have := List.all_eq_true.1 h i (List.mem_range.2 hlt)
  simp only [hi, Bool.and_eq_true] at this
  have := Array.all_eq_true'.1 this.1 e he
  simpa [hb] using this
theorem staticB_apart {ops : Array Oper} (h : staticB ops = true) {i j : Nat} {oi oj : Oper} (hi : ops[i]? = some oi) (hj : ops[j]? = some oj) (hji : j < i) (hd : dirE ops j i = false) : oj.apart ops oi = true := by
  have hlt := (Array.getElem?_eq_some_iff.1 hi).1
  have := List.all_eq_true.1 h i (List.mem_range.2 hlt)
  simp only [hi, Bool.and_eq_true] at this
  have := List.all_eq_true.1 this.2 j (List.mem_range.2 hji)
  simpa [hd, hj] using this
structure Good2 (E : Env) (P : Program) (N : Nat) (ops : Array Oper) (f0 : Nat → SV) (h0 : Hp) (n0 n : Nat) (rs : List Rec) : Prop where
  len : rs.length = ops.size
  stat : staticB ops = true
  dok : ∀ (i : Nat) (o : Oper), ops[i]? = some o → ∀ d, o.dst = some d → d < N
  ok : ∀ (i : Nat) (o : Oper) (r : Rec), ops[i]? = some o → rs[i]? = some r → r.dst = o.dst ∧ (∀ j ∈ keysW r.wr, j ∈ r.foot) ∧
    ((guardF ops (sel (rs.map Rec.tw) (fun q => decide (q < i)) 0 f0) o = some false ∧ r.val = .tup [] ∧ r.foot = [] ∧ r.wr = [] ∧ r.new = []) ∨
     (guardF ops (sel (rs.map Rec.tw) (fun q => decide (q < i)) 0 f0) o = some true ∧
      StepOk E P N o (sel (rs.map Rec.tw) (fun q => decide (q < i)) 0 f0) (sel (rs.map Rec.hw) (fun q => decide (q < i)) 0 h0) n r))
  ind : ∀ (i j : Nat) (ri rj : Rec), j < i → rs[i]? = some ri → rs[j]? = some rj → dirE ops j i = false →
    (∀ k ∈ keysW rj.wr, k ∉ ri.foot) ∧ (∀ k ∈ keysW ri.wr, k ∉ rj.foot) ∧ (∀ k ∈ keysW rj.new, k ∉ ri.foot)
  newlo : ∀ (i : Nat) (r : Rec), rs[i]? = some r → ∀ k ∈ keysW r.new, n0 ≤ k ∧ k < n
  newne : ∀ (i j : Nat) (ri rj : Rec), i ≠ j → rs[i]? = some ri → rs[j]? = some rj → ∀ k ∈ keysW ri.new, k ∉ keysW rj.new
  newfoot : ∀ (i j : Nat) (ri rj : Rec), j ≤ i → rs[i]? = some ri → rs[j]? = some rj → ∀ k ∈ keysW ri.new, k ∉ rj.foot
section
variable {E : Env} {P : Program} {N : Nat} {ops : Array Oper} {f0 : Nat → SV} {h0 : Hp} {n0 n : Nat} {rs : List Rec}
theorem guardF_rel {f : Nat → SV} {c : Cx} {a : Act} {o : Oper} {b : Bool} (F : FRf E N f c a) (hg : guardF ops f o = some b) : Region.wanted o (yielded ops a.tmps) = b := by
  unfold guardF at hg
  unfold Region.wanted
  split at hg
  · rename_i e; rw [e]; simpa using hg
  · rename_i j want e
    rw [e]
    split at hg <;> try cases hg
    rename_i d hd
    split at hg <;> try cases hg
    · rename_i b' hb
      have hv := F.val d
      rw [hb] at hv
      have := vbool hv
      simp only [yielded, hd, Option.bind_some]
      have hget : a.tmps[d]? = some (.bool b') := by
        rcases Nat.lt_or_ge d a.tmps.size with hl | hl
        · rw [Array.getD_eq_getD_getElem?, Array.getElem?_eq_getElem hl] at this
          rw [Array.getElem?_eq_getElem hl]; simpa using this
        · rw [Array.getD_eq_getD_getElem?, Array.getElem?_eq_none hl] at this
          cases this
      rw [hget]
      simp
    · rename_i hb
      have hv := F.val d
      rw [hb, V] at hv
      obtain ⟨vs, hv, _⟩ := hv
      simp only [yielded, hd, Option.bind_some]
      rcases Nat.lt_or_ge d a.tmps.size with hl | hl
      · rw [Array.getD_eq_getD_getElem?, Array.getElem?_eq_getElem hl] at hv
        rw [Array.getElem?_eq_getElem hl]
        simp only [Option.getD_some] at hv
        rw [hv]; rfl
      · rw [Array.getElem?_eq_none hl]; rfl
theorem tw_keys {r : Rec} {t : Nat} : t ∈ keysW r.tw ↔ r.dst = some t := by
  unfold Rec.tw keysW
  cases h : r.dst <;> simp [eq_comm]
theorem FRf.put {f : Nat → SV} {c : Cx} {a : Act} (h : FRf E N f c a) {r : Rec} (hd : ∀ d, r.dst = some d → d < N) {u : Value} (hv : V c r.val u) : FRf E N (appW f r.tw) c (a.put r.dst u) := by
  unfold Rec.tw
  cases e : r.dst with
  | none => exact h
  | some d =>
    refine ⟨by simpa [Act.put] using h.size, h.defers, fun t => ?_⟩
    simp only [Option.toList_some, List.map_cons, List.map_nil, appW, List.foldl_cons, List.foldl_nil, wr1, Act.put]
    by_cases et : t = d
    · subst et
      have := hd t e
      have hs := h.size
      simp [hs, this, hv]
    · simp only [et, if_false]
      have := h.val t
      simpa [Array.getElem?_setIfInBounds_ne (Ne.symm et)] using this
structure At (E : Env) (P : Program) (N : Nat) (ops : Array Oper) (f0 : Nat → SV) (h0 : Hp) (n0 n : Nat) (rs : List Rec) (c0 : Cx) (listed : Array Bool) (c : Cx) (a : Act) : Prop where
  size : listed.size = ops.size
  closed : ∀ (i : Nat) (o : Oper), ops[i]? = some o → listed.getD i false = true → ∀ e ∈ o.after, Region.binds .any e = true → listed.getD e.on false = true
  inv : E.inv c
  rel : Rel (sel (rs.map Rec.hw) (fun q => listed.getD q false) 0 h0) c
  fr : FRf E N (sel (rs.map Rec.tw) (fun q => listed.getD q false) 0 f0) c a
  free : Fr n c
  ext : Ext c0 c
  same : ∀ j, j < n0 → c.ρ j = c0.ρ j
  new : ∀ (i : Nat) (r : Rec), rs[i]? = some r → listed.getD i false = false → ∀ k ∈ keysW r.new, c.ρ k = none
theorem getD_lt {listed : Array Bool} {i : Nat} (h : i < listed.size) (b : Bool) : listed.getD i b = listed[i] := by simp [Array.getD, h]
theorem draw_step (G : Good2 E P N ops f0 h0 n0 n rs) {c0 c : Cx} {listed : Array Bool} {a : Act} (A : At E P N ops f0 h0 n0 n rs c0 listed c a) {i : Nat} (hi : i ∈ Region.ready .any ops listed)
    {Qr : Exit → Act → World → Prop} {Kr : Act → World → Prop} (hK : ∀ c' a', At E P N ops f0 h0 n0 n rs c0 (listed.setIfInBounds i true) c' a' → Kr a' c'.w) : wpOpIn E.fc 0 P ops Qr i Kr a c.w := by
  obtain ⟨hun, o, ho, hall⟩ := mem_ready.1 hi
  have hlt := (Array.getElem?_eq_some_iff.1 ho).1
  have hunF : listed.getD i false = false := by rw [getD_lt (by rw [A.size]; exact hlt)] at hun ⊢; exact hun
  obtain ⟨r, hr⟩ : ∃ r, rs[i]? = some r := ⟨rs[i]'(by rw [G.len]; exact hlt), by simp⟩
  obtain ⟨hdst, hwf, hok⟩ := G.ok i o r ho hr
  have lsel : ∀ {α : Type} (g : Rec → List (Nat × α)) (q : Nat) (w : List (Nat × α)), (rs.map g)[q]? = some w → ∃ rq, rs[q]? = some rq ∧ w = g rq := fun g q w hq => by
    simp only [List.getElem?_map, Option.map_eq_some_iff] at hq
    obtain ⟨rq, h1, rfl⟩ := hq; exact ⟨rq, h1, rfl⟩
  have oq : ∀ (q : Nat) (rq : Rec), rs[q]? = some rq → ∃ oq, ops[q]? = some oq := fun q rq hq => ⟨ops[q]'(by rw [← G.len]; exact (List.getElem?_eq_some_iff.1 hq).1), by simp⟩
  have e1 : ∀ q, listed.getD q false = false → dirE ops q i = false := fun q hq => by
    unfold dirE
    rw [ho]
    simp only
    rw [Array.any_eq_false']
    intro e he
    rw [Bool.and_eq_true, beq_iff_eq]
    rintro ⟨hb, rfl⟩
    rw [hall e he hb] at hq; cases hq
  have e2 : ∀ q, listed.getD q false = true → dirE ops i q = false := fun q hq => by
    unfold dirE
    cases hoq : ops[q]? with
    | none => rfl
    | some oq =>
      simp only
      rw [Array.any_eq_false']
      intro e he
      rw [Bool.and_eq_true, beq_iff_eq]
      rintro ⟨hb, rfl⟩
      have := A.closed q oq hoq hq e he hb
      rw [hunF] at this; cases this
  have agreeT : ∀ t, t ∈ o.looksAt ops → sel (rs.map Rec.tw) (fun q => listed.getD q false) 0 f0 t = sel (rs.map Rec.tw) (fun q => decide (q < i)) 0 f0 t := fun t ht => by
    refine sel_agree fun q w _ hw hne => ?_
    rw [Nat.sub_zero] at hw
    obtain ⟨rq, hrq, rfl⟩ := lsel _ q w hw
    obtain ⟨oq', hoq⟩ := oq q rq hrq
    have hdq := (G.ok q oq' rq hoq hrq).1
    rw [tw_keys, hdq]
    intro hdt
    rcases Nat.lt_trichotomy q i with hq | hq | hq
    · have hnl : listed.getD q false = false := by cases hx : listed.getD q false with | false => rfl | true => rw [hx] at hne; simp [hq] at hne
      exact (Oper.apart_spec (staticB_apart G.stat ho hoq hq (e1 q hnl))).1 t hdt ht
    · subst hq; rw [hunF] at hne; simp at hne
    · have hl : listed.getD q false = true := by cases hx : listed.getD q false with | true => rfl | false => rw [hx] at hne; simp [Nat.not_lt.2 (Nat.le_of_lt hq)] at hne
      exact (Oper.apart_spec (staticB_apart G.stat hoq ho hq (e2 q hl))).2.2 t hdt ht
  have agreeH : ∀ k ∈ r.foot, sel (rs.map Rec.hw) (fun q => listed.getD q false) 0 h0 k = sel (rs.map Rec.hw) (fun q => decide (q < i)) 0 h0 k := fun k hk => by
    refine sel_agree fun q w _ hw hne => ?_
    rw [Nat.sub_zero] at hw
    obtain ⟨rq, hrq, rfl⟩ := lsel _ q w hw
    simp only [Rec.hw, keysW, List.map_append, List.mem_append]
    rcases Nat.lt_trichotomy q i with hq | hq | hq
    · have hnl : listed.getD q false = false := by cases hx : listed.getD q false with | false => rfl | true => rw [hx] at hne; simp [hq] at hne
      have := G.ind i q r rq hq hr hrq (e1 q hnl)
      rintro (h1 | h1)
      · exact this.1 k h1 hk
      · exact this.2.2 k h1 hk
    · subst hq; rw [hunF] at hne; simp at hne
    · have hl : listed.getD q false = true := by cases hx : listed.getD q false with | true => rfl | false => rw [hx] at hne; simp [Nat.not_lt.2 (Nat.le_of_lt hq)] at hne
      have := G.ind q i rq r hq hrq hr (e2 q hl)
      rintro (h1 | h1)
      · exact this.2.1 k h1 hk
      · exact G.newfoot q i rq r (Nat.le_of_lt hq) hrq hr k h1 hk
  have hD : (fun q => (listed.setIfInBounds i true).getD q false) = fun q => listed.getD q false || q == i := by
    funext q
    by_cases hq : q = i
    · subst hq; simp [Array.getD_eq_getD_getElem?, A.size, hlt]
    · have : (q == i) = false := by simp; exact hq
      rw [this, Bool.or_false]
      simp [Array.getD_eq_getD_getElem?, Array.getElem?_setIfInBounds_ne (Ne.symm hq)]
  have insT : ∀ t, sel (rs.map Rec.tw) (fun q => listed.getD q false || q == i) 0 f0 t = appW (sel (rs.map Rec.tw) (fun q => listed.getD q false) 0 f0) r.tw t := by
    refine sel_insert hunF (Nat.zero_le _) (by simp [hr]) fun q w hq _ hw hl k hk hk2 => ?_
    rw [Nat.sub_zero] at hw
    obtain ⟨rq, hrq, rfl⟩ := lsel _ q w hw
    obtain ⟨oq', hoq⟩ := oq q rq hrq
    rw [tw_keys, hdst] at hk
    rw [tw_keys, (G.ok q oq' rq hoq hrq).1] at hk2
    exact (Oper.apart_spec (staticB_apart G.stat hoq ho hq (e2 q hl))).2.1 k hk hk2
  have insH : ∀ k, sel (rs.map Rec.hw) (fun q => listed.getD q false || q == i) 0 h0 k = appW (sel (rs.map Rec.hw) (fun q => listed.getD q false) 0 h0) r.hw k := by
    refine sel_insert hunF (Nat.zero_le _) (by simp [hr]) fun q w hq _ hw hl k hk hk2 => ?_
    rw [Nat.sub_zero] at hw
    obtain ⟨rq, hrq, rfl⟩ := lsel _ q w hw
    obtain ⟨oq', hoq⟩ := oq q rq hrq
    have hI := G.ind q i rq r hq hrq hr (e2 q hl)
    have hwq := (G.ok q oq' rq hoq hrq).2.1
    simp only [Rec.hw, keysW, List.map_append, List.mem_append] at hk hk2
    rcases hk with hk | hk <;> rcases hk2 with hk2 | hk2
    · exact hI.1 k hk (hwq k hk2)
    · exact G.newfoot q i rq r (Nat.le_of_lt hq) hrq hr k hk2 (hwf k hk)
    · exact hI.2.2 k hk (hwq k hk2)
    · exact G.newne i q r rq (by omega) hr hrq k hk hk2
  have behind : ∀ c' u, V c' r.val u → Rel (appW (sel (rs.map Rec.hw) (fun q => listed.getD q false) 0 h0) r.hw) c' → Fr n c' → Ext c c' → (∀ j, j ∉ keysW r.new → c'.ρ j = c.ρ j) → Kr (a.put o.dst u) c'.w := by
    intro c' u hv R' F' X' hρ
    refine hK c' _ ⟨by simp [A.size], fun j oj hoj hl e he hb => ?_, E.ext X' A.inv, ?_, ?_, F', A.ext.trans X', fun j hj => ?_, fun j rj hrj hl k hk => ?_⟩
    · by_cases hji : j = i
      · subst hji
        rw [ho] at hoj; cases hoj
        exact getD_set_true (hall e he hb)
      · rw [getD_set_ne false (Ne.symm hji)] at hl
        exact getD_set_true (A.closed j oj hoj hl e he hb)
    · rw [hD]
      have : sel (rs.map Rec.hw) (fun q => listed.getD q false || q == i) 0 h0 = appW (sel (rs.map Rec.hw) (fun q => listed.getD q false) 0 h0) r.hw := funext insH
      rw [this]; exact R'
    · rw [hD]
      have : sel (rs.map Rec.tw) (fun q => listed.getD q false || q == i) 0 f0 = appW (sel (rs.map Rec.tw) (fun q => listed.getD q false) 0 f0) r.tw := funext insT
      rw [this, ← hdst]
      have FE : FRf E N (sel (rs.map Rec.tw) (fun q => listed.getD q false) 0 f0) c' a := ⟨A.fr.size, A.fr.defers.mono X', fun t => V.mono X' (A.fr.val t)⟩
      exact FE.put (fun d hd => G.dok i o ho d (by rw [← hdst]; exact hd)) hv
    · rw [hρ j fun hj2 => by have := (G.newlo i r hr j hj2).1; omega]
      exact A.same j hj
    · by_cases hji : j = i
      · subst hji
        rw [show (listed.setIfInBounds j true).getD j false = true by simp [Array.getD_eq_getD_getElem?, A.size, hlt]] at hl
        cases hl
      · rw [getD_set_ne false (Ne.symm hji)] at hl
        rw [hρ k fun hk2 => G.newne j i rj r hji hrj hr k hk hk2]
        exact A.new j rj hrj hl k hk
  have guardEq : guardF ops (sel (rs.map Rec.tw) (fun q => listed.getD q false) 0 f0) o = guardF ops (sel (rs.map Rec.tw) (fun q => decide (q < i)) 0 f0) o := by
    unfold guardF
    cases hg : o.guard with
    | none => rfl
    | some p =>
      obtain ⟨j, want⟩ := p
      simp only
      cases hd : (ops[j]?).bind (·.dst) with
      | none => rfl
      | some d =>
        simp only
        rw [agreeT d (by simp [Oper.looksAt, hg, hd])]
  unfold wpOpIn
  rw [ho]
  simp only
  rcases hok with ⟨hg, hv, _, hw0, hn0⟩ | ⟨hg, hstep⟩
  · rw [guardF_rel A.fr (guardEq.trans hg)]
    simp only [Bool.false_eq_true, if_false]
    refine ⟨fun _ _ => trivial, ?_⟩
    refine behind c undef (by rw [hv]; exact V_undef) ?_ A.free (Ext.refl c) fun _ _ => rfl
    have : r.hw = [] := by simp [Rec.hw, hw0, hn0]
    rw [this]; exact A.rel
  · rw [guardF_rel A.fr (guardEq.trans hg), if_pos rfl]
    refine (hstep _ _ c a _ _ (fun x hx => ?_) agreeH A.inv A.rel A.free (A.new i r hr hunF) A.fr behind)
    cases x with
    | tmp t => exact agreeT t (by simp only [Oper.looksAt, List.mem_append, List.mem_filterMap]; exact .inl ⟨.tmp t, by simpa using hx, rfl⟩)
    | _ => rfl
end
section
variable {E : Env} {P : Program} {N : Nat} {ops : Array Oper} {f0 : Nat → SV} {h0 : Hp} {n0 n : Nat} {rs : List Rec}
def unl (listed : Array Bool) : Nat := listed.toList.count false
theorem unl_set {listed : Array Bool} {i : Nat} (hi : i < listed.size) (h : listed.getD i false = false) : unl (listed.setIfInBounds i true) + 1 = unl listed := by
  have hv : listed.toList[i]'(by simpa using hi) = false := by rw [getD_lt hi] at h; simpa using h
  have hpos : 0 < listed.toList.count false := List.count_pos_iff.2 (by rw [← hv]; exact List.getElem_mem _)
  unfold unl
  rw [Array.toList_setIfInBounds, List.count_set (h := by simpa using hi), hv]
  have e1 : (if (false == false) = true then 1 else 0) = 1 := rfl
  have e2 : (if (true == false) = true then 1 else 0) = 0 := rfl
  rw [e1, e2]
  omega
theorem all_listed (hst : staticB ops = true) {listed : Array Bool} (hs : listed.size = ops.size) (hr : Region.ready .any ops listed = []) : ∀ i, i < ops.size → listed.getD i false = true := by
  intro i
  induction i using Nat.strongRecOn with
  | _ i ih =>
    intro hi
    cases h : listed.getD i false with
    | true => rfl
    | false =>
      exfalso
      have hoi : ops[i]? = some ops[i] := by simp [hi]
      have : i ∈ Region.ready .any ops listed := mem_ready.2 ⟨by rw [getD_lt (by omega)] at h ⊢; exact h, ops[i], hoi, fun e he hb => by
        have hlt := staticB_edge hst hoi e he hb
        exact ih e.on hlt (by omega)⟩
      rw [hr] at this; cases this
theorem ready_nil_of {listed : Array Bool} (hs : listed.size = ops.size) (h : unl listed = 0) : Region.ready .any ops listed = [] := by
  cases hr : Region.ready .any ops listed with
  | nil => rfl
  | cons i l =>
    exfalso
    obtain ⟨hun, o, ho, _⟩ := mem_ready.1 (show i ∈ Region.ready .any ops listed by rw [hr]; simp)
    have hlt := (Array.getElem?_eq_some_iff.1 ho).1
    have hF : listed.getD i false = false := by rw [getD_lt (by omega)] at hun ⊢; exact hun
    have := unl_set (by omega) hF
    omega
theorem draw_any (G : Good2 E P N ops f0 h0 n0 n rs) {c0 : Cx} {Qr : Exit → Act → World → Prop}
    (hQ : ∀ c' a', Rel (sel (rs.map Rec.hw) (fun q => decide (q < ops.size)) 0 h0) c' → FRf E N (sel (rs.map Rec.tw) (fun q => decide (q < ops.size)) 0 f0) c' a' → Fr n c' → Ext c0 c' → (∀ j, j < n0 → c'.ρ j = c0.ρ j) → Qr .normal a' c'.w) :
    ∀ (fuel : Nat) (listed : Array Bool) (c : Cx) (a : Act), At E P N ops f0 h0 n0 n rs c0 listed c a → unl listed = fuel → wpAnyIn E.fc 0 P .any ops Qr fuel listed a c.w := by
  have done : ∀ (listed : Array Bool) (c : Cx) (a : Act), At E P N ops f0 h0 n0 n rs c0 listed c a → Region.ready .any ops listed = [] → Qr .normal a c.w := by
    intro listed c a A hr
    have hall := all_listed G.stat A.size hr
    have e : ∀ {α : Type} (l : List (List (Nat × α))) (f : Nat → α), l.length = ops.size → sel l (fun q => listed.getD q false) 0 f = sel l (fun q => decide (q < ops.size)) 0 f := fun l f hl => by
      funext k
      refine sel_agree fun q w _ hw hne => ?_
      have hq := (List.getElem?_eq_some_iff.1 hw).1
      rw [Nat.sub_zero] at hq
      rw [hall q (by omega)] at hne
      simp [show q < ops.size by omega] at hne
    have R := A.rel
    have F := A.fr
    rw [e _ _ (by simp [G.len])] at R F
    exact hQ c a R F A.free A.ext A.same
  intro fuel
  induction fuel with
  | zero =>
    intro listed c a A hf
    have hr := ready_nil_of A.size hf
    exact ⟨hr, done listed c a A hr⟩
  | succ fuel ih =>
    intro listed c a A hf
    refine ⟨done listed c a A, fun i hi => ?_⟩
    obtain ⟨hun, o, ho, _⟩ := mem_ready.1 hi
    have hlt := (Array.getElem?_eq_some_iff.1 ho).1
    have hF : listed.getD i false = false := by rw [getD_lt (by rw [A.size]; exact hlt)] at hun ⊢; exact hun
    have hu := unl_set (by rw [A.size]; exact hlt) hF
    exact draw_step G A hi fun c' a' A' => ih _ c' a' A' (by omega)
theorem draw_sound (G : Good2 E P N ops f0 h0 n0 n rs) (hm : P.follows .mixedOrders = true) {id : Nat} {c : Cx} {a : Act} {Qr : Exit → Act → World → Prop} (hn : n0 ≤ n) (I : E.inv c) (R : Rel h0 c) (F : Fr n0 c) (A : FRf E N f0 c a)
    (hQ : ∀ c' a', Rel (sel (rs.map Rec.hw) (fun q => decide (q < ops.size)) 0 h0) c' → FRf E N (sel (rs.map Rec.tw) (fun q => decide (q < ops.size)) 0 f0) c' a' → Fr n c' → Adv n0 c n c' → Qr .normal a' c'.w) :
    (Code.region id ops true).wpIn E.fc 0 P Qr a c.w := by
  refine wpIn_region_any hm ?_
  have hg : ∀ i, (Array.replicate ops.size false).getD i false = false := fun i => by
    rw [Array.getD_eq_getD_getElem?]
    by_cases hi : i < ops.size <;> simp [hi]
  have hsel : ∀ {α : Type} (l : List (List (Nat × α))) (f : Nat → α), sel l (fun q => (Array.replicate ops.size false).getD q false) 0 f = f := fun l f => by
    funext k; exact sel_not fun q w _ hD => by rw [hg] at hD; cases hD
  have := draw_any G (c0 := c) (Qr := Qr) (fun c' a' R' F' Fr' E' S' => hQ c' a' R' F' Fr' ⟨E', hn, S'⟩) ops.size (Array.replicate ops.size false) c.drew a
    ⟨by simp, fun i o _ hl => (by rw [hg] at hl; cases hl), E.ext c.drew_ext I, (by rw [hsel]; exact R.drew), (by rw [hsel]; exact ⟨A.size, A.defers.mono c.drew_ext, fun t => V.mono c.drew_ext (A.val t)⟩), fun j hj => F j (by omega), c.drew_ext, fun _ _ => rfl,
      fun i r hr _ k hk => F k (G.newlo i r hr k hk).1⟩ (by simp [unl])
  exact this
def disjB (a b : List Nat) : Bool := a.all fun x => !b.contains x
theorem disjB_spec {a b : List Nat} (h : disjB a b = true) : ∀ k ∈ a, k ∉ b := fun k hk hb => by
  have := List.all_eq_true.1 h k hk
  simp at this; exact this hb
def indep (ops : Array Oper) (i : Nat) (r : Rec) : Nat → List Rec → Bool
  | _, [] => true
  | j, q :: qs => ((disjB (keysW q.wr) r.foot && disjB (keysW r.wr) q.foot && disjB (keysW q.new) r.foot) || dirE ops j i) && indep ops i r (j + 1) qs
def sdrawE (E : Env) (P : Program) (ops : Array Oper) (Q : SA → Hp → Nat → Prop) : List Oper → List Rec → SA → Hp → Nat → Prop
  | [], _, sa, h, n => Q sa h n
  | o :: rest, tr, sa, h, n =>
    match guardS ops sa o with
    | none => False
    | some b =>
      if b = true then
      match o.op with
      | .call { callee := .value f, args, .. } =>
        match callee (evS sa f) (args.toList.map (evS sa)) with
        | some (g, aS) => ∃ foot wr v, UCallE E P g aS foot wr v h ∧ (∀ k ∈ keysW wr, k ∈ foot) ∧ (∀ k ∈ foot, k < n) ∧ indep ops tr.length { dst := o.dst, val := v, foot := foot, wr := wr } 0 tr = true ∧
            sdrawE E P ops Q rest (tr ++ [{ dst := o.dst, val := v, foot := foot, wr := wr }]) (putT sa o.dst v) (appW h wr) n
        | none => False
      | op =>
        match sop P (evS sa) h n op with
        | some out =>
          (∀ k ∈ keysW out.upd.toList ++ footS (evS sa) op, k < n) ∧ indep ops tr.length { dst := o.dst, val := out.val, foot := keysW out.upd.toList ++ footS (evS sa) op, wr := out.upd.toList, new := (out.new.map fun x => (n, some x)).toList } 0 tr = true ∧
          sdrawE E P ops Q rest (tr ++ [{ dst := o.dst, val := out.val, foot := keysW out.upd.toList ++ footS (evS sa) op, wr := out.upd.toList, new := (out.new.map fun x => (n, some x)).toList }]) (putT sa o.dst out.val) (out.app h n) (if out.new.isSome then n + 1 else n)
        | none => ∃ v, SemV P (evS sa) o v ∧ indep ops tr.length { dst := o.dst, val := v } 0 tr = true ∧ sdrawE E P ops Q rest (tr ++ [{ dst := o.dst, val := v }]) (putT sa o.dst v) h n
      else sdrawE E P ops Q rest (tr ++ [{ dst := o.dst, val := .tup [] }]) (putT sa o.dst (.tup [])) h n
theorem sel_append {α : Type} {D : Nat → Bool} {l2 : List (List (Nat × α))} : ∀ {l1 : List (List (Nat × α))} {i : Nat} {f : Nat → α}, sel (l1 ++ l2) D i f = sel l2 D (i + l1.length) (sel l1 D i f)
  | [], i, f => rfl
  | w :: l1, i, f => by
    simp only [List.cons_append, sel, List.length_cons]
    rw [sel_append, show i + 1 + l1.length = i + (l1.length + 1) by omega]
theorem sel_pre {α : Type} {l : List (List (Nat × α))} {w : List (Nat × α)} {i : Nat} {f : Nat → α} (hi : i ≤ l.length) : sel (l ++ [w]) (fun q => decide (q < i)) 0 f = sel l (fun q => decide (q < i)) 0 f := by
  rw [sel_append]
  simp only [sel, Nat.zero_add]
  rw [if_neg (by simp; omega)]
theorem sel_last {α : Type} {l : List (List (Nat × α))} {w : List (Nat × α)} {f : Nat → α} : sel (l ++ [w]) (fun q => decide (q < l.length + 1)) 0 f = appW (sel l (fun q => decide (q < l.length)) 0 f) w := by
  rw [sel_append]
  simp only [sel, Nat.zero_add]
  rw [if_pos (by simp)]
  congr 1
  funext k
  refine sel_agree fun q v _ hv hne => ?_
  have hq := (List.getElem?_eq_some_iff.1 hv).1
  rw [Nat.sub_zero] at hq
  simp [hq, show q < l.length + 1 by omega] at hne
structure Pre (E : Env) (P : Program) (N : Nat) (ops : Array Oper) (f0 : Nat → SV) (h0 : Hp) (n0 n : Nat) (tr : List Rec) (f : Nat → SV) (h : Hp) : Prop where
  le : n0 ≤ n
  fr : f = sel (tr.map Rec.tw) (fun q => decide (q < tr.length)) 0 f0
  hp : h = sel (tr.map Rec.hw) (fun q => decide (q < tr.length)) 0 h0
  ok : ∀ (i : Nat) (o : Oper) (r : Rec), ops[i]? = some o → tr[i]? = some r → r.dst = o.dst ∧ (∀ j ∈ keysW r.wr, j ∈ r.foot) ∧
    ((guardF ops (sel (tr.map Rec.tw) (fun q => decide (q < i)) 0 f0) o = some false ∧ r.val = .tup [] ∧ r.foot = [] ∧ r.wr = [] ∧ r.new = []) ∨
     (guardF ops (sel (tr.map Rec.tw) (fun q => decide (q < i)) 0 f0) o = some true ∧
      ∀ m, n ≤ m → StepOk E P N o (sel (tr.map Rec.tw) (fun q => decide (q < i)) 0 f0) (sel (tr.map Rec.hw) (fun q => decide (q < i)) 0 h0) m r))
  ind : ∀ (i j : Nat) (ri rj : Rec), j < i → tr[i]? = some ri → tr[j]? = some rj → dirE ops j i = false →
    (∀ k ∈ keysW rj.wr, k ∉ ri.foot) ∧ (∀ k ∈ keysW ri.wr, k ∉ rj.foot) ∧ (∀ k ∈ keysW rj.new, k ∉ ri.foot)
  newlo : ∀ (i : Nat) (r : Rec), tr[i]? = some r → ∀ k ∈ keysW r.new, n0 ≤ k ∧ k < n
  newne : ∀ (i j : Nat) (ri rj : Rec), i ≠ j → tr[i]? = some ri → tr[j]? = some rj → ∀ k ∈ keysW ri.new, k ∉ keysW rj.new
  footlo : ∀ (i : Nat) (r : Rec), tr[i]? = some r → ∀ k ∈ r.foot, k < n
  newfoot : ∀ (i j : Nat) (ri rj : Rec), j ≤ i → tr[i]? = some ri → tr[j]? = some rj → ∀ k ∈ keysW ri.new, k ∉ rj.foot
theorem indep_spec {i : Nat} {r : Rec} : ∀ {tr : List Rec} {j0 : Nat}, indep ops i r j0 tr = true → ∀ (j : Nat) (q : Rec), tr[j]? = some q → dirE ops (j0 + j) i = false →
    (∀ k ∈ keysW q.wr, k ∉ r.foot) ∧ (∀ k ∈ keysW r.wr, k ∉ q.foot) ∧ (∀ k ∈ keysW q.new, k ∉ r.foot)
  | [], _, _, j, q, hq, _ => by simp at hq
  | x :: tr, j0, h, j, q, hq, hd => by
    simp only [indep, Bool.and_eq_true] at h
    cases j with
    | zero =>
      simp only [List.getElem?_cons_zero, Option.some.injEq] at hq
      subst hq
      rw [Nat.add_zero] at hd
      have h1 := h.1
      rw [hd, Bool.or_false, Bool.and_eq_true, Bool.and_eq_true] at h1
      exact ⟨disjB_spec h1.1.1, disjB_spec h1.1.2, disjB_spec h1.2⟩
    | succ j => exact indep_spec h.2 j q (by simpa using hq) (by rw [show j0 + 1 + j = j0 + (j + 1) by omega]; exact hd)
theorem Pre.snoc {tr : List Rec} {f : Nat → SV} {h : Hp} {n n' : Nat} (A : Pre E P N ops f0 h0 n0 n tr f h) {o : Oper} (ho : ops[tr.length]? = some o) {r : Rec} (hn : n ≤ n') (hdst : r.dst = o.dst) (hwf : ∀ k ∈ keysW r.wr, k ∈ r.foot)
    (hfoot : ∀ k ∈ r.foot, k < n) (hnew : ∀ k ∈ keysW r.new, n ≤ k ∧ k < n') (hind : indep ops tr.length r 0 tr = true)
    (hok : (guardF ops f o = some false ∧ r.val = .tup [] ∧ r.foot = [] ∧ r.wr = [] ∧ r.new = []) ∨ (guardF ops f o = some true ∧ ∀ m, n' ≤ m → StepOk E P N o f h m r)) :
    Pre E P N ops f0 h0 n0 n' (tr ++ [r]) (appW f r.tw) (appW h r.hw) := by
  have hm : ∀ {α : Type} (g : Rec → List (Nat × α)), (tr ++ [r]).map g = tr.map g ++ [g r] := fun g => by simp
  have hl : ∀ {α : Type} (g : Rec → List (Nat × α)), (tr.map g).length = tr.length := fun g => by simp
  have get : ∀ {i : Nat} {q : Rec}, (tr ++ [r])[i]? = some q → (i < tr.length ∧ tr[i]? = some q) ∨ (i = tr.length ∧ q = r) := fun {i q} h => by
    rw [List.getElem?_append] at h
    split at h
    · exact .inl ⟨by assumption, h⟩
    · rename_i hi
      have := (List.getElem?_eq_some_iff.1 h).1
      simp at this
      have e : i = tr.length := by omega
      subst e; simp at h
      exact .inr ⟨rfl, h.symm⟩
  refine ⟨Nat.le_trans A.le hn, ?_, ?_, fun i oi ri hoi hri => ?_, fun i j ri rj hji hri hrj hd => ?_, fun i ri hri k hk => ?_, fun i j ri rj hij hri hrj k hk => ?_, fun i ri hri k hk => ?_, fun i j ri rj hji hri hrj k hk => ?_⟩
  · rw [hm, List.length_append, List.length_singleton]
    have := sel_last (l := tr.map Rec.tw) (w := r.tw) (f := f0)
    rw [hl] at this
    rw [this, ← A.fr]
  · rw [hm, List.length_append, List.length_singleton]
    have := sel_last (l := tr.map Rec.hw) (w := r.hw) (f := h0)
    rw [hl] at this
    rw [this, ← A.hp]
  · rcases get hri with ⟨hi, hri⟩ | ⟨rfl, rfl⟩
    · obtain ⟨g1, g2, g3⟩ := A.ok i oi ri hoi hri
      rw [hm, hm, sel_pre (by rw [hl]; omega), sel_pre (by rw [hl]; omega)]
      refine ⟨g1, g2, g3.imp id fun ⟨x, y⟩ => ⟨x, fun m hm => y m (by omega)⟩⟩
    · rw [ho] at hoi; cases hoi
      rw [hm, hm, sel_pre (by rw [hl]; omega), sel_pre (by rw [hl]; omega), ← A.fr, ← A.hp]
      exact ⟨hdst, hwf, hok⟩
  · rcases get hri with ⟨hi, hri⟩ | ⟨rfl, rfl⟩
    · rcases get hrj with ⟨hj, hrj⟩ | ⟨rfl, rfl⟩
      · exact A.ind i j ri rj hji hri hrj hd
      · omega
    · rcases get hrj with ⟨hj, hrj⟩ | ⟨rfl, rfl⟩
      · exact indep_spec hind j rj hrj (by rw [Nat.zero_add]; exact hd)
      · omega
  · rcases get hri with ⟨hi, hri⟩ | ⟨rfl, rfl⟩
    · have := A.newlo i ri hri k hk; omega
    · have := hnew k hk; have := A.le; omega
  · rcases get hri with ⟨hi, gri⟩ | ⟨rfl, rfl⟩
    · rcases get hrj with ⟨hj, grj⟩ | ⟨rfl, rfl⟩
      · exact A.newne i j ri rj hij gri grj k hk
      · intro h2; have := A.newlo i ri gri k hk; have := hnew k h2; omega
    · rcases get hrj with ⟨hj, grj⟩ | ⟨rfl, rfl⟩
      · intro h2; have := A.newlo j rj grj k h2; have := hnew k hk; omega
      · exact absurd rfl hij
  · rcases get hri with ⟨hi, gri⟩ | ⟨rfl, rfl⟩
    · have := A.footlo i ri gri k hk; omega
    · have := hfoot k hk; omega
  · rcases get hri with ⟨hi, gri⟩ | ⟨rfl, rfl⟩
    · rcases get hrj with ⟨hj, grj⟩ | ⟨rfl, rfl⟩
      · exact A.newfoot i j ri rj hji gri grj k hk
      · omega
    · rcases get hrj with ⟨hj, grj⟩ | ⟨rfl, rfl⟩
      · intro h2; have := A.footlo j rj grj k h2; have := hnew k hk; omega
      · intro h2; have := hfoot k h2; have := hnew k hk; omega
end
section
variable {E : Env} {P : Program} {N : Nat} {ops : Array Oper} {f0 : Nat → SV} {h0 : Hp} {n0 n : Nat}
theorem look_put (sa : SA) (dst : Option Tmp) (v : SV) (r : Rec) (hd : r.dst = dst) (hv : r.val = v) : look (putT sa dst v) = appW (look sa) r.tw := by
  funext t
  unfold Rec.tw
  rw [hd, hv]
  cases dst with
  | none => rfl
  | some d =>
    show (if d = t then v else look sa t) = if t = d then v else look sa t
    by_cases e : d = t
    · rw [if_pos e, if_pos e.symm]
    · rw [if_neg e, if_neg (Ne.symm e)]
theorem app_hw (h : Hp) (k : Nat) (out : Out) (r : Rec) (hw : r.wr = out.upd.toList) (hn : r.new = (out.new.map fun x => (k, some x)).toList) : out.app h k = appW h r.hw := by
  unfold Rec.hw Out.app
  rw [hw, hn]
  cases out.upd with
  | none => cases out.new <;> rfl
  | some p => obtain ⟨j, x⟩ := p; cases out.new <;> rfl
theorem FRf.ev {f : Nat → SV} {c : Cx} {a : Act} (F : FRf E N f c a) (x : Operand) : V c (evF f x) (a.eval x) := by
  cases x with
  | tmp t => exact F.val t
  | const v => exact V_ofValue c v
  | global g => simp [evF, V]
  | func g => simp [evF, Act.eval, V, VL]
theorem sop_number {ev : Operand → SV} {h : Hp} {k q : Nat} {op : Op} {out : Out} (hs : sop P ev h k op = some out) (hn : out.new = none) : sop P ev h q op = some out := by
  cases op with
  | alloc e => simp only [sop] at hs; split at hs <;> cases hs; cases hn
  | box e x => simp only [sop] at hs; split at hs <;> cases hs; cases hn
  | buildSlice t l ps =>
    simp only [sop] at hs
    split at hs <;> try cases hs
    split at hs <;> try cases hs
    simp only [Option.bind_eq_some_iff] at hs
    obtain ⟨cs, _, e⟩ := hs
    cases e; cases hn
  | makeMap t r => simp only [sop] at hs; split at hs <;> cases hs; cases hn
  | makeSlice t l c =>
    simp only [sop] at hs
    split at hs <;> try cases hs
    split at hs <;> try cases hs
    cases hn
  | call cl =>
    obtain ⟨callee, args, ts⟩ := cl
    cases callee with
    | value f => exact hs
    | invoke r m => exact hs
    | builtin b =>
      simp only [sop] at hs ⊢
      unfold builtinS at hs ⊢
      split at hs <;> try exact hs
      split at hs
      rotate_left
      · rename_i ht2
        split at hs
        · rename_i hts
          rw [if_neg ht2, if_pos hts]
          unfold appendStr at hs ⊢
          split at hs <;> try cases hs
          rename_i e b he _
          split at hs <;> try cases hs
          rename_i hc
          rw [if_neg hc]
          unfold appC at hs ⊢
          split at hs
          · rename_i h0; rw [if_pos h0]; exact hs
          · exfalso
            split at hs
            · split at hs <;> cases hs; cases hn
            · split at hs <;> cases hs; cases hn
            · split at hs <;> try cases hs
              split at hs <;> cases hs; cases hn
            · cases hs
        exfalso
        unfold appendMake at hs
        split at hs <;> try cases hs
        split at hs <;> cases hs
        cases hn
      rename_i ht2
      rw [if_pos ht2]
      unfold appendS at hs ⊢
      split at hs <;> try cases hs
      rename_i e he
      simp only at hs
      split at hs <;> try cases hs
      rename_i m ys hm hys
      simp only []
      split at hs <;> try cases hs
      rename_i hc
      rw [if_neg hc]
      split at hs
      · rename_i h0; rw [if_pos h0]; exact hs
      · exfalso
        split at hs
        · split at hs <;> cases hs; cases hn
        · split at hs <;> cases hs; cases hn
        · split at hs <;> try cases hs
          split at hs <;> cases hs; cases hn
        · cases hs
  | _ => exact hs
theorem stepOk_plain {o : Oper} {f : Nat → SV} {h : Hp} {out : Out} (hs : sop P (evF f) h n o.op = some out) {m : Nat} (hm : (if out.new.isSome then n + 1 else n) ≤ m) :
    StepOk E P N o f h m { dst := o.dst, val := out.val, foot := keysW out.upd.toList ++ footS (evF f) o.op, wr := out.upd.toList, new := (out.new.map fun x => (n, some x)).toList } := by
  intro f' h' c a Kr Qr hev hh I R F hnew A hK
  refine ⟨fun _ _ => trivial, ?_⟩
  have happ : out.app h' n = appW h' (Rec.hw { dst := o.dst, val := out.val, foot := keysW out.upd.toList ++ footS (evF f) o.op, wr := out.upd.toList, new := (out.new.map fun x => (n, some x)).toList }) := app_hw h' n out _ rfl rfl
  have hs' : sop P (evF f') h' n o.op = some out := by
    rw [← hs]
    refine (sop_local (fun x hx => (hev x hx).symm) fun j hj => ?_).symm
    exact (hh j (List.mem_append.2 (.inr hj))).symm
  by_cases hn : out.new.isSome = true
  · obtain ⟨x, hx⟩ := Option.isSome_iff_exists.1 hn
    have hρn : c.ρ n = none := hnew n (by show n ∈ keysW ((out.new.map fun x => (n, some x)).toList); rw [hx]; simp [keysW])
    obtain ⟨u, c', hr, hv, R', X, hρ⟩ := sop_sound (ev := a.eval) hs' R hρn fun x _ => A.ev x
    have := hK c' u hv (happ ▸ R') (fun j hj => by
      rw [hρ j (.inr (by rw [if_pos hn] at hm; omega))]; exact F j hj) X (fun j hj => hρ j (.inr fun e => hj (by subst e; show j ∈ keysW ((out.new.map fun x => (j, some x)).toList); rw [hx]; simp [keysW])))
    rw [Oper.semAt_eq _ _ _ (sop_noDefer hs)]
    rcases hr with hr | ⟨rfl, hr⟩ <;> (rw [hr]; exact this)
  · have hnone : out.new = none := by cases h : out.new <;> simp [h] at hn ⊢
    have free : ∃ q, c.ρ q = none := ⟨m, F m (Nat.le_refl _)⟩
    obtain ⟨q, hq⟩ := free
    have hs2 : sop P (evF f') h' q o.op = some out := sop_number hs' hnone
    obtain ⟨u, c', hr, hv, R', X, hρ⟩ := sop_sound (ev := a.eval) hs2 R hq fun x _ => A.ev x
    have eapp : out.app h' q = out.app h' n := by unfold Out.app; rw [hnone]
    have := hK c' u hv (happ ▸ eapp ▸ R') (fun j hj => by
      rw [hρ j (.inl (by simp [hnone]))]; exact F j hj) X (fun j hj => hρ j (.inl (by simp [hnone])))
    rw [Oper.semAt_eq _ _ _ (sop_noDefer hs)]
    rcases hr with hr | ⟨rfl, hr⟩ <;> (rw [hr]; exact this)
theorem stepOk_call {o : Oper} {f : Nat → SV} {h : Hp} {x : Operand} {args : Array Operand} {ts : Array TypeId} {g : FuncId} {aS : List SV} {foot : List Nat} {wr : List (Nat × Option SObj)} {v : SV}
    (ho : o.op = .call { callee := .value x, args := args, argTypes := ts }) (hc : callee (evF f x) (args.toList.map (evF f)) = some (g, aS)) (hU : UCallE E P g aS foot wr v h) {m : Nat} :
    StepOk E P N o f h m { dst := o.dst, val := v, foot := foot, wr := wr } := by
  intro f' h' c a Kr Qr hev hh I R F hnew A hK
  refine ⟨fun _ _ => trivial, ?_⟩
  have ev1 : evF f' x = evF f x := hev x (by rw [ho]; simp [Op.operands, Call.operands])
  have ev2 : args.toList.map (evF f') = args.toList.map (evF f) := List.map_congr_left fun y hy => hev y (by rw [ho]; simp [Op.operands, Call.operands]; exact .inr (by simpa using hy))
  have hcall := hU h' m hh
  have hf := A.ev x
  rw [ev1] at hf
  unfold callee at hc
  split at hc <;> try cases hc
  rename_i g' y z e1
  rw [e1, V] at hf
  obtain ⟨xs, ys, hfv, h1, h2⟩ := hf
  have hargs : All2 (V c) (y ++ args.toList.map (evF f) ++ z) (xs ++ (args.map a.eval).toList ++ ys) := by
    rw [← ev2]
    exact All2.append (All2.append (VL_iff.1 h1) (map_rel args fun w _ => A.ev w)) (VL_iff.1 h2)
  obtain ⟨hok, hcall⟩ := hcall
  have hc := hcall c _ I R F hargs
  unfold okFn at hok
  cases hfn : P.funcs[g]? with
  | none => simp [hfn] at hok
  | some fn =>
    simp only [hfn, Bool.and_eq_true, bne_iff_ne, ne_eq] at hok
    have hrun : (execOp a.eval o).run P c.w = .ok (.enter g (xs.toArray ++ args.map a.eval ++ ys.toArray)) c.w := by
      have hb : fn.body ≠ none := by intro e; simp [e] at hok
      simp [execOp, ho, resolve, Deferred.ofValue, hfv, invoke, callFunc, hfn, hok.2, hb]
    have earr : xs.toArray ++ args.map a.eval ++ ys.toArray = (xs ++ (args.map a.eval).toList ++ ys).toArray := by
      apply Array.ext'; simp
    rw [Oper.semAt_eq _ _ _ (by rw [ho]; simp), hrun, Oper.uponIn_enter, earr]
    refine ⟨fun h => by simp [Env.fc, Fence.wide] at h, (callsIn_wide.2 (hc.mono fun e w' ⟨u, v', h2', n', c', he, ⟨hv1, hh1, hn1⟩, hw, hv, R', F', A'⟩ => ?_) : CallsIn Fence.wide _ P g _ c.w _)⟩
    subst he; subst hw; subst hv1; subst hh1; subst hn1
    refine hK c' u hv (by simpa [Rec.hw] using R') F' A'.ext fun j _ => ?_
    rcases Nat.lt_or_ge j n' with hj | hj
    · exact A'.same j hj
    · rw [F j hj, F' j hj]
theorem stepOk_sem {o : Oper} {f : Nat → SV} {h : Hp} {v : SV} (H : SemV P (evF f) o v) {m : Nat} : StepOk E P N o f h m { dst := o.dst, val := v } := by
  intro f' h' c a Kr Qr hev hh I R F hnew A hK
  refine ⟨fun _ _ => trivial, ?_⟩
  rw [Oper.semAt_eq _ _ _ H.1]
  obtain ⟨u, hr, hv⟩ := H.2 c a.eval (fun _ => rfl) fun x hx => by rw [← hev x hx]; exact A.ev x
  rw [hr]
  exact hK c u hv (by simpa [Rec.hw, appW] using R) F (Ext.refl c) fun _ _ => rfl
theorem sdraw_sound {Q : SA → Hp → Nat → Prop} : ∀ (rest : List Oper) (tr : List Rec) (sa : SA) (h : Hp) (n : Nat), Pre E P N ops f0 h0 n0 n tr (look sa) h → ops.toList.drop tr.length = rest → tr.length ≤ ops.size →
    sdrawE E P ops Q rest tr sa h n → ∃ rs sa' h' n', Pre E P N ops f0 h0 n0 n' rs (look sa') h' ∧ rs.length = ops.size ∧ Q sa' h' n'
  | [], tr, sa, h, n, A, hd, hle, H => ⟨tr, sa, h, n, A, by have := List.drop_eq_nil_iff.1 hd; simp at this; omega, H⟩
  | o :: rest, tr, sa, h, n, A, hd, hle, H => by
    have hlt : tr.length < ops.size := by
      rcases Nat.lt_or_ge tr.length ops.size with h | h
      · exact h
      · rw [List.drop_of_length_le (by simpa using h)] at hd; cases hd
    have ho : ops[tr.length]? = some o := by
      have : (ops.toList.drop tr.length)[0]? = some o := by rw [hd]; rfl
      rw [List.getElem?_drop] at this; simpa using this
    have hd' : ∀ r : Rec, ops.toList.drop (tr ++ [r]).length = rest := fun r => by
      rw [List.length_append, List.length_singleton, ← List.drop_drop, hd]; rfl
    have hle' : ∀ r : Rec, (tr ++ [r]).length ≤ ops.size := fun r => by simp; omega
    have plain : ∀ out, sop P (evS sa) h n o.op = some out →
        ((∀ k ∈ keysW out.upd.toList ++ footS (evS sa) o.op, k < n) ∧ indep ops tr.length { dst := o.dst, val := out.val, foot := keysW out.upd.toList ++ footS (evS sa) o.op, wr := out.upd.toList, new := (out.new.map fun x => (n, some x)).toList } 0 tr = true ∧
          sdrawE E P ops Q rest (tr ++ [{ dst := o.dst, val := out.val, foot := keysW out.upd.toList ++ footS (evS sa) o.op, wr := out.upd.toList, new := (out.new.map fun x => (n, some x)).toList }]) (putT sa o.dst out.val) (out.app h n) (if out.new.isSome then n + 1 else n)) →
        guardS ops sa o = some true → ∃ rs sa' h' n', Pre E P N ops f0 h0 n0 n' rs (look sa') h' ∧ rs.length = ops.size ∧ Q sa' h' n' := fun out hs ⟨h1, h2, h3⟩ hg => by
      refine sdraw_sound rest _ _ _ _ ?_ (hd' _) (hle' _) h3
      have := A.snoc (n' := if out.new.isSome then n + 1 else n) ho (r := { dst := o.dst, val := out.val, foot := keysW out.upd.toList ++ footS (evS sa) o.op, wr := out.upd.toList, new := (out.new.map fun x => (n, some x)).toList })
        (by split <;> omega) rfl (fun k hk => List.mem_append.2 (.inl hk)) h1 (fun k hk => by
          cases hn : out.new with
          | none => rw [hn] at hk; simp [keysW] at hk
          | some x => rw [hn] at hk; simp [keysW] at hk; subst hk; simp) h2
        (.inr ⟨by rw [← guardS_eq]; exact hg, fun m hm => by rw [evS_eq] at hs ⊢; exact stepOk_plain hs hm⟩)
      rw [look_put sa o.dst out.val { dst := o.dst, val := out.val, foot := keysW out.upd.toList ++ footS (evS sa) o.op, wr := out.upd.toList, new := (out.new.map fun x => (n, some x)).toList } rfl rfl,
        app_hw h n out { dst := o.dst, val := out.val, foot := keysW out.upd.toList ++ footS (evS sa) o.op, wr := out.upd.toList, new := (out.new.map fun x => (n, some x)).toList } rfl rfl]
      exact this
    simp only [sdrawE] at H
    split at H
    case h_1 => exact H.elim
    rename_i b hg
    cases b
    case false =>
      simp only [Bool.false_eq_true, if_false] at H
      refine sdraw_sound rest _ _ _ _ ?_ (hd' _) (hle' _) H
      have := A.snoc (n' := n) ho (r := { dst := o.dst, val := .tup [] }) (Nat.le_refl _) rfl (by simp [keysW]) (by simp) (by simp [keysW]) (by
        have : ∀ (l : List Rec) (j : Nat), indep ops tr.length { dst := o.dst, val := .tup [] } j l = true := by
          intro l
          induction l with
          | nil => intro j; rfl
          | cons q l ih =>
            intro j
            simp only [indep, ih, Bool.and_true]
            have d1 : ∀ a : List Nat, disjB a [] = true := fun a => by simp [disjB]
            rw [d1, d1]
            simp [disjB, keysW]
        exact this tr 0) (.inl ⟨by rw [← guardS_eq]; exact hg, rfl, rfl, rfl, rfl⟩)
      rw [look_put sa o.dst (.tup []) { dst := o.dst, val := .tup [] } rfl rfl]
      exact this
    case true =>
      rw [if_pos rfl] at H
      split at H
      · rename_i f args ts hop
        split at H
        · rename_i g aS hc
          obtain ⟨foot, wr, v, hU, hwf, hfoot, hind, hrest⟩ := H
          refine sdraw_sound rest _ _ _ _ ?_ (hd' _) (hle' _) hrest
          have := A.snoc (n' := n) ho (r := { dst := o.dst, val := v, foot := foot, wr := wr }) (Nat.le_refl _) rfl hwf hfoot (by simp [keysW]) hind
            (.inr ⟨by rw [← guardS_eq]; exact hg, fun m _ => by rw [evS_eq] at hc; exact stepOk_call hop hc hU⟩)
          rw [look_put sa o.dst v { dst := o.dst, val := v, foot := foot, wr := wr } rfl rfl]
          simpa [Rec.hw] using this
        · exact H.elim
      · split at H
        · rename_i out hs
          exact plain out hs H hg
        · obtain ⟨v, hV, hind, hrest⟩ := H
          refine sdraw_sound rest _ _ _ _ ?_ (hd' _) (hle' _) hrest
          have := A.snoc (n' := n) ho (r := { dst := o.dst, val := v }) (Nat.le_refl _) rfl (by simp [keysW]) (by simp) (by simp [keysW]) hind
            (.inr ⟨by rw [← guardS_eq]; exact hg, fun m _ => by rw [evS_eq] at hV; exact stepOk_sem hV⟩)
          rw [look_put sa o.dst v { dst := o.dst, val := v } rfl rfl]
          simpa [Rec.hw, appW] using this
theorem SWE_draw {id : Nat} {Q : Post} {sa : SA} {h : Hp} {n : Nat} (hm : P.follows .mixedOrders = true) (hst : staticB ops = true) (H : sdrawE E P ops (Q .normal) ops.toList [] sa h n) : SWE E P N (.region id ops true) Q sa h n := by
  intro hd c a I R F A
  simp only [Code.dok, List.all_eq_true] at hd
  have hdd : ∀ (i : Nat) (o : Oper), ops[i]? = some o → ∀ d, o.dst = some d → d < N := fun i o ho d e => by
    have := hd o (by simpa using Array.mem_of_getElem? ho)
    rw [e] at this; simpa using this
  have A0 : Pre E P N ops (look sa) h n n [] (look sa) h :=
    ⟨Nat.le_refl _, rfl, rfl, by simp, by simp, by simp, by simp, by simp, by simp⟩
  obtain ⟨rs, sa', h', n', A1, hlen, hq⟩ := sdraw_sound (N := N) ops.toList [] sa h n A0 rfl (Nat.zero_le _) H
  have G : Good2 E P N ops (look sa) h n n' rs :=
    ⟨hlen, hst, hdd, fun i o r ho hr => by
      obtain ⟨g1, g2, g3⟩ := A1.ok i o r ho hr
      exact ⟨g1, g2, g3.imp (fun z => z) fun ⟨x, y⟩ => ⟨x, y n' (Nat.le_refl _)⟩⟩, A1.ind, A1.newlo, A1.newne, A1.newfoot⟩
  refine draw_sound G hm A1.le I R F ⟨A.size, A.defers, A.val⟩ fun c' a' R' F' Fr' E' => ?_
  rw [← hlen, ← A1.hp] at R'
  rw [← hlen, ← A1.fr] at F'
  exact ⟨sa', h', n', c', hq, rfl, R', Fr', ⟨F'.size, F'.defers, F'.val⟩, E'⟩
end
def swpE (E : Env) (P : Program) (N : Nat) : Code → Post → SA → Hp → Nat → Prop
  | .skip, Q, sa, h, n => Q .normal sa h n
  | .seq a b, Q, sa, h, n => swpE E P N a (thenQ (swpE E P N b Q) Q) sa h n
  | .cond c a b, Q, sa, h, n => match evS sa c with | .bool t => if t = true then swpE E P N a Q sa h n else swpE E P N b Q sa h n | _ => False
  | .block id b, Q, sa, h, n => swpE E P N b (blockQ id Q) sa h n
  | .exit id, Q, sa, h, n => Q (.exit id) sa h n
  | .ret, Q, sa, h, n => Q .ret sa h n
  | .region _ ops false, Q, sa, h, n => sopsE E P ops (Q .normal) ops.toList sa h n
  | .region _ ops true, Q, sa, h, n => staticB ops = true ∧ sdrawE E P ops (Q .normal) ops.toList [] sa h n
  | .loop b, Q, sa, h, n => SWE E P N (.loop b) Q sa h n
  | .rangeFunc g ps a b, Q, sa, h, n => SWE E P N (.rangeFunc g ps a b) Q sa h n
  | _, _, _, _, _ => False
theorem thenQ_mono {K K' : SA → Hp → Nat → Prop} {Q : Post} (hk : ∀ sa h n, K sa h n → K' sa h n) : ∀ e sa h n, thenQ K Q e sa h n → thenQ K' Q e sa h n := by
  intro e sa h n H
  cases e <;> first | exact hk _ _ _ H | exact H
theorem swp_sound {E : Env} {P : Program} {N : Nat} (hm : P.follows .mixedOrders = true) : ∀ (c : Code) (Q : Post) (sa : SA) (h : Hp) (n : Nat), swpE E P N c Q sa h n → SWE E P N c Q sa h n
  | .skip, Q, sa, h, n, H => SWE_skip H
  | .seq a b, Q, sa, h, n, H => SWE_seq (SWE_mono (swp_sound hm a _ sa h n H) (thenQ_mono fun sa h n => swp_sound hm b Q sa h n))
  | .cond c a b, Q, sa, h, n, H => by
    simp only [swpE] at H
    split at H
    · rename_i t ht
      refine SWE_cond ht ?_
      split at H
      · rename_i e; rw [if_pos e]; exact swp_sound hm a Q sa h n H
      · rename_i e; rw [if_neg e]; exact swp_sound hm b Q sa h n H
    · exact H.elim
  | .block id b, Q, sa, h, n, H => SWE_block (swp_sound hm b _ sa h n H)
  | .exit id, Q, sa, h, n, H => SWE_exit H
  | .ret, Q, sa, h, n, H => SWE_ret H
  | .region _ ops false, Q, sa, h, n, H => SWE_region H
  | .region _ ops true, Q, sa, h, n, H => SWE_draw hm H.1 H.2
  | .loop b, Q, sa, h, n, H => H
  | .rangeFunc _ _ _ _, _, _, _, _, H => H
  | .scope _, _, _, _, _, H => H.elim
  | .label _, _, _, _, _, H => H.elim
  | .goto _, _, _, _, _, H => H.elim
  | .refuse _, _, _, _, _, H => H.elim
def Is (v : SV) (h : Hp) (n : Nat) : SV → Hp → Nat → Prop := fun v' h' n' => v' = v ∧ h' = h ∧ n' = n
def PCall (P : Program) (f : FuncId) (args : List SV) (v : SV) : Prop := ∀ h n, SCall P f args h n (Is v h n)
theorem PCall.use {E : Env} {P : Program} {f : FuncId} {args : List SV} {v : SV} (H : PCall P f args v) {h : Hp} {n : Nat} {K : SV → Hp → Nat → Prop} (hk : K v h n) : SCallE E P f args h n K :=
  SCallE.lift <| (H h n).mono fun _ _ _ ⟨e1, e2, e3⟩ => by subst e1; subst e2; subst e3; exact hk
theorem PCall.u {E : Env} {P : Program} {f : FuncId} {args : List SV} {v : SV} (H : PCall P f args v) (h : Hp) : UCallE E P f args [] [] v h :=
  fun h' n _ => SCallE.lift <| (H h' n).mono fun _ _ _ ⟨e1, e2, e3⟩ => ⟨e1, e2, e3⟩
theorem SCall_swp {E : Env} {P : Program} (hm : P.follows .mixedOrders = true) {f : FuncId} {fn : Func} {code : Code} {args : List SV} {h : Hp} {n : Nat} {K : SV → Hp → Nat → Prop} (hf : P.funcs[f]? = some fn) (hb : fn.body = some code)
    (hn : (fn.name != "runtime.NumGoroutine") = true) (hd : Code.dok fn.ntmps code = true) (hl : args.length ≤ fn.ntmps)
    (H : (∀ a ∈ args, closed n a = true) → (∀ o x, h o = some x → o < n ∧ closedO n x = true) → swpE (E.call false 0) P fn.ntmps code (retQ P fn n K) (initSA 0 args) h n) : SCallE E P f args h n K :=
  SCallE_of hf hb hn hd hl fun h1 h2 => swp_sound hm _ _ _ _ _ (H h1 h2)
theorem RetS.plain {n : Nat} {h h' : Hp} {n' : Nat} {v : SV} {K : SV → Hp → Nat → Prop} (hc : closed n v = true) (hs : ∀ o x, h o = some x → o < n ∧ closedO n x = true) (hh : ∀ o x, h o = some x → h' o = some x) (hk : K v h n) : RetS n h' n' v K :=
  .inr ⟨0, v, h, rfl, hc, fun o x e => ⟨hh o x e, hs o x e⟩, hk⟩
abbrev swp := swpE Env.plain
abbrev TY (k sz b : Nat) (ag : Option Bool) (sl : Option TypeId) (ar : Option (Nat × TypeId)) (mp : Option (TypeId × TypeId)) (st : Bool) (i : Option IntKind) (bo pt : Bool) (ze : SV) : Prop :=
  tsz Tryz.prog k = sz ∧ tbytes Tryz.prog k = b ∧ tagg Tryz.prog k = ag ∧ tslice Tryz.prog k = sl ∧ tarray Tryz.prog k = ar ∧ tmap Tryz.prog k = mp ∧ tstring Tryz.prog k = st ∧ tint Tryz.prog k = i ∧ tbool Tryz.prog k = bo ∧ tptr Tryz.prog k = pt ∧ tzero Tryz.prog k = ze
abbrev TF (k i o t : Nat) : Prop := tfield Tryz.prog k i = some (o, t)
@[go_sem] theorem ty2 : TY 2 1 8 (some false) none none none false (some .i64) false false (.int .i64 0) := by (repeat' apply And.intro) <;> kernel_rfl
@[go_sem] theorem ty3 : TY 3 1 8 (some false) none none none false (some .i64) false false (.int .i64 0) := by (repeat' apply And.intro) <;> kernel_rfl
@[go_sem] theorem ty4 : TY 4 1 1 (some false) none none none false none true false (.bool false) := by (repeat' apply And.intro) <;> kernel_rfl
@[go_sem] theorem ty5 : TY 5 1 1 (some false) none none none false (some .u8) false false (.int .u8 0) := by (repeat' apply And.intro) <;> kernel_rfl
@[go_sem] theorem ty9 : TY 9 1 16 (some false) none none none true none false false (.str .empty) := by (repeat' apply And.intro) <;> kernel_rfl
@[go_sem] theorem ty21 : TY 21 1 4 (some false) none none none false (some .i32) false false (.int .i32 0) := by (repeat' apply And.intro) <;> kernel_rfl
@[go_sem] theorem ty22 : TY 22 1 24 (some false) (some 80) none none false none false false (.imm 0 [] true) := by (repeat' apply And.intro) <;> kernel_rfl
@[go_sem] theorem ty23 : TY 23 1 24 (some false) (some 164) none none false none false false (.imm 0 [] true) := by (repeat' apply And.intro) <;> kernel_rfl
@[go_sem] theorem ty24 : TY 24 1 24 (some false) (some 74) none none false none false false (.imm 0 [] true) := by (repeat' apply And.intro) <;> kernel_rfl
@[go_sem] theorem ty25 : TY 25 1 24 (some false) (some 76) none none false none false false (.imm 0 [] true) := by (repeat' apply And.intro) <;> kernel_rfl
@[go_sem] theorem ty27 : TY 27 4 64 (some true) none none none false none false false (.agg [.int .i64 0, .int .i64 0, .imm 0 [] true, .imm 0 [] true]) ∧ tplaces Tryz.prog 27 = some [(0, 1), (1, 1), (2, 1), (3, 1)] ∧ TF 27 0 0 3 ∧ TF 27 1 1 3 ∧ TF 27 2 2 24 ∧ TF 27 3 3 25 := by (repeat' first | apply And.intro | unfold TF) <;> kernel_rfl
@[go_sem] theorem ty29 : TY 29 5 88 (some true) none none none false none false false (.agg [.imm 0 [] true, .int .i64 0, .int .i64 0, .imm 0 [] true, .imm 0 [] true]) ∧ tplaces Tryz.prog 29 = some [(0, 1), (1, 4)] ∧ TF 29 0 0 23 ∧ TF 29 1 1 27 := by (repeat' first | apply And.intro | unfold TF) <;> kernel_rfl
@[go_sem] theorem ty30 : TY 30 1 24 (some false) (some 68) none none false none false false (.imm 0 [] true) := by (repeat' apply And.intro) <;> kernel_rfl
@[go_sem] theorem ty31 : TY 31 1 24 (some false) (some 110) none none false none false false (.imm 0 [] true) := by (repeat' apply And.intro) <;> kernel_rfl
@[go_sem] theorem ty32 : TY 32 1 24 (some false) (some 113) none none false none false false (.imm 0 [] true) := by (repeat' apply And.intro) <;> kernel_rfl
@[go_sem] theorem ty33 : TY 33 1 24 (some false) (some 71) none none false none false false (.imm 0 [] true) := by (repeat' apply And.intro) <;> kernel_rfl
@[go_sem] theorem ty34 : TY 34 1 24 (some false) (some 88) none none false none false false (.imm 0 [] true) := by (repeat' apply And.intro) <;> kernel_rfl
@[go_sem] theorem ty36 : TY 36 4 96 (some true) none none none false none false false (.agg [.imm 0 [] true, .imm 0 [] true, .imm 0 [] true, .imm 0 [] true]) ∧ tplaces Tryz.prog 36 = some [(0, 1), (1, 1), (2, 1), (3, 1)] ∧ TF 36 0 0 31 ∧ TF 36 1 1 32 ∧ TF 36 2 2 33 ∧ TF 36 3 3 34 := by (repeat' first | apply And.intro | unfold TF) <;> kernel_rfl
@[go_sem] theorem ty38 : TY 38 11 232 (some true) none none none false none false false (.agg [.imm 0 [] true, .imm 0 [] true, .int .i64 0, .int .i64 0, .imm 0 [] true, .imm 0 [] true, .imm 0 [] true, .imm 0 [] true, .imm 0 [] true, .imm 0 [] true, .imm 0 [] true]) ∧ tplaces Tryz.prog 38 = some [(0, 1), (1, 5), (6, 1), (7, 4)] ∧ TF 38 0 0 22 ∧ TF 38 1 1 29 ∧ TF 38 2 6 30 ∧ TF 38 3 7 36 := by (repeat' first | apply And.intro | unfold TF) <;> kernel_rfl
@[go_sem] theorem ty39 : TY 39 1 24 (some false) (some 53) none none false none false false (.imm 0 [] true) := by (repeat' apply And.intro) <;> kernel_rfl
@[go_sem] theorem ty40 : TY 40 1 24 (some false) (some 9) none none false none false false (.imm 0 [] true) := by (repeat' apply And.intro) <;> kernel_rfl
@[go_sem] theorem ty42 : TY 42 7 72 (some true) none none none false none false false (.agg [.imm 0 [] true, .str .empty, .bool false, .bool false, .bool false, .bool false, .imm 0 [] true]) ∧ tplaces Tryz.prog 42 = some [(0, 1), (1, 1), (2, 1), (3, 1), (4, 1), (5, 1), (6, 1)] ∧ TF 42 0 0 39 ∧ TF 42 1 1 9 ∧ TF 42 2 2 4 ∧ TF 42 3 3 4 ∧ TF 42 4 4 4 ∧ TF 42 5 5 4 ∧ TF 42 6 6 40 := by (repeat' first | apply And.intro | unfold TF) <;> kernel_rfl
@[go_sem] theorem ty45 : TY 45 1 8 (some false) none none none false (some .i64) false false (.int .i64 0) := by (repeat' apply And.intro) <;> kernel_rfl
@[go_sem] theorem ty50 : TY 50 1 8 (some false) none none none false none false false .nilf := by (repeat' apply And.intro) <;> kernel_rfl
@[go_sem] theorem ty53 : TY 53 3 24 (some true) none none none false none false false (.agg [.int .i64 0, .int .i64 0, .int .i64 0]) ∧ tplaces Tryz.prog 53 = some [(0, 1), (1, 1), (2, 1)] ∧ TF 53 0 0 3 ∧ TF 53 1 1 3 ∧ TF 53 2 2 3 := by (repeat' first | apply And.intro | unfold TF) <;> kernel_rfl
@[go_sem] theorem ty65 : TY 65 1 2 (some false) none none none false (some .u16) false false (.int .u16 0) := by (repeat' apply And.intro) <;> kernel_rfl
@[go_sem] theorem ty66 : TY 66 1 8 (some false) none none none false none false false .nilf := by (repeat' apply And.intro) <;> kernel_rfl
@[go_sem] theorem ty68 : TY 68 3 32 (some true) none none none false none false false (.agg [.int .i64 0, .str .empty, .int .i64 0]) ∧ tplaces Tryz.prog 68 = some [(0, 1), (1, 1), (2, 1)] ∧ TF 68 0 0 3 ∧ TF 68 1 1 9 ∧ TF 68 2 2 3 := by (repeat' first | apply And.intro | unfold TF) <;> kernel_rfl
@[go_sem] theorem ty71 : TY 71 6 64 (some true) none none none false none false false (.agg [.int .i64 0, .int .i64 0, .str .empty, .int .i64 0, .str .empty, .bool false]) ∧ tplaces Tryz.prog 71 = some [(0, 1), (1, 1), (2, 1), (3, 1), (4, 1), (5, 1)] ∧ TF 71 0 0 3 ∧ TF 71 1 1 3 ∧ TF 71 2 2 9 ∧ TF 71 3 3 3 ∧ TF 71 4 4 9 ∧ TF 71 5 5 4 := by (repeat' first | apply And.intro | unfold TF) <;> kernel_rfl
@[go_sem] theorem ty72 : TY 72 1 8 (some false) none none none false none false false .nilf := by (repeat' apply And.intro) <;> kernel_rfl
@[go_sem] theorem ty74 : TY 74 2 16 (some true) none none none false none false false (.agg [.int .i64 0, .int .i64 0]) ∧ tplaces Tryz.prog 74 = some [(0, 1), (1, 1)] ∧ TF 74 0 0 3 ∧ TF 74 1 1 3 := by (repeat' first | apply And.intro | unfold TF) <;> kernel_rfl
@[go_sem] theorem ty76 : TY 76 4 32 (some true) none none none false none false false (.agg [.int .i64 0, .int .i64 0, .int .i64 0, .bool false]) ∧ tplaces Tryz.prog 76 = some [(0, 1), (1, 1), (2, 1), (3, 1)] ∧ TF 76 0 0 3 ∧ TF 76 1 1 3 ∧ TF 76 2 2 3 ∧ TF 76 3 3 4 := by (repeat' first | apply And.intro | unfold TF) <;> kernel_rfl
@[go_sem] theorem ty78 : TY 78 1 24 (some false) (some 171) none none false none false false (.imm 0 [] true) := by (repeat' apply And.intro) <;> kernel_rfl
@[go_sem] theorem ty80 : TY 80 11 176 (some true) none none none false none false false (.agg [.int .i64 0, .int .i64 0, .int .i64 0, .str .empty, .imm 0 [] true, .int .i64 0, .int .i64 0, .imm 0 [] true, .imm 0 [] true, .imm 0 [] true, .imm 0 [] true]) ∧ tplaces Tryz.prog 80 = some [(0, 1), (1, 1), (2, 1), (3, 1), (4, 5), (9, 1), (10, 1)] ∧ TF 80 0 0 3 ∧ TF 80 1 1 3 ∧ TF 80 2 2 3 ∧ TF 80 3 3 9 ∧ TF 80 4 4 29 ∧ TF 80 5 9 22 ∧ TF 80 6 10 78 := by (repeat' first | apply And.intro | unfold TF) <;> kernel_rfl
@[go_sem] theorem ty81 : TY 81 1 8 (some false) none none none false none false false .nilf := by (repeat' apply And.intro) <;> kernel_rfl
@[go_sem] theorem ty88 : TY 88 2 32 (some true) none none none false none false false (.agg [.str .empty, .str .empty]) ∧ tplaces Tryz.prog 88 = some [(0, 1), (1, 1)] ∧ TF 88 0 0 9 ∧ TF 88 1 1 9 := by (repeat' first | apply And.intro | unfold TF) <;> kernel_rfl
@[go_sem] theorem ty89 : TY 89 1 8 (some false) none none none false none false false .nilf := by (repeat' apply And.intro) <;> kernel_rfl
@[go_sem] theorem ty91 : TY 91 1 24 (some false) (some 3) none none false none false false (.imm 0 [] true) := by (repeat' apply And.intro) <;> kernel_rfl
@[go_sem] theorem ty98 : TY 98 1 8 (some false) none none none false none false false .nilf := by (repeat' apply And.intro) <;> kernel_rfl
@[go_sem] theorem ty100 : TY 100 3 24 (some true) none none none false none false false (.agg [.nilf, .nilf, .nilf]) ∧ tplaces Tryz.prog 100 = some [(0, 1), (1, 1), (2, 1)] ∧ TF 100 0 0 98 ∧ TF 100 1 1 72 ∧ TF 100 2 2 81 := by (repeat' first | apply And.intro | unfold TF) <;> kernel_rfl
@[go_sem] theorem ty103 : TY 103 1 8 (some false) none none (some (9, 9)) false none false false .nilm := by (repeat' apply And.intro) <;> kernel_rfl
@[go_sem] theorem ty110 : TY 110 6 72 (some true) none none none false none false false (.agg [.int .i64 0, .int .i64 0, .str .empty, .int .i64 0, .int .i64 0, .imm 0 [] true]) ∧ tplaces Tryz.prog 110 = some [(0, 1), (1, 1), (2, 1), (3, 1), (4, 1), (5, 1)] ∧ TF 110 0 0 3 ∧ TF 110 1 1 3 ∧ TF 110 2 2 9 ∧ TF 110 3 3 3 ∧ TF 110 4 4 3 ∧ TF 110 5 5 23 := by (repeat' first | apply And.intro | unfold TF) <;> kernel_rfl
@[go_sem] theorem ty111 : TY 111 1 24 (some false) (some 115) none none false none false false (.imm 0 [] true) := by (repeat' apply And.intro) <;> kernel_rfl
@[go_sem] theorem ty113 : TY 113 2 32 (some true) none none none false none false false (.agg [.int .i64 0, .imm 0 [] true]) ∧ tplaces Tryz.prog 113 = some [(0, 1), (1, 1)] ∧ TF 113 0 0 3 ∧ TF 113 1 1 111 := by (repeat' first | apply And.intro | unfold TF) <;> kernel_rfl
@[go_sem] theorem ty115 : TY 115 4 40 (some true) none none none false none false false (.agg [.int .i64 0, .int .i64 0, .str .empty, .int .i64 0]) ∧ tplaces Tryz.prog 115 = some [(0, 1), (1, 1), (2, 1), (3, 1)] ∧ TF 115 0 0 3 ∧ TF 115 1 1 3 ∧ TF 115 2 2 9 ∧ TF 115 3 3 3 := by (repeat' first | apply And.intro | unfold TF) <;> kernel_rfl
@[go_sem] theorem ty118 : TY 118 1 8 (some false) none none none false none false true .nilp := by (repeat' apply And.intro) <;> kernel_rfl
@[go_sem] theorem ty119 : TY 119 1 24 (some false) (some 5) none none false none false false (.imm 0 [] true) := by (repeat' apply And.intro) <;> kernel_rfl
@[go_sem] theorem ty121 : TY 121 2 32 (some true) none none none false none false false (.agg [.nilp, .imm 0 [] true]) ∧ tplaces Tryz.prog 121 = some [(0, 1), (1, 1)] ∧ TF 121 0 0 118 ∧ TF 121 1 1 119 := by (repeat' first | apply And.intro | unfold TF) <;> kernel_rfl
@[go_sem] theorem ty129 : TY 129 1 8 (some false) none none none false none false false .nilf := by (repeat' apply And.intro) <;> kernel_rfl
@[go_sem] theorem ty137 : TY 137 1 8 (some false) none none (some (3, 3)) false none false false .nilm := by (repeat' apply And.intro) <;> kernel_rfl
@[go_sem] theorem ty138 : TY 138 1 8 (some false) none none (some (142, 3)) false none false false .nilm := by (repeat' apply And.intro) <;> kernel_rfl
@[go_sem] theorem ty142 : TY 142 2 16 (some true) none none none false none false false (.agg [.int .i64 0, .int .i64 0]) ∧ tplaces Tryz.prog 142 = some [(0, 1), (1, 1)] ∧ TF 142 0 0 3 ∧ TF 142 1 1 3 := by (repeat' first | apply And.intro | unfold TF) <;> kernel_rfl
@[go_sem] theorem ty146 : TY 146 1 8 (some false) none none none false none false true .nilp := by (repeat' apply And.intro) <;> kernel_rfl
@[go_sem] theorem ty152 : TY 152 3 16 (some true) none none none false none false false (.agg [.bool false, .bool false, .int .i64 0]) ∧ tplaces Tryz.prog 152 = some [(0, 1), (1, 1), (2, 1)] ∧ TF 152 0 0 4 ∧ TF 152 1 1 4 ∧ TF 152 2 2 3 := by (repeat' first | apply And.intro | unfold TF) <;> kernel_rfl
@[go_sem] theorem ty153 : TY 153 1 8 (some false) none none (some (3, 4)) false none false false .nilm := by (repeat' apply And.intro) <;> kernel_rfl
@[go_sem] theorem ty155 : TY 155 6 48 (some true) none none none false none false false (.agg [.nilm, .nilm, .nilm, .nilm, .nilm, .int .i64 0]) ∧ tplaces Tryz.prog 155 = some [(0, 1), (1, 1), (2, 1), (3, 1), (4, 1), (5, 1)] ∧ TF 155 0 0 137 ∧ TF 155 1 1 153 ∧ TF 155 2 2 153 ∧ TF 155 3 3 153 ∧ TF 155 4 4 153 ∧ TF 155 5 5 3 := by (repeat' first | apply And.intro | unfold TF) <;> kernel_rfl
@[go_sem] theorem ty156 : TY 156 1 24 (some false) (some 91) none none false none false false (.imm 0 [] true) := by (repeat' apply And.intro) <;> kernel_rfl
@[go_sem] theorem ty159 : TY 159 1 8 (some false) none none none false none false false .nilf := by (repeat' apply And.intro) <;> kernel_rfl
@[go_sem] theorem ty164 : TY 164 2 16 (some true) none none none false none false false (.agg [.int .i64 0, .int .i64 0]) ∧ tplaces Tryz.prog 164 = some [(0, 1), (1, 1)] ∧ TF 164 0 0 3 ∧ TF 164 1 1 3 := by (repeat' first | apply And.intro | unfold TF) <;> kernel_rfl
@[go_sem] theorem ty167 : TY 167 1 8 (some false) none none none false none false false .nilf := by (repeat' apply And.intro) <;> kernel_rfl
@[go_sem] theorem ty169 : TY 169 1 24 (some false) (some 173) none none false none false false (.imm 0 [] true) := by (repeat' apply And.intro) <;> kernel_rfl
@[go_sem] theorem ty171 : TY 171 6 112 (some true) none none none false none false false (.agg [.imm 0 [] true, .int .i64 0, .int .i64 0, .imm 0 [] true, .imm 0 [] true, .imm 0 [] true]) ∧ tplaces Tryz.prog 171 = some [(0, 5), (5, 1)] ∧ TF 171 0 0 29 ∧ TF 171 1 5 169 := by (repeat' first | apply And.intro | unfold TF) <;> kernel_rfl
@[go_sem] theorem ty173 : TY 173 7 120 (some true) none none none false none false false (.agg [.int .i64 0, .imm 0 [] true, .int .i64 0, .int .i64 0, .imm 0 [] true, .imm 0 [] true, .imm 0 [] true]) ∧ tplaces Tryz.prog 173 = some [(0, 1), (1, 5), (6, 1)] ∧ TF 173 0 0 3 ∧ TF 173 1 1 29 ∧ TF 173 2 6 22 := by (repeat' first | apply And.intro | unfold TF) <;> kernel_rfl
@[go_sem] theorem ty177 : TY 177 1 8 (some false) none none none false none false true .nilp := by (repeat' apply And.intro) <;> kernel_rfl
@[go_sem] theorem ty182 : TY 182 4 40 (some true) none none none false none false false (.agg [.imm 0 [] true, .bool false, .bool false, .int .i64 0]) ∧ tplaces Tryz.prog 182 = some [(0, 1), (1, 3)] ∧ TF 182 0 0 22 ∧ TF 182 1 1 152 := by (repeat' first | apply And.intro | unfold TF) <;> kernel_rfl
@[go_sem] theorem ty190 : TY 190 1 8 (some false) none none none false none false false .nilf := by (repeat' apply And.intro) <;> kernel_rfl
@[go_sem] theorem ty191 : TY 191 1 24 (some false) (some 4) none none false none false false (.imm 0 [] true) := by (repeat' apply And.intro) <;> kernel_rfl
@[go_sem] theorem ty195 : TY 195 1 8 (some false) none none none false none false false .nilf := by (repeat' apply And.intro) <;> kernel_rfl
@[go_sem] theorem ty199 : TY 199 1 8 (some false) none none none false none false true .nilp := by (repeat' apply And.intro) <;> kernel_rfl
@[go_sem] theorem ty201 : TY 201 1 8 (some false) none none none false none false false .nilf := by (repeat' apply And.intro) <;> kernel_rfl
@[go_sem] theorem ty206 : TY 206 1 8 (some false) none none none false none false false .nilf := by (repeat' apply And.intro) <;> kernel_rfl
@[go_sem] theorem ty208 : TY 208 1 8 (some false) none none (some (142, 4)) false none false false .nilm := by (repeat' apply And.intro) <;> kernel_rfl
@[go_sem] theorem ty209 : TY 209 1 24 (some false) (some 142) none none false none false false (.imm 0 [] true) := by (repeat' apply And.intro) <;> kernel_rfl
@[go_sem] theorem ty212 : TY 212 1 8 (some false) none none none false none false false .nilf := by (repeat' apply And.intro) <;> kernel_rfl
@[go_sem] theorem ty215 : TY 215 1 8 (some false) none none none false none false false .nilf := by (repeat' apply And.intro) <;> kernel_rfl
@[go_sem] theorem ty216 : TY 216 1 24 (some false) (some 45) none none false none false false (.imm 0 [] true) := by (repeat' apply And.intro) <;> kernel_rfl
@[go_sem] theorem ty224 : TY 224 1 8 (some false) none none none false none false false .nilf := by (repeat' apply And.intro) <;> kernel_rfl
@[go_sem] theorem ty231 : TY 231 1 8 (some false) none none none false none false false .nilf := by (repeat' apply And.intro) <;> kernel_rfl
@[go_sem] theorem ty232 : TY 232 1 8 (some false) none none none false none false false .nilf := by (repeat' apply And.intro) <;> kernel_rfl
@[go_sem] theorem ty236 : TY 236 1 8 (some false) none none none false (some .u64) false false (.int .u64 0) := by (repeat' apply And.intro) <;> kernel_rfl
@[go_sem] theorem ty238 : TY 238 1 8 (some false) none none none false none false false .nilf := by (repeat' apply And.intro) <;> kernel_rfl
@[go_sem] theorem ty239 : TY 239 1 8 (some false) none none none false none false false .nilf := by (repeat' apply And.intro) <;> kernel_rfl
@[go_sem] theorem ty243 : TY 243 1 8 (some false) none none none false none false false .nilf := by (repeat' apply And.intro) <;> kernel_rfl
@[go_sem] theorem ty247 : TY 247 1 8 (some false) none none none false none false false .nilf := by (repeat' apply And.intro) <;> kernel_rfl
@[go_sem] theorem ty256 : TY 256 1 8 (some false) none none none false none false false .nilp := by (repeat' apply And.intro) <;> kernel_rfl
@[go_sem] theorem ty259 : TY 259 1 8 (some false) none none none false none false false .nilf := by (repeat' apply And.intro) <;> kernel_rfl
@[go_sem] theorem ty271 : TY 271 1 8 (some false) none none none false none false false .nilf := by (repeat' apply And.intro) <;> kernel_rfl
@[go_sem] theorem ty276 : TY 276 1 8 (some false) none none none false none false false .nilf := by (repeat' apply And.intro) <;> kernel_rfl
@[go_sem] theorem ty277 : TY 277 1 8 (some false) none none none false none false false .nilf := by (repeat' apply And.intro) <;> kernel_rfl
@[go_sem] theorem ty291 : TY 291 1 8 (some false) none none none false none false false .nilf := by (repeat' apply And.intro) <;> kernel_rfl
@[go_sem] theorem ty294 : TY 294 1 8 (some false) none none none false none false false .nilf := by (repeat' apply And.intro) <;> kernel_rfl
@[go_sem] theorem ty298 : TY 298 1 24 (some false) (some 300) none none false none false false (.imm 0 [] true) := by (repeat' apply And.intro) <;> kernel_rfl
@[go_sem] theorem ty300 : TY 300 2 16 (some true) none none none false none false false (.agg [.int .i64 0, .bool false]) ∧ tplaces Tryz.prog 300 = some [(0, 1), (1, 1)] ∧ TF 300 0 0 3 ∧ TF 300 1 1 4 := by (repeat' first | apply And.intro | unfold TF) <;> kernel_rfl
@[go_sem] theorem ty306 : TY 306 24 24 (some true) none (some (24, 5)) none false none false false (.agg [.int .u8 0, .int .u8 0, .int .u8 0, .int .u8 0, .int .u8 0, .int .u8 0, .int .u8 0, .int .u8 0, .int .u8 0, .int .u8 0, .int .u8 0, .int .u8 0, .int .u8 0, .int .u8 0, .int .u8 0, .int .u8 0, .int .u8 0, .int .u8 0, .int .u8 0, .int .u8 0, .int .u8 0, .int .u8 0, .int .u8 0, .int .u8 0]) := by (repeat' apply And.intro) <;> kernel_rfl
@[go_sem] theorem ty307 : TY 307 1 8 (some false) none none none false (some .u64) false false (.int .u64 0) := by (repeat' apply And.intro) <;> kernel_rfl
@[go_sem] theorem ty313 : TY 313 1 8 (some false) none none none false none false false .nilf := by (repeat' apply And.intro) <;> kernel_rfl
@[go_sem] theorem ty319 : TY 319 1 8 (some false) none none none false none false false .nilf := by (repeat' apply And.intro) <;> kernel_rfl
@[go_sem] theorem ty323 : TY 323 6 56 (some true) none none none false none false false (.agg [.int .i64 0, .int .i64 0, .int .i64 0, .int .i64 0, .int .i64 0, .str .empty]) ∧ tplaces Tryz.prog 323 = some [(0, 1), (1, 1), (2, 1), (3, 1), (4, 1), (5, 1)] ∧ TF 323 0 0 3 ∧ TF 323 1 1 3 ∧ TF 323 2 2 3 ∧ TF 323 3 3 3 ∧ TF 323 4 4 3 ∧ TF 323 5 5 9 := by (repeat' first | apply And.intro | unfold TF) <;> kernel_rfl
@[go_sem] theorem ty328 : TY 328 1 4 (some false) none none none false (some .u32) false false (.int .u32 0) := by (repeat' apply And.intro) <;> kernel_rfl
@[go_sem] theorem ty341 : TY 341 20 160 (some true) none (some (20, 307)) none false none false false (.agg [.int .u64 0, .int .u64 0, .int .u64 0, .int .u64 0, .int .u64 0, .int .u64 0, .int .u64 0, .int .u64 0, .int .u64 0, .int .u64 0, .int .u64 0, .int .u64 0, .int .u64 0, .int .u64 0, .int .u64 0, .int .u64 0, .int .u64 0, .int .u64 0, .int .u64 0, .int .u64 0]) := by (repeat' apply And.intro) <;> kernel_rfl
@[go_sem] theorem ty342 : TY 342 65 65 (some true) none (some (65, 5)) none false none false false (.agg [.int .u8 0, .int .u8 0, .int .u8 0, .int .u8 0, .int .u8 0, .int .u8 0, .int .u8 0, .int .u8 0, .int .u8 0, .int .u8 0, .int .u8 0, .int .u8 0, .int .u8 0, .int .u8 0, .int .u8 0, .int .u8 0, .int .u8 0, .int .u8 0, .int .u8 0, .int .u8 0, .int .u8 0, .int .u8 0, .int .u8 0, .int .u8 0, .int .u8 0, .int .u8 0, .int .u8 0, .int .u8 0, .int .u8 0, .int .u8 0, .int .u8 0, .int .u8 0, .int .u8 0, .int .u8 0, .int .u8 0, .int .u8 0, .int .u8 0, .int .u8 0, .int .u8 0, .int .u8 0, .int .u8 0, .int .u8 0, .int .u8 0, .int .u8 0, .int .u8 0, .int .u8 0, .int .u8 0, .int .u8 0, .int .u8 0, .int .u8 0, .int .u8 0, .int .u8 0, .int .u8 0, .int .u8 0, .int .u8 0, .int .u8 0, .int .u8 0, .int .u8 0, .int .u8 0, .int .u8 0, .int .u8 0, .int .u8 0, .int .u8 0, .int .u8 0, .int .u8 0]) := by (repeat' apply And.intro) <;> kernel_rfl
@[go_sem] theorem ty344 : TY 344 1 8 (some false) none none none false (some .i64) false false (.int .i64 0) := by (repeat' apply And.intro) <;> kernel_rfl
@[go_sem] theorem ty352 : TY 352 1 24 (some false) (some 357) none none false none false false (.imm 0 [] true) := by (repeat' apply And.intro) <;> kernel_rfl
@[go_sem] theorem ty357 : TY 357 3 32 (some true) none none none false none false false (.agg [.str .empty, .int .i64 0, .bool false]) ∧ tplaces Tryz.prog 357 = some [(0, 1), (1, 1), (2, 1)] ∧ TF 357 0 0 9 ∧ TF 357 1 1 3 ∧ TF 357 2 2 4 := by (repeat' first | apply And.intro | unfold TF) <;> kernel_rfl
@[go_sem] theorem ty358 : TY 358 1 8 (some false) none none none false none false false .nilf := by (repeat' apply And.intro) <;> kernel_rfl
@[go_sem] theorem ty359 : TY 359 1 24 (some false) (some 323) none none false none false false (.imm 0 [] true) := by (repeat' apply And.intro) <;> kernel_rfl
@[go_sem] theorem ty362 : TY 362 1 8 (some false) none none none false none false false .nilf := by (repeat' apply And.intro) <;> kernel_rfl
@[go_sem] theorem ty369 : TY 369 1 8 (some false) none none none false (some .u64) false false (.int .u64 0) := by (repeat' apply And.intro) <;> kernel_rfl
@[go_sem] theorem ty375 : TY 375 1 8 (some false) none none none false none false false .nilf := by (repeat' apply And.intro) <;> kernel_rfl
@[go_sem] theorem ty376 : TY 376 1 8 (some false) none none none false none false true .nilp := by (repeat' apply And.intro) <;> kernel_rfl
@[go_sem] theorem ty378 : TY 378 7 96 (some true) none none none false none false false (.agg [.str .empty, .int .i64 0, .nilp, .imm 0 [] true, .imm 0 [] true, .int .i64 0, .int .i64 0]) ∧ tplaces Tryz.prog 378 = some [(0, 1), (1, 1), (2, 2), (4, 1), (5, 1), (6, 1)] ∧ TF 378 0 0 9 ∧ TF 378 1 1 3 ∧ TF 378 2 2 121 ∧ TF 378 3 4 352 ∧ TF 378 4 5 3 ∧ TF 378 5 6 45 := by (repeat' first | apply And.intro | unfold TF) <;> kernel_rfl
@[go_sem] theorem ty383 : TY 383 1 8 (some false) none none none false none false false .nilf := by (repeat' apply And.intro) <;> kernel_rfl
@[go_sem] theorem ty385 : TY 385 32 32 (some true) none (some (32, 5)) none false none false false (.agg [.int .u8 0, .int .u8 0, .int .u8 0, .int .u8 0, .int .u8 0, .int .u8 0, .int .u8 0, .int .u8 0, .int .u8 0, .int .u8 0, .int .u8 0, .int .u8 0, .int .u8 0, .int .u8 0, .int .u8 0, .int .u8 0, .int .u8 0, .int .u8 0, .int .u8 0, .int .u8 0, .int .u8 0, .int .u8 0, .int .u8 0, .int .u8 0, .int .u8 0, .int .u8 0, .int .u8 0, .int .u8 0, .int .u8 0, .int .u8 0, .int .u8 0, .int .u8 0]) := by (repeat' apply And.intro) <;> kernel_rfl
@[go_sem] theorem ty386 : TY 386 64 64 (some true) none (some (64, 5)) none false none false false (.agg [.int .u8 0, .int .u8 0, .int .u8 0, .int .u8 0, .int .u8 0, .int .u8 0, .int .u8 0, .int .u8 0, .int .u8 0, .int .u8 0, .int .u8 0, .int .u8 0, .int .u8 0, .int .u8 0, .int .u8 0, .int .u8 0, .int .u8 0, .int .u8 0, .int .u8 0, .int .u8 0, .int .u8 0, .int .u8 0, .int .u8 0, .int .u8 0, .int .u8 0, .int .u8 0, .int .u8 0, .int .u8 0, .int .u8 0, .int .u8 0, .int .u8 0, .int .u8 0, .int .u8 0, .int .u8 0, .int .u8 0, .int .u8 0, .int .u8 0, .int .u8 0, .int .u8 0, .int .u8 0, .int .u8 0, .int .u8 0, .int .u8 0, .int .u8 0, .int .u8 0, .int .u8 0, .int .u8 0, .int .u8 0, .int .u8 0, .int .u8 0, .int .u8 0, .int .u8 0, .int .u8 0, .int .u8 0, .int .u8 0, .int .u8 0, .int .u8 0, .int .u8 0, .int .u8 0, .int .u8 0, .int .u8 0, .int .u8 0, .int .u8 0, .int .u8 0]) := by (repeat' apply And.intro) <;> kernel_rfl
attribute [go_sem] rowT newC nilsC stepE calleeY guardS sop yes evS look putT initSA callee ofValue ofScalar asm takeN spliceN fillS intBin strBin binS isNil keyEq findS setAt flat lenS zOk copyS clearS minS maxS loadS storeS fieldPtr indexPtr bnd sliceS mapOf Out.app appendMake
  SV.cells SV.storable
section
variable (P : Program) (h : Hp) (n : Nat) (t t2 : TypeId)
@[go_sem] theorem bi_len (x : SV) : builtinS P h n .len [t] [x] = match x with
    | .str s => if tstring P t then yes (.int .i64 s.size) else none
    | .imm _ es _ => if (tslice P t).isSome then yes (.int .i64 es.length) else none
    | .sl _ _ _ len _ => if (tslice P t).isSome then yes (.int .i64 len) else none
    | .map o => match h o with | some (.map es) => if (tmap P t).isSome then yes (.int .i64 es.length) else none | _ => none
    | .nils => if (tslice P t).isSome then yes (.int .i64 0) else none
    | _ => none := by cases x <;> rfl
@[go_sem] theorem bi_cap (x : SV) : builtinS P h n .cap [t] [x] = match x with
    | .imm _ es true => if (tslice P t).isSome then yes (.int .i64 es.length) else none
    | .sl _ _ _ len true => if (tslice P t).isSome then yes (.int .i64 len) else none
    | _ => none := by cases x <;> rfl
@[go_sem] theorem bi_copy (d x : SV) : builtinS P h n .copy [t, t2] [d, x] = copyS P h t d x := rfl
@[go_sem] theorem bi_clear (d : SV) : builtinS P h n .clear [t] [d] = clearS P h t d := rfl
@[go_sem] theorem bi_min (ts : List TypeId) (l : List SV) : builtinS P h n .min ts l = (minS l).bind yes := by simp [builtinS]
@[go_sem] theorem bi_max (ts : List TypeId) (l : List SV) : builtinS P h n .max ts l = (maxS l).bind yes := by simp [builtinS]
@[go_sem] theorem bi_delete (o : Nat) (k : SV) : builtinS P h n .delete [t, t2] [.map o, k] = match tmap P t, h o with
    | some (kt, _), some (.map es) =>
      if !keyOk P kt k then none else
      match findS k es 0 with
      | some (some (i, _)) => some { val := .tup [], upd := some (o, some (.map (es.eraseIdx i))) }
      | some none => some { val := .tup [], upd := some (o, some (.map es)) }
      | none => none
    | _, _ => none := rfl
end
theorem follows : Proofs.Tryz.prog.follows .mixedOrders = true := by kernel_rfl
section
variable {E : Env} {P : Program} {N : Nat}
end
attribute [simp] Fz.same
theorem Fz.any {h h2 : Hp} : ∀ (k : Nat) {v r : SV}, Fz (fun _ => none) (fun _ => none) k v r → Fz h h2 k v r
  | 0, _, _, H => H
  | k + 1, v, r, H => by
    have ih : ∀ {us bs : List SV}, All2 (Fz (fun _ => none) (fun _ => none) k) us bs → All2 (Fz h h2 k) us bs := fun H => H.mono fun _ _ => Fz.any k
    rcases H with H | H
    · exact .inl H
    · refine .inr ?_
      split at H
      · trivial
      · obtain ⟨_, _, _, _, _, _, h1, _⟩ := H; cases h1
      · obtain ⟨_, _, h1, _⟩ := H; cases h1
      · exact ih H
      · exact ih H
      · exact ⟨H.1, ih H.2.1, ih H.2.2⟩
      · exact ih H
      · exact ⟨H.1, H.2.1, ih H.2.2.1, H.2.2.2⟩
      · exact H
      · exact H.elim
section
variable {E : Env} {P : Program} {N : Nat}
theorem FR.fz {sa sb : SA} {h h2 : Hp} {c : Cx} {a : Act} (k : Nat) (R : Rel h c) (hs : ∀ o x, h2 o = some x → h o = some x) (A : FR E N sa c a) (hw : ∀ p ∈ sb, Fz h h2 k (look sa p.1) p.2) : FR E N sb (c.less h2) a := by
  refine ⟨A.size, A.defers.mono (less_ext R hs), fun t => ?_⟩
  have key : ∀ l : SA, (∀ p ∈ l, Fz h h2 k (look sa p.1) p.2) → look l t = .junk ∨ Fz h h2 k (look sa t) (look l t) := by
    intro l
    induction l with
    | nil => intro _; exact .inl rfl
    | cons p l ih =>
      intro hl
      obtain ⟨j, x⟩ := p
      simp only [look]
      by_cases e : j = t
      · subst e; simp only [if_true]; exact .inr (hl (j, x) (by simp))
      · simp only [e, if_false]; exact ih fun q hq => hl q (by simp [hq])
  rcases key sb hw with e | e
  · rw [e]; simp [V]
  · exact Fz.sound R hs k e (A.val t)
theorem SWE_fz {code : Code} {Q : Post} {sa sb : SA} {h h2 : Hp} {n m : Nat} (k : Nat) (hs : ∀ o x, h2 o = some x → h o = some x) (hm : n ≤ m) (hw : ∀ p ∈ sb, Fz h h2 k (look sa p.1) p.2) (H : SWE E P N code Q sb h2 m) : SWE E P N code Q sa h n := by
  intro hd c a I R F A
  have F' : Fr m (c.less h2) := fun j hj => F j (Nat.le_trans hm hj)
  refine wpIn_mono (H hd (c.less h2) a (E.ext (less_ext R hs) I) (R.less hs) F' (A.fz k R hs hw)) ?_
  rintro e a' w' ⟨sa', h', n', c', q, hw, R', Fr', A', X⟩
  refine ⟨sa', h', n', c', q, hw, R', Fr', A', ⟨(less_ext R hs).trans X.ext, Nat.le_trans hm X.le, fun j hj => ?_⟩⟩
  exact X.same j (Nat.lt_of_lt_of_le hj hm)
theorem SCallE.fz {f : FuncId} {us bs : List SV} {h h2 : Hp} {n : Nat} {K : SV → Hp → Nat → Prop} (k : Nat) (hs : ∀ o x, h2 o = some x → h o = some x) (hw : All2 (Fz h h2 k) us bs) (H : SCallE E P f bs h2 n K) : SCallE E P f us h n K := by
  refine ⟨H.1, fun c vs I R F A => ?_⟩
  have A' : All2 (V (c.less h2)) bs vs := All2.trans3 (R := V c) (S := Fz h h2 k) (T := V (c.less h2)) (fun a b g h1 h2 => Fz.sound R hs k h2 h1) A hw
  refine (H.2 (c.less h2) vs (E.ext (less_ext R hs) I) (R.less hs) F A').mono ?_
  rintro e w' ⟨u, v, h', n', c', he, q, hw, hv, R', F', X⟩
  exact ⟨u, v, h', n', c', he, q, hw, hv, R', F', ⟨(less_ext R hs).trans X.ext, X.le, X.same⟩⟩
theorem PCall.wk {f : FuncId} {us bs : List SV} {v : SV} (k : Nat) (H : PCall P f bs v) (hw : All2 (Fz (fun _ => none) (fun _ => none) k) us bs) : PCall P f us v := fun h n =>
  SCallE.fz k (fun _ _ e => e) (hw.mono fun _ _ => Fz.any k) (H h n)
mutual
def plainS : SV → Bool
  | .bool _ | .int _ _ | .str _ | .nilp | .nilf | .nilm | .nils | .junk => true
  | .agg cs => plainL cs
  | .tup cs => plainL cs
  | _ => false
def plainL : List SV → Bool
  | [] => true
  | s :: ss => plainS s && plainL ss
end
mutual
theorem V.plain {c c' : Cx} : ∀ {s : SV} {v : Value}, plainS s = true → V c s v → V c' s v
  | .bool _, _, _, h => h
  | .int _ _, _, _, h => h
  | .str _, _, _, h => h
  | .nilp, _, _, h => h
  | .nilf, _, _, h => h
  | .nilm, _, _, h => h
  | .nils, _, _, h => h
  | .junk, _, _, _ => trivial
  | .agg cs, v, hp, h => by rw [V] at *; rw [plainS] at hp; obtain ⟨vs, e, hl, ho⟩ := h; exact ⟨vs, e, VL.plain hp hl, ho⟩
  | .tup cs, v, hp, h => by rw [V] at *; rw [plainS] at hp; obtain ⟨vs, e, hl⟩ := h; exact ⟨vs, e, VL.plain hp hl⟩
  | .fn _ _ _, _, hp, _ => by simp [plainS] at hp
  | .ptr _ _, _, hp, _ => by simp [plainS] at hp
  | .iptr _, _, hp, _ => by simp [plainS] at hp
  | .sl _ _ _ _ _, _, hp, _ => by simp [plainS] at hp
  | .slc _ _ _ _ _, _, hp, _ => by simp [plainS] at hp
  | .imm _ _ _, _, hp, _ => by simp [plainS] at hp
  | .map _, _, hp, _ => by simp [plainS] at hp
  | .yl _, _, hp, _ => by simp [plainS] at hp
theorem VL.plain {c c' : Cx} : ∀ {s : List SV} {v : List Value}, plainL s = true → VL c s v → VL c' s v
  | [], _, _, h => by rw [VL] at *; exact h
  | s :: ss, v, hp, h => by rw [VL] at *; rw [plainL, Bool.and_eq_true] at hp; obtain ⟨u, r, e, h1, h2⟩ := h; exact ⟨u, r, e, V.plain hp.1 h1, VL.plain hp.2 h2⟩
end
theorem PCall.lend {f : FuncId} {us bs : List SV} {v : SV} {h : Hp} {n : Nat} {K : SV → Hp → Nat → Prop} (k : Nat) (H : PCall P f bs v) (hv : plainS v = true) (hw : All2 (Fz h (fun _ => none) k) us bs) (hk : K v h n) : SCallE E P f us h n K := by
  refine ⟨(H h n).1, fun c vs _ R F A => ?_⟩
  have hs : ∀ o x, (fun _ => none : Hp) o = some x → h o = some x := fun _ _ e => by cases e
  have A' : All2 (V (c.less fun _ => none)) bs vs := All2.trans3 (R := V c) (S := Fz h (fun _ => none) k) (T := V (c.less fun _ => none)) (fun a b g h1 h2 => Fz.sound R hs k h2 h1) A hw
  refine ((H (fun _ => none) n).2 (c.less fun _ => none) vs trivial (R.less hs) F A').mono ?_
  rintro e w' ⟨u, v', h', n', c', he, ⟨rfl, rfl, rfl⟩, rfl, hv', R', F', X0⟩
  have hno : ∀ b, ¬ (c.less fun _ => none).own b := fun b ⟨o, x, e, _⟩ => by cases e
  have hρ : ∀ j, c'.ρ j = c.ρ j := fun j => by
    rcases Nat.lt_or_ge j n' with hj | hj
    · exact X0.same j hj
    · rw [F' j hj, F j hj]
  have X : Ext c { c with w := c'.w } := ⟨fun _ _ e => e, X0.ext.size, fun b hb ho => ⟨ho, (X0.ext.keep b hb (hno b)).2⟩, X0.ext.room, X0.ext.os, X0.ext.out, X0.ext.td⟩
  refine ⟨u, v', h, n', { c with w := c'.w }, he, hk, rfl, hv'.plain hv, ⟨fun o x ho => ?_, R.inj2, R.own2⟩, F, ⟨X, Nat.le_refl _, fun _ _ => rfl⟩⟩
  refine (R.obj o x ho).mono X fun b hb => ?_
  exact (X0.ext.keep b ((R.obj o x ho).hold_lt hb) (hno b)).2
theorem PCall.lendU {f : FuncId} {us bs : List SV} {v : SV} {h : Hp} (k : Nat) (foot : List Nat) (H : PCall P f bs v) (hv : plainS v = true) (hw : ∀ h', (∀ j ∈ foot, h' j = h j) → All2 (Fz h' (fun _ => none) k) us bs) : UCallE E P f us foot [] v h := fun h' _n hf =>
  PCall.lend k H hv (hw h' hf) ⟨rfl, rfl, rfl⟩
theorem swp_loopF (hm : P.follows .mixedOrders = true) {x : Code} {Q : Post} {sa : SA} {h : Hp} {n : Nat} {α : Type} (k : Nat) (fr : α → SA) (hp : α → Hp) (I : α → Nat → Prop) (μ : α → Nat) (a0 : α) (hI : I a0 n)
    (hfr : ∀ p ∈ fr a0, Fz h (hp a0) k (look sa p.1) p.2) (hhp : ∀ o y, hp a0 o = some y → h o = some y)
    (round : ∀ a n, I a n → swpE E P N x (thenQ (fun sa' h' n' => ∃ a', μ a' < μ a ∧ I a' n' ∧ (∀ p ∈ fr a', Fz h' (hp a') k (look sa' p.1) p.2) ∧ (∀ o y, hp a' o = some y → h' o = some y)) Q) (fr a) (hp a) n) :
    SWE E P N (.loop x) Q sa h n := by
  refine SWE_loop (μ a0) (fun m sa h n => ∃ a, m = μ a ∧ I a n ∧ (∀ p ∈ fr a, Fz h (hp a) k (look sa p.1) p.2) ∧ (∀ o y, hp a o = some y → h o = some y)) ⟨a0, rfl, hI, hfr, hhp⟩ ?_
  rintro m sa h n ⟨a, rfl, hI, hfr, hhp⟩
  refine SWE_fz k hhp (Nat.le_refl _) hfr (SWE_mono (swp_sound hm _ _ _ _ _ (round a n hI)) ?_)
  refine thenQ_mono fun sa' h' n' ⟨a', h1, h2, h3, h4⟩ => ⟨μ a', h1, a', rfl, h2, h3, h4⟩
end
open Proofs
abbrev FN (f : Func) (n : Nat) (r : List ResultVar) : Prop := f.results.toList = r ∧ f.ntmps = n
@[go_sem] theorem fr6 : FN Tryz.f6 26 [.tmp 4] := ⟨rfl, rfl⟩
@[go_sem] theorem fr12 : FN Tryz.f12 38 [.tmp 4] := ⟨rfl, rfl⟩
@[go_sem] theorem fr16 : FN Tryz.f16 6 [.tmp 2] := ⟨rfl, rfl⟩
@[go_sem] theorem fr19 : FN Tryz.f19 30 [.tmp 4] := ⟨rfl, rfl⟩
@[go_sem] theorem fr20 : FN Tryz.f20 111 [.tmp 4] := ⟨rfl, rfl⟩
@[go_sem] theorem fr21 : FN Tryz.f21 149 [.tmp 4] := ⟨rfl, rfl⟩
@[go_sem] theorem fr23 : FN Tryz.f23 23 [.tmp 2] := ⟨rfl, rfl⟩
@[go_sem] theorem fr26 : FN Tryz.f26 62 [.tmp 2] := ⟨rfl, rfl⟩
@[go_sem] theorem fr30 : FN Tryz.f30 20 [.cell 2 29] := ⟨rfl, rfl⟩
@[go_sem] theorem fr31 : FN Tryz.f31 108 [.tmp 6] := ⟨rfl, rfl⟩
@[go_sem] theorem fr34 : FN Tryz.f34 45 [.tmp 2] := ⟨rfl, rfl⟩
@[go_sem] theorem fr35 : FN Tryz.f35 18 [.cell 4 22, .cell 5 4] := ⟨rfl, rfl⟩
@[go_sem] theorem fr38 : FN Tryz.f38 22 [.tmp 2, .tmp 3] := ⟨rfl, rfl⟩
@[go_sem] theorem fr39 : FN Tryz.f39 14 [.tmp 2] := ⟨rfl, rfl⟩
@[go_sem] theorem fr41 : FN Tryz.f41 24 [.tmp 2] := ⟨rfl, rfl⟩
@[go_sem] theorem fr46 : FN Tryz.f46 2 [.cell 0 100] := ⟨rfl, rfl⟩
@[go_sem] theorem fr49 : FN Tryz.f49 19 [.cell 4 38] := ⟨rfl, rfl⟩
@[go_sem] theorem fr54 : FN Tryz.f54 24 [.tmp 4] := ⟨rfl, rfl⟩
@[go_sem] theorem fr55 : FN Tryz.f55 12 [.tmp 5] := ⟨rfl, rfl⟩
@[go_sem] theorem fr56 : FN Tryz.f56 19 [.cell 3 80, .tmp 4] := ⟨rfl, rfl⟩
@[go_sem] theorem fr57 : FN Tryz.f57 9 [.tmp 4] := ⟨rfl, rfl⟩
@[go_sem] theorem fr58 : FN Tryz.f58 7 [.tmp 3] := ⟨rfl, rfl⟩
@[go_sem] theorem fr59 : FN Tryz.f59 9 [.tmp 4] := ⟨rfl, rfl⟩
@[go_sem] theorem fr60 : FN Tryz.f60 11 [.tmp 4] := ⟨rfl, rfl⟩
@[go_sem] theorem fr62 : FN Tryz.f62 19 [.tmp 4, .tmp 5] := ⟨rfl, rfl⟩
@[go_sem] theorem fr63 : FN Tryz.f63 24 [.tmp 2] := ⟨rfl, rfl⟩
@[go_sem] theorem fr64 : FN Tryz.f64 14 [.tmp 2] := ⟨rfl, rfl⟩
@[go_sem] theorem fr78 : FN Tryz.f78 15 [.tmp 2] := ⟨rfl, rfl⟩
@[go_sem] theorem fr79 : FN Tryz.f79 17 [.tmp 2] := ⟨rfl, rfl⟩
@[go_sem] theorem fr80 : FN Tryz.f80 14 [.tmp 2] := ⟨rfl, rfl⟩
@[go_sem] theorem fr81 : FN Tryz.f81 64 [.tmp 2] := ⟨rfl, rfl⟩
@[go_sem] theorem fr82 : FN Tryz.f82 121 [.tmp 6] := ⟨rfl, rfl⟩
@[go_sem] theorem fr83 : FN Tryz.f83 7 [.tmp 4] := ⟨rfl, rfl⟩
@[go_sem] theorem fr84 : FN Tryz.f84 11 [.tmp 6] := ⟨rfl, rfl⟩
@[go_sem] theorem fr93 : FN Tryz.f93 8 [.tmp 2] := ⟨rfl, rfl⟩
@[go_sem] theorem fr94 : FN Tryz.f94 8 [.tmp 2] := ⟨rfl, rfl⟩
@[go_sem] theorem fr95 : FN Tryz.f95 8 [.tmp 2] := ⟨rfl, rfl⟩
@[go_sem] theorem fr96 : FN Tryz.f96 5 [.tmp 2] := ⟨rfl, rfl⟩
@[go_sem] theorem fr97 : FN Tryz.f97 133 [.tmp 6] := ⟨rfl, rfl⟩
@[go_sem] theorem fr98 : FN Tryz.f98 7 [.tmp 2] := ⟨rfl, rfl⟩
@[go_sem] theorem fr101 : FN Tryz.f101 74 [.tmp 4, .tmp 5, .tmp 6] := ⟨rfl, rfl⟩
@[go_sem] theorem fr105 : FN Tryz.f105 8 [.tmp 2] := ⟨rfl, rfl⟩
@[go_sem] theorem fr108 : FN Tryz.f108 16 [.cell 2 38] := ⟨rfl, rfl⟩
@[go_sem] theorem fr113 : FN Tryz.f113 6 [.tmp 4] := ⟨rfl, rfl⟩
@[go_sem] theorem fr114 : FN Tryz.f114 4 [.cell 2 29] := ⟨rfl, rfl⟩
@[go_sem] theorem fr116 : FN Tryz.f116 109 [.tmp 6] := ⟨rfl, rfl⟩
@[go_sem] theorem fr119 : FN Tryz.f119 19 [.tmp 4] := ⟨rfl, rfl⟩
@[go_sem] theorem fr120 : FN Tryz.f120 8 [.tmp 4] := ⟨rfl, rfl⟩
@[go_sem] theorem fr121 : FN Tryz.f121 24 [.cell 4 80, .tmp 5] := ⟨rfl, rfl⟩
@[go_sem] theorem fr122 : FN Tryz.f122 4 [.cell 2 29] := ⟨rfl, rfl⟩
@[go_sem] theorem fr123 : FN Tryz.f123 20 [] := ⟨rfl, rfl⟩
@[go_sem] theorem fr138 : FN Tryz.f138 20 [.tmp 4] := ⟨rfl, rfl⟩
@[go_sem] theorem fr139 : FN Tryz.f139 79 [.cell 2 45] := ⟨rfl, rfl⟩
@[go_sem] theorem fr140 : FN Tryz.f140 14 [.tmp 2] := ⟨rfl, rfl⟩
@[go_sem] theorem fr141 : FN Tryz.f141 14 [.tmp 2] := ⟨rfl, rfl⟩
@[go_sem] theorem fr142 : FN Tryz.f142 14 [.tmp 2] := ⟨rfl, rfl⟩
@[go_sem] theorem fr143 : FN Tryz.f143 18 [.tmp 4] := ⟨rfl, rfl⟩
@[go_sem] theorem fr144 : FN Tryz.f144 25 [.tmp 3] := ⟨rfl, rfl⟩
@[go_sem] theorem fr145 : FN Tryz.f145 37 [.tmp 4] := ⟨rfl, rfl⟩
@[go_sem] theorem fr146 : FN Tryz.f146 9 [.tmp 3] := ⟨rfl, rfl⟩
@[go_sem] theorem fr147 : FN Tryz.f147 15 [.tmp 2] := ⟨rfl, rfl⟩
@[go_sem] theorem fr148 : FN Tryz.f148 15 [.tmp 6] := ⟨rfl, rfl⟩
@[go_sem] theorem fr149 : FN Tryz.f149 64 [.tmp 4] := ⟨rfl, rfl⟩
@[go_sem] theorem fr150 : FN Tryz.f150 41 [.tmp 6] := ⟨rfl, rfl⟩
@[go_sem] theorem fr151 : FN Tryz.f151 12 [.tmp 5] := ⟨rfl, rfl⟩
@[go_sem] theorem fr152 : FN Tryz.f152 64 [.tmp 8] := ⟨rfl, rfl⟩
@[go_sem] theorem fr153 : FN Tryz.f153 13 [.tmp 5] := ⟨rfl, rfl⟩
@[go_sem] theorem fr154 : FN Tryz.f154 117 [.tmp 6] := ⟨rfl, rfl⟩
@[go_sem] theorem fr155 : FN Tryz.f155 22 [.tmp 4] := ⟨rfl, rfl⟩
@[go_sem] theorem fr156 : FN Tryz.f156 16 [.cell 2 80] := ⟨rfl, rfl⟩
@[go_sem] theorem fr157 : FN Tryz.f157 22 [.tmp 4] := ⟨rfl, rfl⟩
@[go_sem] theorem fr158 : FN Tryz.f158 10 [.cell 2 171] := ⟨rfl, rfl⟩
@[go_sem] theorem fr159 : FN Tryz.f159 8 [.tmp 6] := ⟨rfl, rfl⟩
@[go_sem] theorem fr160 : FN Tryz.f160 143 [.tmp 4] := ⟨rfl, rfl⟩
@[go_sem] theorem fr161 : FN Tryz.f161 33 [.tmp 2, .tmp 3, .tmp 4] := ⟨rfl, rfl⟩
@[go_sem] theorem fr172 : FN Tryz.f172 58 [.cell 2 36] := ⟨rfl, rfl⟩
@[go_sem] theorem fr185 : FN Tryz.f185 6 [.tmp 2] := ⟨rfl, rfl⟩
@[go_sem] theorem fr186 : FN Tryz.f186 99 [.tmp 4] := ⟨rfl, rfl⟩
@[go_sem] theorem fr187 : FN Tryz.f187 25 [.tmp 6] := ⟨rfl, rfl⟩
@[go_sem] theorem fr188 : FN Tryz.f188 6 [.tmp 4] := ⟨rfl, rfl⟩
@[go_sem] theorem fr189 : FN Tryz.f189 15 [.tmp 3] := ⟨rfl, rfl⟩
@[go_sem] theorem fr190 : FN Tryz.f190 9 [.tmp 3] := ⟨rfl, rfl⟩
@[go_sem] theorem fr191 : FN Tryz.f191 57 [.tmp 2] := ⟨rfl, rfl⟩
@[go_sem] theorem fr192 : FN Tryz.f192 41 [.tmp 3] := ⟨rfl, rfl⟩
@[go_sem] theorem fr193 : FN Tryz.f193 9 [.tmp 4] := ⟨rfl, rfl⟩
@[go_sem] theorem fr194 : FN Tryz.f194 9 [.tmp 3] := ⟨rfl, rfl⟩
@[go_sem] theorem fr195 : FN Tryz.f195 9 [.tmp 3] := ⟨rfl, rfl⟩
@[go_sem] theorem fr196 : FN Tryz.f196 13 [.tmp 2] := ⟨rfl, rfl⟩
@[go_sem] theorem fr197 : FN Tryz.f197 56 [.tmp 3] := ⟨rfl, rfl⟩
@[go_sem] theorem fr198 : FN Tryz.f198 63 [.tmp 2] := ⟨rfl, rfl⟩
@[go_sem] theorem fr199 : FN Tryz.f199 20 [.tmp 4] := ⟨rfl, rfl⟩
@[go_sem] theorem fr200 : FN Tryz.f200 26 [.tmp 4] := ⟨rfl, rfl⟩
@[go_sem] theorem fr201 : FN Tryz.f201 164 [.tmp 2] := ⟨rfl, rfl⟩
@[go_sem] theorem fr202 : FN Tryz.f202 29 [.tmp 4] := ⟨rfl, rfl⟩
@[go_sem] theorem fr203 : FN Tryz.f203 77 [.tmp 6] := ⟨rfl, rfl⟩
@[go_sem] theorem fr204 : FN Tryz.f204 22 [.tmp 4] := ⟨rfl, rfl⟩
@[go_sem] theorem fr205 : FN Tryz.f205 12 [.cell 2 173] := ⟨rfl, rfl⟩
@[go_sem] theorem fr206 : FN Tryz.f206 10 [] := ⟨rfl, rfl⟩
@[go_sem] theorem fr207 : FN Tryz.f207 74 [.tmp 8] := ⟨rfl, rfl⟩
@[go_sem] theorem fr208 : FN Tryz.f208 8 [.tmp 4] := ⟨rfl, rfl⟩
@[go_sem] theorem fr210 : FN Tryz.f210 6 [.tmp 2] := ⟨rfl, rfl⟩
@[go_sem] theorem fr211 : FN Tryz.f211 81 [.tmp 4] := ⟨rfl, rfl⟩
@[go_sem] theorem fr217 : FN Tryz.f217 8 [.tmp 2] := ⟨rfl, rfl⟩
@[go_sem] theorem fr218 : FN Tryz.f218 8 [.tmp 2] := ⟨rfl, rfl⟩
@[go_sem] theorem fr219 : FN Tryz.f219 8 [.tmp 2] := ⟨rfl, rfl⟩
@[go_sem] theorem fr220 : FN Tryz.f220 8 [.tmp 2] := ⟨rfl, rfl⟩
@[go_sem] theorem fr221 : FN Tryz.f221 8 [.tmp 2] := ⟨rfl, rfl⟩
@[go_sem] theorem fr244 : FN Tryz.f244 41 [.tmp 2] := ⟨rfl, rfl⟩
@[go_sem] theorem fr245 : FN Tryz.f245 16 [.tmp 6, .tmp 7] := ⟨rfl, rfl⟩
@[go_sem] theorem fr246 : FN Tryz.f246 5 [.tmp 2] := ⟨rfl, rfl⟩
@[go_sem] theorem fr247 : FN Tryz.f247 14 [.tmp 4, .tmp 5] := ⟨rfl, rfl⟩
@[go_sem] theorem fr248 : FN Tryz.f248 46 [] := ⟨rfl, rfl⟩
@[go_sem] theorem fr249 : FN Tryz.f249 26 [.tmp 4] := ⟨rfl, rfl⟩
@[go_sem] theorem fr250 : FN Tryz.f250 19 [.tmp 4] := ⟨rfl, rfl⟩
@[go_sem] theorem fr251 : FN Tryz.f251 21 [.cell 2 323, .tmp 3] := ⟨rfl, rfl⟩
@[go_sem] theorem fr252 : FN Tryz.f252 9 [.tmp 4] := ⟨rfl, rfl⟩
@[go_sem] theorem fr253 : FN Tryz.f253 25 [.tmp 2] := ⟨rfl, rfl⟩
@[go_sem] theorem fr255 : FN Tryz.f255 39 [.tmp 2, .tmp 3] := ⟨rfl, rfl⟩
@[go_sem] theorem fr279 : FN Tryz.f279 19 [.tmp 4] := ⟨rfl, rfl⟩
@[go_sem] theorem fr280 : FN Tryz.f280 15 [.tmp 4] := ⟨rfl, rfl⟩
@[go_sem] theorem fr281 : FN Tryz.f281 8 [.tmp 3] := ⟨rfl, rfl⟩
@[go_sem] theorem fr282 : FN Tryz.f282 35 [.tmp 2, .tmp 3] := ⟨rfl, rfl⟩
@[go_sem] theorem fr283 : FN Tryz.f283 9 [.tmp 4] := ⟨rfl, rfl⟩
@[go_sem] theorem fr284 : FN Tryz.f284 8 [.tmp 3] := ⟨rfl, rfl⟩
@[go_sem] theorem fr285 : FN Tryz.f285 47 [.tmp 0] := ⟨rfl, rfl⟩
@[go_sem] theorem fr286 : FN Tryz.f286 49 [.tmp 6, .tmp 7] := ⟨rfl, rfl⟩
@[go_sem] theorem fr287 : FN Tryz.f287 9 [.tmp 4] := ⟨rfl, rfl⟩
@[go_sem] theorem fr288 : FN Tryz.f288 19 [.tmp 4] := ⟨rfl, rfl⟩
@[go_sem] theorem fr307 : FN Tryz.f307 9 [.tmp 4] := ⟨rfl, rfl⟩
@[go_sem] theorem fr308 : FN Tryz.f308 9 [.tmp 2] := ⟨rfl, rfl⟩
@[go_sem] theorem fr309 : FN Tryz.f309 68 [] := ⟨rfl, rfl⟩
@[go_sem] theorem fr310 : FN Tryz.f310 19 [.tmp 4] := ⟨rfl, rfl⟩
@[go_sem] theorem fr319 : FN Tryz.f319 19 [.tmp 4] := ⟨rfl, rfl⟩
@[go_sem] theorem fr320 : FN Tryz.f320 93 [] := ⟨rfl, rfl⟩
@[go_sem] theorem fr321 : FN Tryz.f321 17 [.tmp 4] := ⟨rfl, rfl⟩
@[go_sem] theorem fr322 : FN Tryz.f322 25 [] := ⟨rfl, rfl⟩
@[go_sem] theorem fr325 : FN Tryz.f325 8 [.tmp 4] := ⟨rfl, rfl⟩
@[go_sem] theorem fr326 : FN Tryz.f326 30 [.tmp 4] := ⟨rfl, rfl⟩
@[go_sem] theorem fr327 : FN Tryz.f327 29 [] := ⟨rfl, rfl⟩
@[go_sem] theorem fr328 : FN Tryz.f328 8 [.tmp 2] := ⟨rfl, rfl⟩
@[go_sem] theorem fr329 : FN Tryz.f329 8 [] := ⟨rfl, rfl⟩
@[go_sem] theorem fr331 : FN Tryz.f331 18 [.tmp 4] := ⟨rfl, rfl⟩
theorem held {α : Type} (a : α) : ∃ b, b = a := ⟨a, rfl⟩
noncomputable def wops : (E : Env) → (P : Program) → (ops : Array Oper) → (Q : SA → Hp → Nat → Prop) → List Oper → SA → Hp → Nat → Prop := Classical.choose (held sopsE)
theorem wops_eq : wops = sopsE := Classical.choose_spec (held sopsE)
noncomputable def wdraw : (E : Env) → (P : Program) → (ops : Array Oper) → (Q : SA → Hp → Nat → Prop) → List Oper → List Rec → SA → Hp → Nat → Prop := Classical.choose (held sdrawE)
theorem wdraw_eq : wdraw = sdrawE := Classical.choose_spec (held sdrawE)
noncomputable def wlk : (E : Env) → (P : Program) → (N : Nat) → Code → Post → SA → Hp → Nat → Prop := Classical.choose (held swpE)
theorem wlk_eq : wlk = swpE := Classical.choose_spec (held swpE)
noncomputable def kont : (E : Env) → (P : Program) → (ops : Array Oper) → (Q : SA → Hp → Nat → Prop) → List Oper → SA → Option Tmp → SV → Hp → Nat → Prop :=
  Classical.choose (held fun E P ops Q rest sa dst v h n => wops E P ops Q rest (putT sa dst v) h n)
@[go_sem] theorem kont_at (E : Env) (P : Program) (ops : Array Oper) (Q : SA → Hp → Nat → Prop) (rest : List Oper) (sa : SA) (dst : Option Tmp) (v : SV) (h : Hp) (n : Nat) :
    kont E P ops Q rest sa dst v h n = wops E P ops Q rest (putT sa dst v) h n := by
  unfold kont; rw [Classical.choose_spec (held fun E P ops Q rest sa dst v h n => wops E P ops Q rest (putT sa dst v) h n)]
noncomputable def kthen : (E : Env) → (P : Program) → (N : Nat) → Code → Post → Post := Classical.choose (held fun E P N b Q => thenQ (swpE E P N b Q) Q)
theorem kthen_eq : kthen = fun E P N b Q => thenQ (swpE E P N b Q) Q := Classical.choose_spec (held fun E P N b Q => thenQ (swpE E P N b Q) Q)
noncomputable def kblock : Nat → Post → Post := Classical.choose (held blockQ)
theorem kblock_eq : kblock = blockQ := Classical.choose_spec (held blockQ)
section
variable (E : Env) (P : Program) (N : Nat) (ops : Array Oper) (a b : Code) (id : Nat) (Q : Post) (K : SA → Hp → Nat → Prop) (sa : SA) (h : Hp) (n : Nat)
@[go_sem] theorem kthen_normal : kthen E P N b Q .normal sa h n = wlk E P N b Q sa h n := by rw [kthen_eq, wlk_eq]; simp only [thenQ]
@[go_sem] theorem kthen_exit : kthen E P N b Q (.exit id) sa h n = Q (.exit id) sa h n := by rw [kthen_eq]; simp only [thenQ]
@[go_sem] theorem kthen_ret : kthen E P N b Q .ret sa h n = Q .ret sa h n := by rw [kthen_eq]; simp only [thenQ]
@[go_sem] theorem kblock_normal : kblock id Q .normal sa h n = Q .normal sa h n := by rw [kblock_eq]; simp only [blockQ]
@[go_sem] theorem kblock_ret : kblock id Q .ret sa h n = Q .ret sa h n := by rw [kblock_eq]; simp only [blockQ]
@[go_sem] theorem kblock_exit (i : Nat) : kblock id Q (.exit i) sa h n = if i = id then Q .normal sa h n else Q (.exit i) sa h n := by rw [kblock_eq]; simp only [blockQ]
@[go_sem] theorem wlk_skip : wlk E P N .skip Q sa h n = Q .normal sa h n := by rw [wlk_eq]; simp only [swpE]
@[go_sem] theorem wlk_seq : wlk E P N (.seq a b) Q sa h n = wlk E P N a (kthen E P N b Q) sa h n := by rw [wlk_eq, kthen_eq]; simp only [swpE]
@[go_sem] theorem wlk_cond (c : Operand) : wlk E P N (.cond c a b) Q sa h n = match evS sa c with | .bool t => if t = true then wlk E P N a Q sa h n else wlk E P N b Q sa h n | _ => False := by rw [wlk_eq]; simp only [swpE] <;> cases evS sa c <;> rfl
@[go_sem] theorem wlk_block : wlk E P N (.block id b) Q sa h n = wlk E P N b (kblock id Q) sa h n := by rw [wlk_eq, kblock_eq]; simp only [swpE]
@[go_sem] theorem wlk_exit : wlk E P N (.exit id) Q sa h n = Q (.exit id) sa h n := by rw [wlk_eq]; simp only [swpE]
@[go_sem] theorem wlk_ret : wlk E P N .ret Q sa h n = Q .ret sa h n := by rw [wlk_eq]; simp only [swpE]
@[go_sem] theorem wlk_region : wlk E P N (.region id ops false) Q sa h n = wops E P ops (Q .normal) ops.toList sa h n := by rw [wlk_eq, wops_eq]; simp only [swpE]
@[go_sem] theorem wlk_drawn : wlk E P N (.region id ops true) Q sa h n = (staticB ops = true ∧ wdraw E P ops (Q .normal) ops.toList [] sa h n) := by rw [wlk_eq, wdraw_eq]; simp only [swpE]
@[go_sem] theorem wlk_loop : wlk E P N (.loop b) Q sa h n = SWE E P N (.loop b) Q sa h n := by rw [wlk_eq]; simp only [swpE]
@[go_sem] theorem wlk_range (g : Operand) (ps : Array Tmp) : wlk E P N (.rangeFunc g ps a b) Q sa h n = SWE E P N (.rangeFunc g ps a b) Q sa h n := by rw [wlk_eq]; simp only [swpE]
@[go_sem] theorem wops_nil : wops E P ops K [] sa h n = K sa h n := by rw [wops_eq]; simp only [sopsE]
@[go_sem] theorem wops_cons (o : Oper) (rest : List Oper) : wops E P ops K (o :: rest) sa h n =
    match guardS ops sa o with | some b => if b = true then stepE E P o sa h n (kont E P ops K rest sa o.dst) else wops E P ops K rest (putT sa o.dst (.tup [])) h n | none => False := by
  unfold kont; rw [Classical.choose_spec (held fun E P ops Q rest sa dst v h n => wops E P ops Q rest (putT sa dst v) h n)]
  rw [wops_eq]; simp only [sopsE]; cases guardS ops sa o <;> rfl
@[go_sem] theorem wdraw_nil (tr : List Rec) : wdraw E P ops K [] tr sa h n = K sa h n := by rw [wdraw_eq]; simp only [sdrawE]
end
def indepD (ops : Array Oper) (i : Nat) (r : Rec) : Nat → List Rec → Bool
  | _, [] => true
  | j, q :: qs => (dirE ops j i || (disjB (keysW q.wr) r.foot && disjB (keysW r.wr) q.foot && disjB (keysW q.new) r.foot)) && indepD ops i r (j + 1) qs
theorem indepD_eq (ops : Array Oper) (i : Nat) (r : Rec) : ∀ (l : List Rec) (j : Nat), indepD ops i r j l = indep ops i r j l
  | [], _ => rfl
  | q :: qs, j => by rw [indepD, indep, indepD_eq ops i r qs, Bool.or_comm]
noncomputable def kdraw : (E : Env) → (P : Program) → (ops : Array Oper) → (Q : SA → Hp → Nat → Prop) → List Oper → List Rec → SA → Rec → Hp → Nat → Prop :=
  Classical.choose (held fun E P ops Q rest tr sa r h n => indepD ops tr.length r 0 tr = true ∧ wdraw E P ops Q rest (tr ++ [r]) (putT sa r.dst r.val) h n)
section
variable (E : Env) (P : Program) (ops : Array Oper) (K : SA → Hp → Nat → Prop) (sa : SA) (h : Hp) (n : Nat)
@[go_sem] theorem kdraw_at (rest : List Oper) (tr : List Rec) (r : Rec) : kdraw E P ops K rest tr sa r h n = (indepD ops tr.length r 0 tr = true ∧ wdraw E P ops K rest (tr ++ [r]) (putT sa r.dst r.val) h n) := by
  unfold kdraw; rw [Classical.choose_spec (held fun E P ops Q rest tr sa r h n => indepD ops tr.length r 0 tr = true ∧ wdraw E P ops Q rest (tr ++ [r]) (putT sa r.dst r.val) h n)]
def CallD (g : FuncId) (us : List SV) (rest : List Oper) (tr : List Rec) (dst : Option Tmp) : Prop :=
  ∃ foot wr v, UCallE E P g us foot wr v h ∧ (∀ k ∈ keysW wr, k ∈ foot) ∧ (∀ k ∈ foot, k < n) ∧ kdraw E P ops K rest tr sa { dst := dst, val := v, foot := foot, wr := wr } (appW h wr) n
def drawS (o : Oper) (rest : List Oper) (tr : List Rec) : Prop :=
  match o.op with
  | .call { callee := .value f, args, .. } =>
    match callee (evS sa f) (args.toList.map (evS sa)) with
    | some (g, us) => CallD E P ops K sa h n g us rest tr o.dst
    | none => False
  | op =>
    match sop P (evS sa) h n op with
    | some out =>
      (∀ k ∈ keysW out.upd.toList ++ footS (evS sa) op, k < n) ∧ kdraw E P ops K rest tr sa { dst := o.dst, val := out.val, foot := keysW out.upd.toList ++ footS (evS sa) op, wr := out.upd.toList, new := (out.new.map fun x => (n, some x)).toList } (out.app h n) (if out.new.isSome then n + 1 else n)
    | none => ∃ v, SemV P (evS sa) o v ∧ kdraw E P ops K rest tr sa { dst := o.dst, val := v } h n
@[go_sem] theorem wdraw_cons (o : Oper) (rest : List Oper) (tr : List Rec) : wdraw E P ops K (o :: rest) tr sa h n =
    match guardS ops sa o with | some b => if b = true then drawS E P ops K sa h n o rest tr else wdraw E P ops K rest (tr ++ [{ dst := o.dst, val := .tup [] }]) (putT sa o.dst (.tup [])) h n | none => False := by
  unfold drawS CallD
  simp only [kdraw_at, indepD_eq]
  rw [wdraw_eq]
  conv => lhs; unfold sdrawE
  cases guardS ops sa o <;> rfl
variable {E}
theorem CallD.pure {g : FuncId} {us : List SV} {rest : List Oper} {tr : List Rec} {dst : Option Tmp} {v : SV} (H : PCall P g us v) (hk : kdraw E P ops K rest tr sa { dst := dst, val := v } h n) : CallD E P ops K sa h n g us rest tr dst :=
  ⟨[], [], v, H.u h, by simp [keysW], by simp, hk⟩
theorem CallD.lend {g : FuncId} {us bs : List SV} {rest : List Oper} {tr : List Rec} {dst : Option Tmp} {v : SV} (k : Nat) (foot : List Nat) (H : PCall P g bs v) (hv : plainS v = true) (hf : ∀ j ∈ foot, j < n) (hw : ∀ h', (∀ j ∈ foot, h' j = h j) → All2 (Fz h' (fun _ => none) k) us bs)
    (hk : kdraw E P ops K rest tr sa { dst := dst, val := v, foot := foot } h n) : CallD E P ops K sa h n g us rest tr dst :=
  ⟨foot, [], v, H.lendU k foot hv hw, by simp [keysW], hf, hk⟩
end
attribute [go_sem] drawS footS keysW Op.operands Call.operands SV.ids List.flatMap_cons List.flatMap_nil
attribute [go_sem] retQ resS packS
abbrev PC (f : FuncId) (args : List SV) (v : SV) : Prop := PCall Tryz.prog f args v
abbrev Old (h : Hp) (n : Nat) : Prop := ∀ o x, h o = some x → o < n ∧ closedO n x = true
theorem retIs {h h' : Hp} {n n' : Nat} {v' v : SV} (ho : Old h n) (hh : ∀ o x, h o = some x → h' o = some x) (e : v' = v) (hc : closed n v = true) : RetS n h' n' v' (Is v h n) := by
  subst e; exact RetS.plain hc ho hh ⟨rfl, rfl, rfl⟩
theorem retFz {h h' : Hp} {n n' : Nat} {v' v : SV} (k : Nat) (ho : Old h n) (hh : ∀ o x, h o = some x → h' o = some x) (e : Fz h' h k v' v) (hc : closed n v = true) : RetS n h' n' v' (Is v h n) :=
  .inr ⟨k, v, h, e, hc, fun o x e => ⟨hh o x e, ho o x e⟩, rfl, rfl, rfl⟩
theorem ret0 {h : Hp} {n n' : Nat} {v' v : SV} (ho : Old h n) (hc : closed n v = true) (e : v' = v) : RetS n h n' v' (Is v h n) := retIs ho (fun _ _ e => e) e hc
theorem hset_old {h : Hp} {n o : Nat} {y : Option SObj} (ho : Old h n) (hn : n ≤ o) {h' : Hp} (hh : ∀ o x, h o = some x → h' o = some x) : ∀ o' x, h o' = some x → hset h' o y o' = some x := by
  intro o' x e
  have := (ho o' x e).1
  have ne : o' ≠ o := by omega
  simp [hset, ne, hh _ _ e]
theorem look_same {h : Hp} : ∀ o x, h o = some x → h o = some x := fun _ _ e => e
theorem go {E : Env} {f : FuncId} {fn : Func} {code : Code} {args : List SV} {h : Hp} {n : Nat} {K : SV → Hp → Nat → Prop} (hf : Tryz.prog.funcs[f]? = some fn) (hb : fn.body = some code)
    (hn : (fn.name != "runtime.NumGoroutine") = true) (hd : Code.dok fn.ntmps code = true) (hl : args.length ≤ fn.ntmps)
    (H : Old h n → wlk (E.call false 0) Tryz.prog fn.ntmps code (retQ Tryz.prog fn n K) (initSA 0 args) h n) : SCallE E Tryz.prog f args h n K :=
  SCall_swp follows hf hb hn hd hl fun _ ho => by rw [← wlk_eq]; exact H ho
theorem goloop {E : Env} {N : Nat} {x : Code} {Q : Post} {sa : SA} {h : Hp} {n : Nat} {α : Type} (k : Nat) (fr : α → SA) (hp : α → Hp) (I : α → Nat → Prop) (μ : α → Nat) (a0 : α) (hI : I a0 n)
    (hfr : ∀ p ∈ fr a0, Fz h (hp a0) k (look sa p.1) p.2) (hhp : ∀ o y, hp a0 o = some y → h o = some y)
    (round : ∀ a n, I a n → wlk E Tryz.prog N x (thenQ (fun sa' h' n' => ∃ a', μ a' < μ a ∧ I a' n' ∧ (∀ p ∈ fr a', Fz h' (hp a') k (look sa' p.1) p.2) ∧ (∀ o y, hp a' o = some y → h' o = some y)) Q) (fr a) (hp a) n) :
    SWE E Tryz.prog N (.loop x) Q sa h n :=
  swp_loopF follows k fr hp I μ a0 hI hfr hhp fun a n ha => by rw [← wlk_eq]; exact round a n ha
@[go_sem] theorem thenQ_normal (K : SA → Hp → Nat → Prop) (Q : Post) : thenQ K Q .normal = K := rfl
@[go_sem] theorem thenQ_exit (K : SA → Hp → Nat → Prop) (Q : Post) (i : Nat) : thenQ K Q (.exit i) = Q (.exit i) := rfl
@[go_sem] theorem thenQ_ret (K : SA → Hp → Nat → Prop) (Q : Post) : thenQ K Q .ret = Q .ret := rfl
attribute [go_sem] closed closedL
theorem nd {ops : Array Oper} {i j : Nat} {r : Rec} {l : List Rec} {R : Prop} (h : indepD ops i r j l = true) (hr : R) : indepD ops i r j l = true ∧ R := ⟨h, hr⟩
theorem sd {ops : Array Oper} {R : Prop} (h : staticB ops = true) (hr : R) : staticB ops = true ∧ R := ⟨h, hr⟩
theorem wr64 {x : Int} (h0 : -4611686018427387904 ≤ x) (h1 : x ≤ 4611686018427387904) : IntKind.i64.wrap x = x := IntWalk.i64_in x (by omega)
theorem PC.use {E : Env} {f : FuncId} {args : List SV} {v : SV} (H : PC f args v) {h : Hp} {n : Nat} {K : SV → Hp → Nat → Prop} (hk : K v h n) : SCallE E Tryz.prog f args h n K := PCall.use H hk
theorem bget {s : ByteArray} {i : Nat} (h : i < s.size) : s[i]? = some s[i] := getElem?_pos s i h
set_option maxRecDepth 10000
def cpLow (b : Int) : Int := if b = 224 then 160 else if b = 240 then 144 else 128
def cpHigh (b : Int) : Int := if b = 237 then 159 else if b = 244 then 143 else 191
def cpSize (b : Int) : Int := if b < 128 then 1 else if b < 194 ∨ 244 < b then 0 else if b < 224 then 2 else if b < 240 then 3 else 4
theorem c287 (b : Int) : PC 161 [.int .u8 b] (.tup [.int .u8 (cpLow b), .int .u8 (cpHigh b), .int .i64 (cpSize b)]) := by
  intro h n
  refine go Tryz.func161 rfl (by kernel_rfl) (by kernel_rfl) (by simp [go_sem]) fun ho => ?_
  by_cases h1 : b < 128 <;> by_cases h2 : b < 194 <;> by_cases h3 : 244 < b <;> by_cases h4 : b < 224 <;> by_cases h5 : b < 240 <;> by_cases h6 : b = 224 <;> by_cases h7 : b = 237 <;> by_cases h8 : b = 240 <;> by_cases h9 : b = 244 <;> try omega
  all_goals
    simp [go_sem, h1, h2, h3, h4, h5, h6, h7, h8, h9, cpLow, cpHigh, cpSize]
    exact ret0 ho rfl (by simp)
def byteAt (s : ByteArray) (i : Nat) : Int := match s[i]? with | some b => b.toNat | none => 0
def cpMore (s : ByteArray) (a n : Nat) : Nat → Int → Int → Nat → Nat × Bool
  | 0, _, _, k => (k, true)
  | f + 1, lo, hi, k => if s.size ≤ a + k ∨ byteAt s (a + k) < lo ∨ hi < byteAt s (a + k) then (k, false) else cpMore s a n f 128 191 (k + 1)
def cpDecode (s : ByteArray) (a : Nat) : Nat × Bool :=
  let b := byteAt s a
  let n := cpSize b
  if n = 0 then (0, false) else if n = 1 then (1, true) else cpMore s a n.toNat (n.toNat - 1) (cpLow b) (cpHigh b) 1
theorem byteAt_lt {s : ByteArray} {i : Nat} (h : i < s.size) : s[i]? = some s[i] ∧ byteAt s i = s[i].toNat := by
  have := bget h
  simp [byteAt, this]
theorem cpSize_le (b : Int) : 0 ≤ cpSize b ∧ cpSize b ≤ 4 := by unfold cpSize; repeat' split <;> omega
theorem c252 (s : ByteArray) (a : Nat) (ha : a < s.size) (hs : s.size ≤ 1099511627776) : PC 101 [.str s, .int .i64 a] (.tup [.junk, .int .i64 (cpDecode s a).1, .bool (cpDecode s a).2]) := by
  intro h n
  refine go Tryz.func101 rfl (by kernel_rfl) (by kernel_rfl) (by simp [go_sem]) fun ho => ?_
  obtain ⟨e1, e2⟩ := byteAt_lt ha
  simp [go_sem, e1, ← e2]
  refine (c287 _).use ?_
  obtain ⟨hz0, hz1⟩ := cpSize_le (byteAt s a)
  simp [go_sem, hz0]
  by_cases h0 : cpSize (byteAt s a) = 0
  · simp [h0]; exact retFz 3 ho look_same (by simp [Fz, All2, cpDecode, h0]) rfl
  by_cases h1 : cpSize (byteAt s a) = 1
  · simp [h1]; exact retFz 3 ho look_same (by simp [Fz, All2, cpDecode, h1]) rfl
  have hD : cpDecode s a = cpMore s a (cpSize (byteAt s a)).toNat ((cpSize (byteAt s a)).toNat - 1) (cpLow (byteAt s a)) (cpHigh (byteAt s a)) 1 := by simp [cpDecode, h0, h1]
  obtain ⟨z, hz⟩ : ∃ z : Nat, cpSize (byteAt s a) = z := ⟨(cpSize (byteAt s a)).toNat, by omega⟩
  rw [hz] at hD h0 h1 hz0 hz1 ⊢
  simp only [h0, h1, if_false]
  rw [hD]
  simp only [Int.toNat_natCast]
  generalize IntKind.i64.wrap _ = p0
  refine goloop 3 (α := Int × Int × Int × Nat) (fun q => [(0, .str s), (1, .int .i64 a), (4, .int .i64 q.1), (5, .int .i64 q.2.2.2), (8, .int .u8 q.2.1), (9, .int .u8 q.2.2.1), (10, .int .i64 z)]) (fun _ => h)
    (fun q m => n ≤ m ∧ 1 ≤ q.2.2.2 ∧ q.2.2.2 ≤ z ∧ cpMore s a z (z - 1) (cpLow (byteAt s a)) (cpHigh (byteAt s a)) 1 = cpMore s a z (z - q.2.2.2) q.2.1 q.2.2.1 q.2.2.2) (fun q => z - q.2.2.2) (p0, cpLow (byteAt s a), cpHigh (byteAt s a), 1) ?_ ?_ look_same ?_
  · exact ⟨Nat.le_refl _, by simp, by simp; omega, rfl⟩
  · simp [look]
  rintro ⟨p, lo, hi, k⟩ m ⟨hm, hk1, hkz, hJ⟩
  by_cases hlt : k < z
  · obtain ⟨f, hf⟩ : ∃ f, z - k = f + 1 := ⟨z - k - 1, by omega⟩
    have hk : z - (k + 1) = f := by omega
    have w1 : IntKind.i64.wrap ((a : Int) + k) = ((a + k : Nat) : Int) := by rw [wr64] <;> omega
    have w2 : IntKind.i64.wrap ((k : Int) + 1) = ((k + 1 : Nat) : Int) := by rw [wr64] <;> omega
    dsimp only at hJ hk1 hkz
    rw [hf, cpMore] at hJ
    by_cases hin : s.size ≤ a + k
    · simp [go_sem, hlt, w1, hin, -Int.natCast_add]
      exact retFz 3 ho look_same (by simp [Fz, All2, hJ, hin]) rfl
    obtain ⟨g1, g2⟩ := byteAt_lt (Nat.lt_of_not_le hin)
    by_cases hlo : byteAt s (a + k) < lo
    · simp [go_sem, hlt, w1, hin, g1, ← g2, hlo, -Int.natCast_add]
      exact retFz 3 ho look_same (by simp [Fz, All2, hJ, hlo]) rfl
    by_cases hhi : hi < byteAt s (a + k)
    · simp [go_sem, hlt, w1, hin, g1, ← g2, hlo, hhi, -Int.natCast_add]
      exact retFz 3 ho look_same (by simp [Fz, All2, hJ, hhi]) rfl
    simp [go_sem, hlt, w1, w2, hin, g1, ← g2, hlo, hhi, -Int.natCast_add]
    rw [if_neg (by simp only [not_or]; exact ⟨hin, hlo, hhi⟩)] at hJ
    refine ⟨_, 128, 191, k + 1, by omega, ⟨hm, by omega, by omega, by rw [hk]; exact hJ⟩, Fz.same, Fz.same, Fz.same, Fz.same⟩
  · have : k = z := by dsimp only at hkz; omega
    subst this
    simp [go_sem]
    rw [Nat.sub_self, cpMore] at hJ
    exact retFz 3 ho look_same (by simp [Fz, All2, hJ]) rfl
theorem cpMore_ge (s : ByteArray) (a n : Nat) : ∀ (f : Nat) (lo hi : Int) (k : Nat), k ≤ (cpMore s a n f lo hi k).1 ∧ (cpMore s a n f lo hi k).1 ≤ k + f
  | 0, _, _, k => by simp [cpMore]
  | f + 1, lo, hi, k => by
    rw [cpMore]
    split
    · simp
    · have := cpMore_ge s a n f 128 191 (k + 1)
      omega
theorem cpDecode_pos {s : ByteArray} {a : Nat} (h : (cpDecode s a).2 = true) : 1 ≤ (cpDecode s a).1 := by
  simp only [cpDecode] at h ⊢
  split
  · rename_i e; simp [e] at h
  · split
    · exact Nat.le_refl _
    · exact (cpMore_ge _ _ _ _ _ _ _).1
theorem cpDecode_le (s : ByteArray) (a : Nat) : (cpDecode s a).1 ≤ 4 := by
  simp only [cpDecode]
  split
  · simp
  · split
    · simp
    · have := (cpMore_ge s a (cpSize (byteAt s a)).toNat ((cpSize (byteAt s a)).toNat - 1) (cpLow (byteAt s a)) (cpHigh (byteAt s a)) 1).2
      have := cpSize_le (byteAt s a)
      omega
def cpFirst (s : ByteArray) (a : Nat) : Int :=
  if _ : a < s.size then if _ : (cpDecode s a).2 = true then cpFirst s (a + (cpDecode s a).1) else a else -1
termination_by s.size - a
decreasing_by
  rename_i h2
  have := cpDecode_pos h2; omega
def cpValid (s : ByteArray) : Bool := decide (cpFirst s 0 < 0)
theorem c182 (s : ByteArray) (hs : s.size ≤ 1099511627776) : PC 41 [.str s] (.int .i64 (cpFirst s 0)) := by
  intro h n
  refine go Tryz.func41 rfl (by kernel_rfl) (by kernel_rfl) (by simp [go_sem]) fun ho => ?_
  simp [go_sem]
  refine goloop 1 (α := Nat) (fun k => [(0, .str s), (3, .int .i64 k)]) (fun _ => h) (fun k m => n ≤ m ∧ k ≤ s.size + 4 ∧ cpFirst s 0 = cpFirst s k) (fun k => s.size + 4 - k) 0 ?_ ?_ look_same ?_
  · exact ⟨Nat.le_refl _, by omega, rfl⟩
  · simp [look]
  rintro k m ⟨hm, hk, hJ⟩
  by_cases hlt : k < s.size
  · simp [go_sem, hlt]
    refine (c252 s k hlt hs).use ?_
    have hp := @cpDecode_pos s k
    have hl := cpDecode_le s k
    have w : IntKind.i64.wrap ((k : Int) + ((cpDecode s k).1 : Int)) = ((k + (cpDecode s k).1 : Nat) : Int) := by rw [wr64] <;> omega
    rw [cpFirst.eq_def s k] at hJ
    by_cases hd : (cpDecode s k).2 = true
    · simp [hlt, hd] at hJ
      simp [go_sem, hd, w, -Int.natCast_add]
      have := hp hd
      exact ⟨k + (cpDecode s k).1, by omega, ⟨hm, by omega, hJ⟩, Fz.same⟩
    · simp [hlt, hd] at hJ
      simp [go_sem, hd]
      exact ret0 ho rfl (by rw [hJ])
  · simp [go_sem, hlt]
    rw [cpFirst.eq_def s k] at hJ
    simp [hlt] at hJ
    exact ret0 ho rfl (by rw [hJ])
theorem c116 (s : ByteArray) (hs : s.size ≤ 1099511627776) : PC 16 [.str s] (.bool (cpValid s)) := by
  intro h n
  refine go Tryz.func16 rfl (by kernel_rfl) (by kernel_rfl) (by simp [go_sem]) fun ho => ?_
  simp [go_sem]
  refine (c182 s hs).use ?_
  simp [go_sem]
  exact ret0 ho rfl (by simp [cpValid])
def cpHead (b : Int) : Bool := !(IntKind.u8.wrap (BitVec.ofInt 8 b &&& BitVec.ofInt 8 192).toNat == 128)
def cpHeads (s : ByteArray) : Nat → Nat
  | 0 => 0
  | k + 1 => cpHeads s k + if cpHead (byteAt s k) then 1 else 0
theorem cpHeads_le (s : ByteArray) : ∀ k, cpHeads s k ≤ k
  | 0 => Nat.le_refl _
  | k + 1 => by have := cpHeads_le s k; simp only [cpHeads]; split <;> omega
theorem c177 (s : ByteArray) (hs : s.size ≤ 1099511627776) : PC 38 [.str s] (.tup [.int .i64 (if cpValid s then cpHeads s s.size else 0), .int .i64 (if cpValid s then 0 else 12)]) := by
  intro h n
  refine go Tryz.func38 rfl (by kernel_rfl) (by kernel_rfl) (by simp [go_sem]) fun ho => ?_
  simp [go_sem]
  refine (c116 s hs).use ?_
  by_cases hv : cpValid s = true
  · simp [go_sem, hv]
    refine goloop 1 (α := Nat) (fun k => [(0, .str s), (2, .int .i64 (cpHeads s k)), (9, .int .i64 s.size), (10, .int .i64 k)]) (fun _ => h) (fun k m => n ≤ m ∧ k ≤ s.size) (fun k => s.size - k) 0 ?_ ?_ look_same ?_
    · exact ⟨Nat.le_refl _, by omega⟩
    · simp [look, cpHeads]
    rintro k m ⟨hm, hk⟩
    by_cases hlt : k < s.size
    · obtain ⟨g1, g2⟩ := byteAt_lt hlt
      have hl := cpHeads_le s k
      have w1 : IntKind.i64.wrap ((k : Int) + 1) = ((k + 1 : Nat) : Int) := by rw [wr64] <;> omega
      have w2 : IntKind.i64.wrap ((cpHeads s k : Int) + 1) = ((cpHeads s k + 1 : Nat) : Int) := by rw [wr64] <;> omega
      simp [go_sem, hlt, ← g2, w1, w2, -Int.natCast_add]
      split
      · rename_i hh
        have hc : cpHead (byteAt s k) = false := by simp only [cpHead, Bool.not_eq_false', beq_iff_eq]; exact hh
        exact ⟨k + 1, by omega, ⟨hm, by omega⟩, by simp [cpHeads, hc], Fz.same⟩
      · rename_i hh
        have hc : cpHead (byteAt s k) = true := by simp only [cpHead, Bool.not_eq_true', beq_eq_false_iff_ne]; exact hh
        exact ⟨k + 1, by omega, ⟨hm, by omega⟩, by simp [cpHeads, hc], Fz.same⟩
    · have : k = s.size := by omega
      subst this
      simp [go_sem]
      exact ret0 ho rfl (by simp)
  · simp [go_sem, hv]
    exact ret0 ho rfl (by simp)
def AccV (z : Nat) (o : Option Nat) (es : List SV) : SV := match o with | none => .imm 0 [] true | some j => .sl j 0 z es.length false
def AccH (o : Option Nat) (es : List SV) (h : Hp) : Hp := match o with | none => h | some j => hset h j (some (.cells (es.flatMap SV.cells)))
structure AccI (n m z : Nat) (o : Option Nat) (es : List SV) : Prop where
  none : o = Option.none → es = []
  lt : ∀ j, o = some j → n ≤ j ∧ j < m
  size : ∀ e ∈ es, e.storable = true ∧ e.cells.length = z
theorem AccI.nil (n m z : Nat) : AccI n m z Option.none [] := ⟨fun _ => rfl, by simp, by simp⟩
theorem flat_len {z : Nat} : ∀ {es : List SV}, (∀ e ∈ es, e.storable = true ∧ e.cells.length = z) → (es.flatMap SV.cells).length = es.length * z
  | [], _ => by simp
  | e :: es, h => by
    have := flat_len (es := es) (z := z) fun x hx => h x (by simp [hx])
    simp [this, (h e (by simp)).2, Nat.add_mul, Nat.add_comm]
theorem AccI.push {n m m' z : Nat} {o : Option Nat} {es : List SV} {e : SV} {j : Nat} (H : AccI n m z o es) (hs : e.storable = true) (he : e.cells.length = z) (h1 : n ≤ j) (h2 : j < m') : AccI n m' z (some j) (es ++ [e]) :=
  ⟨by simp, by rintro k e; cases e; exact ⟨h1, h2⟩, by intro x hx; simp at hx; rcases hx with hx | rfl; exact H.size x hx; exact ⟨hs, he⟩⟩
theorem AccI.mono {n m m' z : Nat} {o : Option Nat} {es : List SV} (H : AccI n m z o es) (hm : m ≤ m') : AccI n m' z o es := ⟨H.none, fun j e => ⟨(H.lt j e).1, Nat.lt_of_lt_of_le (H.lt j e).2 hm⟩, H.size⟩
theorem Old.none {h : Hp} {n j : Nat} (ho : Old h n) (hj : n ≤ j) : h j = none := by
  cases e : h j with
  | none => rfl
  | some x => have := (ho j x e).1; omega
theorem AccH.old {h : Hp} {n m z : Nat} {o : Option Nat} {es : List SV} (ho : Old h n) (H : AccI n m z o es) : ∀ j x, h j = some x → AccH o es h j = some x := by
  cases o with
  | none => exact fun _ _ e => e
  | some k => exact hset_old ho (H.lt k rfl).1 look_same
theorem hset_at (h : Hp) (j : Nat) (x : Option SObj) : hset h j x j = x := by simp [hset]
theorem hset_ne (h : Hp) {j k : Nat} (x : Option SObj) (e : k ≠ j) : hset h j x k = h k := by simp [hset, e]
theorem AccV.fz {h : Hp} {n m z k : Nat} {o : Option Nat} {es : List SV} (ho : Old h n) (H : AccI n m z o es) {h' : Hp} (hh : ∀ j y, AccH o es h j = some y → h' j = some y) : Fz h' h (k + 1) (AccV z o es) (.imm z es false) := by
  cases o with
  | none => rw [H.none rfl]; exact .inr ⟨by simp, .inl rfl, trivial, by simp⟩
  | some j =>
    have hj := hh j (.cells (es.flatMap SV.cells)) (by simp [AccH, hset])
    refine .inr ⟨ho.none (H.lt j rfl).1, by simp, rfl, rfl, _, _, hj, by simp [takeN, flat_len H.size]; rfl, H.size, ?_⟩
    have : ∀ l : List SV, All2 (Fz h' h k) l l := by
      intro l; induction l with
      | nil => trivial
      | cons a l ih => exact ⟨Fz.same, ih⟩
    simp only [← flat_len H.size, List.take_length]
    exact this _
theorem ret_acc {h h' : Hp} {n n' m z : Nat} {o : Option Nat} {es : List SV} {v : SV} (ho : Old h n) (H : AccI n m z o es) (hh : ∀ j y, AccH o es h j = some y → h' j = some y) (hv : v = AccV z o es) (hc : ∀ e ∈ es, closed n e = true) : RetS n h' n' v (Is (.imm z es false) h n) := by
  subst hv
  refine retFz 1 ho (fun j x e => hh j x (AccH.old ho H j x e)) (AccV.fz ho H hh) ?_
  rw [closed]
  exact closedL_iff.2 hc
section
variable {P : Program}
end
abbrev intE : Int → SV := .int .i64
structure Prp where
  key : Int
  value : Int
  deriving DecidableEq
structure Del where
  rev : Int
  move : Int
  deriving DecidableEq
structure Layer where
  rev : Int
  key : Int
  before : Int
  had : Bool
  deriving DecidableEq
structure Head where
  props : List Prp
  ins : Int
  move : Int
  dels : List Del
  layers : List Layer
  deriving DecidableEq
structure Rev where
  id : Int
  author : ByteArray
  time : Int
  deriving DecidableEq
structure Style where
  id : Int
  kind : Int
  name : ByteArray
  base : Int
  next : Int
  props : List Prp
  deriving DecidableEq
structure Level where
  format : Int
  start : Int
  template : ByteArray
  restart : Int
  deriving DecidableEq
structure Lst where
  id : Int
  levels : List Level
  deriving DecidableEq
structure Comment where
  id : Int
  parent : Int
  author : ByteArray
  time : Int
  text : ByteArray
  done : Bool
  deriving DecidableEq
structure Var where
  name : ByteArray
  value : ByteArray
  deriving DecidableEq
structure Settings where
  styles : List Style
  lists : List Lst
  comments : List Comment
  vars : List Var
  deriving DecidableEq
mutual
inductive Item where
  | mk (kind code id : Int) (text : ByteArray) (head : Head) (flow : List Item) (rows : List Row)
inductive Row where
  | mk (head : Head) (cells : List Cell)
inductive Cell where
  | mk (id : Int) (head : Head) (flow : List Item)
end
structure Document where
  flow : List Item
  «end» : Head
  revs : List Rev
  settings : Settings
def Prp.enc (p : Prp) : SV := .agg [intE p.key, intE p.value]
def Del.enc (p : Del) : SV := .agg [intE p.rev, intE p.move]
def Layer.enc (p : Layer) : SV := .agg [intE p.rev, intE p.key, intE p.before, .bool p.had]
abbrev propsE (l : List Prp) : SV := .imm 2 (l.map Prp.enc) false
abbrev delsE (l : List Del) : SV := .imm 2 (l.map Del.enc) false
abbrev layersE (l : List Layer) : SV := .imm 4 (l.map Layer.enc) false
def Head.flat (h : Head) : List SV := [propsE h.props, intE h.ins, intE h.move, delsE h.dels, layersE h.layers]
def Head.enc (h : Head) : SV := .agg h.flat
def Rev.enc (r : Rev) : SV := .agg [intE r.id, .str r.author, intE r.time]
abbrev revsE (l : List Rev) : SV := .imm 3 (l.map Rev.enc) false
def Style.enc (s : Style) : SV := .agg [intE s.id, intE s.kind, .str s.name, intE s.base, intE s.next, propsE s.props]
def Level.enc (l : Level) : SV := .agg [intE l.format, intE l.start, .str l.template, intE l.restart]
abbrev levelsE (l : List Level) : SV := .imm 4 (l.map Level.enc) false
def Lst.enc (l : Lst) : SV := .agg [intE l.id, levelsE l.levels]
def Comment.enc (c : Comment) : SV := .agg [intE c.id, intE c.parent, .str c.author, intE c.time, .str c.text, .bool c.done]
def Var.enc (v : Var) : SV := .agg [.str v.name, .str v.value]
abbrev stylesE (l : List Style) : SV := .imm 6 (l.map Style.enc) false
abbrev listsE (l : List Lst) : SV := .imm 2 (l.map Lst.enc) false
abbrev commentsE (l : List Comment) : SV := .imm 6 (l.map Comment.enc) false
abbrev varsE (l : List Var) : SV := .imm 2 (l.map Var.enc) false
def Settings.flat (s : Settings) : List SV := [stylesE s.styles, listsE s.lists, commentsE s.comments, varsE s.vars]
def Settings.enc (s : Settings) : SV := .agg s.flat
mutual
def Item.enc : Item → SV
  | .mk k c i t h f r => .agg ([intE k, intE c, intE i, .str t] ++ h.flat ++ [.imm 11 (Item.encL f) false, .imm 6 (Row.encL r) false])
def Item.encL : List Item → List SV
  | [] => []
  | x :: l => x.enc :: Item.encL l
def Row.enc : Row → SV
  | .mk h c => .agg (h.flat ++ [.imm 7 (Cell.encL c) false])
def Row.encL : List Row → List SV
  | [] => []
  | x :: l => x.enc :: Row.encL l
def Cell.enc : Cell → SV
  | .mk i h f => .agg ([intE i] ++ h.flat ++ [.imm 11 (Item.encL f) false])
def Cell.encL : List Cell → List SV
  | [] => []
  | x :: l => x.enc :: Cell.encL l
end
theorem Item.encL_eq (l : List Item) : Item.encL l = l.map Item.enc := by induction l with | nil => rfl | cons a l ih => rw [Item.encL, ih]; rfl
theorem Row.encL_eq (l : List Row) : Row.encL l = l.map Row.enc := by induction l with | nil => rfl | cons a l ih => rw [Row.encL, ih]; rfl
theorem Cell.encL_eq (l : List Cell) : Cell.encL l = l.map Cell.enc := by induction l with | nil => rfl | cons a l ih => rw [Cell.encL, ih]; rfl
abbrev itemsE (l : List Item) : SV := .imm 11 (l.map Item.enc) false
abbrev rowsE (l : List Row) : SV := .imm 6 (l.map Row.enc) false
abbrev cellsE (l : List Cell) : SV := .imm 7 (l.map Cell.enc) false
def Item.kind : Item → Int | .mk k _ _ _ _ _ _ => k
def Item.code : Item → Int | .mk _ c _ _ _ _ _ => c
def Item.id : Item → Int | .mk _ _ i _ _ _ _ => i
def Item.text : Item → ByteArray | .mk _ _ _ t _ _ _ => t
def Item.head : Item → Head | .mk _ _ _ _ h _ _ => h
def Item.flow : Item → List Item | .mk _ _ _ _ _ f _ => f
def Item.rows : Item → List Row | .mk _ _ _ _ _ _ r => r
def Row.head : Row → Head | .mk h _ => h
def Row.cells : Row → List Cell | .mk _ c => c
def Cell.id : Cell → Int | .mk i _ _ => i
def Cell.head : Cell → Head | .mk _ h _ => h
def Cell.flow : Cell → List Item | .mk _ _ f => f
theorem Item.enc_eq (x : Item) : x.enc = .agg [intE x.kind, intE x.code, intE x.id, .str x.text, propsE x.head.props, intE x.head.ins, intE x.head.move, delsE x.head.dels, layersE x.head.layers, itemsE x.flow, rowsE x.rows] := by
  cases x; simp [Item.enc, Head.flat, Item.encL_eq, Row.encL_eq]; exact ⟨rfl, rfl, rfl, rfl, rfl, rfl, rfl, rfl, rfl, rfl, rfl⟩
theorem Row.enc_eq (x : Row) : x.enc = .agg [propsE x.head.props, intE x.head.ins, intE x.head.move, delsE x.head.dels, layersE x.head.layers, cellsE x.cells] := by
  cases x; simp [Row.enc, Head.flat, Cell.encL_eq]; exact ⟨rfl, rfl, rfl, rfl, rfl, rfl⟩
theorem Cell.enc_eq (x : Cell) : x.enc = .agg [intE x.id, propsE x.head.props, intE x.head.ins, intE x.head.move, delsE x.head.dels, layersE x.head.layers, itemsE x.flow] := by
  cases x; simp [Cell.enc, Head.flat, Item.encL_eq]; exact ⟨rfl, rfl, rfl, rfl, rfl, rfl, rfl⟩
end Go.Proofs.YthinbkgpjmjfeaaGreatDoor.Sh
