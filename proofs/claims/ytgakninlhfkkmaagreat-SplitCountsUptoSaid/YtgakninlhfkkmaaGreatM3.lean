/- A part of the proof (part 3 of 13). -/
import Derived.Test.YtgakninlhfkkmaaGreatM2
import Derived.Test.YtgakninlhfkkmaaGreatProg
import Derived.KernelRfl
import Derived.Tactics
import Derived.IntWalk
namespace Go.Proofs.YtgakninlhfkkmaaGreat.Sh
section
variable {E : Env} {P : Program} {N : Nat} {ops : Array Oper} {f0 : Nat → SV} {h0 : Hp} {n0 n : Nat} {rs : List Rec}
def unl (listed : Array Bool) : Nat := listed.toList.count false
theorem unl_set {listed : Array Bool} {i : Nat} (hi : i < listed.size) (h : listed.getD i false = false) : unl (listed.setIfInBounds i true) + 1 = unl listed := by
  have hv : listed.toList[i]'(by simpa using hi) = false := by rw [getD_lt hi] at h; simpa using h
  have hpos : 0 < listed.toList.count false := List.count_pos_iff.2 (by rw [← hv]; exact List.getElem_mem _)
  unfold unl
  rw [Array.toList_setIfInBounds, List.count_set (h := by simpa using hi), hv]
  have e1 : (if (false == false) = true then 1 else 0) = 1 := rfl
  have e2 : (if (true == false) = true then 1 else 0) = 0 := rfl
  rw [e1, e2]
  omega
theorem all_listed (hst : staticB ops = true) {listed : Array Bool} (hs : listed.size = ops.size) (hr : Region.ready .any ops listed = []) : ∀ i, i < ops.size → listed.getD i false = true := by
  intro i
  induction i using Nat.strongRecOn with
  | _ i ih =>
    intro hi
    cases h : listed.getD i false with
    | true => rfl
    | false =>
      exfalso
      have hoi : ops[i]? = some ops[i] := by simp [hi]
      have : i ∈ Region.ready .any ops listed := mem_ready.2 ⟨by rw [getD_lt (by omega)] at h ⊢; exact h, ops[i], hoi, fun e he hb => by
        have hlt := staticB_edge hst hoi e he hb
        exact ih e.on hlt (by omega)⟩
      rw [hr] at this; cases this
theorem ready_nil_of {listed : Array Bool} (hs : listed.size = ops.size) (h : unl listed = 0) : Region.ready .any ops listed = [] := by
  cases hr : Region.ready .any ops listed with
  | nil => rfl
  | cons i l =>
    exfalso
    obtain ⟨hun, o, ho, _⟩ := mem_ready.1 (show i ∈ Region.ready .any ops listed by rw [hr]; simp)
    have hlt := (Array.getElem?_eq_some_iff.1 ho).1
    have hF : listed.getD i false = false := by rw [getD_lt (by omega)] at hun ⊢; exact hun
    have := unl_set (by omega) hF
    omega
theorem draw_any (G : Good2 E P N ops f0 h0 n0 n rs) {c0 : Cx} {Qr : Exit → Act → World → Prop}
    (hQ : ∀ c' a', Rel (sel (rs.map Rec.hw) (fun q => decide (q < ops.size)) 0 h0) c' → FRf E N (sel (rs.map Rec.tw) (fun q => decide (q < ops.size)) 0 f0) c' a' → Fr n c' → Ext c0 c' → (∀ j, j < n0 → c'.ρ j = c0.ρ j) → Qr .normal a' c'.w) :
    ∀ (fuel : Nat) (listed : Array Bool) (c : Cx) (a : Act), At E P N ops f0 h0 n0 n rs c0 listed c a → unl listed = fuel → wpAnyIn E.fc 0 P .any ops Qr fuel listed a c.w := by
  have done : ∀ (listed : Array Bool) (c : Cx) (a : Act), At E P N ops f0 h0 n0 n rs c0 listed c a → Region.ready .any ops listed = [] → Qr .normal a c.w := by
    intro listed c a A hr
    have hall := all_listed G.stat A.size hr
    have e : ∀ {α : Type} (l : List (List (Nat × α))) (f : Nat → α), l.length = ops.size → sel l (fun q => listed.getD q false) 0 f = sel l (fun q => decide (q < ops.size)) 0 f := fun l f hl => by
      funext k
      refine sel_agree fun q w _ hw hne => ?_
      have hq := (List.getElem?_eq_some_iff.1 hw).1
      rw [Nat.sub_zero] at hq
      rw [hall q (by omega)] at hne
      simp [show q < ops.size by omega] at hne
    have R := A.rel
    have F := A.fr
    rw [e _ _ (by simp [G.len])] at R F
    exact hQ c a R F A.free A.ext A.same
  intro fuel
  induction fuel with
  | zero =>
    intro listed c a A hf
    have hr := ready_nil_of A.size hf
    exact ⟨hr, done listed c a A hr⟩
  | succ fuel ih =>
    intro listed c a A hf
    refine ⟨done listed c a A, fun i hi => ?_⟩
    obtain ⟨hun, o, ho, _⟩ := mem_ready.1 hi
    have hlt := (Array.getElem?_eq_some_iff.1 ho).1
    have hF : listed.getD i false = false := by rw [getD_lt (by rw [A.size]; exact hlt)] at hun ⊢; exact hun
    have hu := unl_set (by rw [A.size]; exact hlt) hF
    exact draw_step G A hi fun c' a' A' => ih _ c' a' A' (by omega)
theorem draw_sound (G : Good2 E P N ops f0 h0 n0 n rs) (hm : P.follows .mixedOrders = true) {id : Nat} {c : Cx} {a : Act} {Qr : Exit → Act → World → Prop} (hn : n0 ≤ n) (I : E.inv c) (R : Rel h0 c) (F : Fr n0 c) (A : FRf E N f0 c a)
    (hQ : ∀ c' a', Rel (sel (rs.map Rec.hw) (fun q => decide (q < ops.size)) 0 h0) c' → FRf E N (sel (rs.map Rec.tw) (fun q => decide (q < ops.size)) 0 f0) c' a' → Fr n c' → Adv n0 c n c' → Qr .normal a' c'.w) :
    (Code.region id ops true).wpIn E.fc 0 P Qr a c.w := by
  refine wpIn_region_any hm ?_
  have hg : ∀ i, (Array.replicate ops.size false).getD i false = false := fun i => by
    rw [Array.getD_eq_getD_getElem?]
    by_cases hi : i < ops.size <;> simp [hi]
  have hsel : ∀ {α : Type} (l : List (List (Nat × α))) (f : Nat → α), sel l (fun q => (Array.replicate ops.size false).getD q false) 0 f = f := fun l f => by
    funext k; exact sel_not fun q w _ hD => by rw [hg] at hD; cases hD
  have := draw_any G (c0 := c) (Qr := Qr) (fun c' a' R' F' Fr' E' S' => hQ c' a' R' F' Fr' ⟨E', hn, S'⟩) ops.size (Array.replicate ops.size false) c.drew a
    ⟨by simp, fun i o _ hl => (by rw [hg] at hl; cases hl), E.ext c.drew_ext I, (by rw [hsel]; exact R.drew), (by rw [hsel]; exact ⟨A.size, A.defers.mono c.drew_ext, fun t => V.mono c.drew_ext (A.val t)⟩), fun j hj => F j (by omega), c.drew_ext, fun _ _ => rfl,
      fun i r hr _ k hk => F k (G.newlo i r hr k hk).1⟩ (by simp [unl])
  exact this
def disjB (a b : List Nat) : Bool := a.all fun x => !b.contains x
theorem disjB_spec {a b : List Nat} (h : disjB a b = true) : ∀ k ∈ a, k ∉ b := fun k hk hb => by
  have := List.all_eq_true.1 h k hk
  simp at this; exact this hb
def indep (ops : Array Oper) (i : Nat) (r : Rec) : Nat → List Rec → Bool
  | _, [] => true
  | j, q :: qs => ((disjB (keysW q.wr) r.foot && disjB (keysW r.wr) q.foot && disjB (keysW q.new) r.foot) || dirE ops j i) && indep ops i r (j + 1) qs
def sdrawE (E : Env) (P : Program) (ops : Array Oper) (Q : SA → Hp → Nat → Prop) : List Oper → List Rec → SA → Hp → Nat → Prop
  | [], _, sa, h, n => Q sa h n
  | o :: rest, tr, sa, h, n =>
    match guardS ops sa o with
    | none => False
    | some b =>
      if b = true then
      match o.op with
      | .call { callee := .value f, args, .. } =>
        match callee (evS sa f) (args.toList.map (evS sa)) with
        | some (g, aS) => ∃ foot wr v, UCallE E P g aS foot wr v h ∧ (∀ k ∈ keysW wr, k ∈ foot) ∧ (∀ k ∈ foot, k < n) ∧ indep ops tr.length { dst := o.dst, val := v, foot := foot, wr := wr } 0 tr = true ∧
            sdrawE E P ops Q rest (tr ++ [{ dst := o.dst, val := v, foot := foot, wr := wr }]) (putT sa o.dst v) (appW h wr) n
        | none => False
      | op =>
        match sop P (evS sa) h n op with
        | some out =>
          (∀ k ∈ keysW out.upd.toList ++ footS (evS sa) op, k < n) ∧ indep ops tr.length { dst := o.dst, val := out.val, foot := keysW out.upd.toList ++ footS (evS sa) op, wr := out.upd.toList, new := (out.new.map fun x => (n, some x)).toList } 0 tr = true ∧
          sdrawE E P ops Q rest (tr ++ [{ dst := o.dst, val := out.val, foot := keysW out.upd.toList ++ footS (evS sa) op, wr := out.upd.toList, new := (out.new.map fun x => (n, some x)).toList }]) (putT sa o.dst out.val) (out.app h n) (if out.new.isSome then n + 1 else n)
        | none => ∃ v, SemV P (evS sa) o v ∧ indep ops tr.length { dst := o.dst, val := v } 0 tr = true ∧ sdrawE E P ops Q rest (tr ++ [{ dst := o.dst, val := v }]) (putT sa o.dst v) h n
      else sdrawE E P ops Q rest (tr ++ [{ dst := o.dst, val := .tup [] }]) (putT sa o.dst (.tup [])) h n
theorem sel_append {α : Type} {D : Nat → Bool} {l2 : List (List (Nat × α))} : ∀ {l1 : List (List (Nat × α))} {i : Nat} {f : Nat → α}, sel (l1 ++ l2) D i f = sel l2 D (i + l1.length) (sel l1 D i f)
  | [], i, f => rfl
  | w :: l1, i, f => by
    simp only [List.cons_append, sel, List.length_cons]
    rw [sel_append, show i + 1 + l1.length = i + (l1.length + 1) by omega]
theorem sel_pre {α : Type} {l : List (List (Nat × α))} {w : List (Nat × α)} {i : Nat} {f : Nat → α} (hi : i ≤ l.length) : sel (l ++ [w]) (fun q => decide (q < i)) 0 f = sel l (fun q => decide (q < i)) 0 f := by
  rw [sel_append]
  simp only [sel, Nat.zero_add]
  rw [if_neg (by simp; omega)]
theorem sel_last {α : Type} {l : List (List (Nat × α))} {w : List (Nat × α)} {f : Nat → α} : sel (l ++ [w]) (fun q => decide (q < l.length + 1)) 0 f = appW (sel l (fun q => decide (q < l.length)) 0 f) w := by
  rw [sel_append]
  simp only [sel, Nat.zero_add]
  rw [if_pos (by simp)]
  congr 1
  funext k
  refine sel_agree fun q v _ hv hne => ?_
  have hq := (List.getElem?_eq_some_iff.1 hv).1
  rw [Nat.sub_zero] at hq
  simp [hq, show q < l.length + 1 by omega] at hne
structure Pre (E : Env) (P : Program) (N : Nat) (ops : Array Oper) (f0 : Nat → SV) (h0 : Hp) (n0 n : Nat) (tr : List Rec) (f : Nat → SV) (h : Hp) : Prop where
  le : n0 ≤ n
  fr : f = sel (tr.map Rec.tw) (fun q => decide (q < tr.length)) 0 f0
  hp : h = sel (tr.map Rec.hw) (fun q => decide (q < tr.length)) 0 h0
  ok : ∀ (i : Nat) (o : Oper) (r : Rec), ops[i]? = some o → tr[i]? = some r → r.dst = o.dst ∧ (∀ j ∈ keysW r.wr, j ∈ r.foot) ∧
    ((guardF ops (sel (tr.map Rec.tw) (fun q => decide (q < i)) 0 f0) o = some false ∧ r.val = .tup [] ∧ r.foot = [] ∧ r.wr = [] ∧ r.new = []) ∨
     (guardF ops (sel (tr.map Rec.tw) (fun q => decide (q < i)) 0 f0) o = some true ∧
      ∀ m, n ≤ m → StepOk E P N o (sel (tr.map Rec.tw) (fun q => decide (q < i)) 0 f0) (sel (tr.map Rec.hw) (fun q => decide (q < i)) 0 h0) m r))
  ind : ∀ (i j : Nat) (ri rj : Rec), j < i → tr[i]? = some ri → tr[j]? = some rj → dirE ops j i = false →
    (∀ k ∈ keysW rj.wr, k ∉ ri.foot) ∧ (∀ k ∈ keysW ri.wr, k ∉ rj.foot) ∧ (∀ k ∈ keysW rj.new, k ∉ ri.foot)
  newlo : ∀ (i : Nat) (r : Rec), tr[i]? = some r → ∀ k ∈ keysW r.new, n0 ≤ k ∧ k < n
  newne : ∀ (i j : Nat) (ri rj : Rec), i ≠ j → tr[i]? = some ri → tr[j]? = some rj → ∀ k ∈ keysW ri.new, k ∉ keysW rj.new
  footlo : ∀ (i : Nat) (r : Rec), tr[i]? = some r → ∀ k ∈ r.foot, k < n
  newfoot : ∀ (i j : Nat) (ri rj : Rec), j ≤ i → tr[i]? = some ri → tr[j]? = some rj → ∀ k ∈ keysW ri.new, k ∉ rj.foot
theorem indep_spec {i : Nat} {r : Rec} : ∀ {tr : List Rec} {j0 : Nat}, indep ops i r j0 tr = true → ∀ (j : Nat) (q : Rec), tr[j]? = some q → dirE ops (j0 + j) i = false →
    (∀ k ∈ keysW q.wr, k ∉ r.foot) ∧ (∀ k ∈ keysW r.wr, k ∉ q.foot) ∧ (∀ k ∈ keysW q.new, k ∉ r.foot)
  | [], _, _, j, q, hq, _ => by simp at hq
  | x :: tr, j0, h, j, q, hq, hd => by
    simp only [indep, Bool.and_eq_true] at h
    cases j with
    | zero =>
      simp only [List.getElem?_cons_zero, Option.some.injEq] at hq
      subst hq
      rw [Nat.add_zero] at hd
      have h1 := h.1
      rw [hd, Bool.or_false, Bool.and_eq_true, Bool.and_eq_true] at h1
      exact ⟨disjB_spec h1.1.1, disjB_spec h1.1.2, disjB_spec h1.2⟩
    | succ j => exact indep_spec h.2 j q (by simpa using hq) (by rw [show j0 + 1 + j = j0 + (j + 1) by omega]; exact hd)
theorem Pre.snoc {tr : List Rec} {f : Nat → SV} {h : Hp} {n n' : Nat} (A : Pre E P N ops f0 h0 n0 n tr f h) {o : Oper} (ho : ops[tr.length]? = some o) {r : Rec} (hn : n ≤ n') (hdst : r.dst = o.dst) (hwf : ∀ k ∈ keysW r.wr, k ∈ r.foot)
    (hfoot : ∀ k ∈ r.foot, k < n) (hnew : ∀ k ∈ keysW r.new, n ≤ k ∧ k < n') (hind : indep ops tr.length r 0 tr = true)
    (hok : (guardF ops f o = some false ∧ r.val = .tup [] ∧ r.foot = [] ∧ r.wr = [] ∧ r.new = []) ∨ (guardF ops f o = some true ∧ ∀ m, n' ≤ m → StepOk E P N o f h m r)) :
    Pre E P N ops f0 h0 n0 n' (tr ++ [r]) (appW f r.tw) (appW h r.hw) := by
  have hm : ∀ {α : Type} (g : Rec → List (Nat × α)), (tr ++ [r]).map g = tr.map g ++ [g r] := fun g => by simp
  have hl : ∀ {α : Type} (g : Rec → List (Nat × α)), (tr.map g).length = tr.length := fun g => by simp
  have get : ∀ {i : Nat} {q : Rec}, (tr ++ [r])[i]? = some q → (i < tr.length ∧ tr[i]? = some q) ∨ (i = tr.length ∧ q = r) := fun {i q} h => by
    rw [List.getElem?_append] at h
    split at h
    · exact .inl ⟨by assumption, h⟩
    · rename_i hi
      have := (List.getElem?_eq_some_iff.1 h).1
      simp at this
      have e : i = tr.length := by omega
      subst e; simp at h
      exact .inr ⟨rfl, h.symm⟩
  refine ⟨Nat.le_trans A.le hn, ?_, ?_, fun i oi ri hoi hri => ?_, fun i j ri rj hji hri hrj hd => ?_, fun i ri hri k hk => ?_, fun i j ri rj hij hri hrj k hk => ?_, fun i ri hri k hk => ?_, fun i j ri rj hji hri hrj k hk => ?_⟩
  · rw [hm, List.length_append, List.length_singleton]
    have := sel_last (l := tr.map Rec.tw) (w := r.tw) (f := f0)
    rw [hl] at this
    rw [this, ← A.fr]
  · rw [hm, List.length_append, List.length_singleton]
    have := sel_last (l := tr.map Rec.hw) (w := r.hw) (f := h0)
    rw [hl] at this
    rw [this, ← A.hp]
  · rcases get hri with ⟨hi, hri⟩ | ⟨rfl, rfl⟩
    · obtain ⟨g1, g2, g3⟩ := A.ok i oi ri hoi hri
      rw [hm, hm, sel_pre (by rw [hl]; omega), sel_pre (by rw [hl]; omega)]
      refine ⟨g1, g2, g3.imp id fun ⟨x, y⟩ => ⟨x, fun m hm => y m (by omega)⟩⟩
    · rw [ho] at hoi; cases hoi
      rw [hm, hm, sel_pre (by rw [hl]; omega), sel_pre (by rw [hl]; omega), ← A.fr, ← A.hp]
      exact ⟨hdst, hwf, hok⟩
  · rcases get hri with ⟨hi, hri⟩ | ⟨rfl, rfl⟩
    · rcases get hrj with ⟨hj, hrj⟩ | ⟨rfl, rfl⟩
      · exact A.ind i j ri rj hji hri hrj hd
      · omega
    · rcases get hrj with ⟨hj, hrj⟩ | ⟨rfl, rfl⟩
      · exact indep_spec hind j rj hrj (by rw [Nat.zero_add]; exact hd)
      · omega
  · rcases get hri with ⟨hi, hri⟩ | ⟨rfl, rfl⟩
    · have := A.newlo i ri hri k hk; omega
    · have := hnew k hk; have := A.le; omega
  · rcases get hri with ⟨hi, gri⟩ | ⟨rfl, rfl⟩
    · rcases get hrj with ⟨hj, grj⟩ | ⟨rfl, rfl⟩
      · exact A.newne i j ri rj hij gri grj k hk
      · intro h2; have := A.newlo i ri gri k hk; have := hnew k h2; omega
    · rcases get hrj with ⟨hj, grj⟩ | ⟨rfl, rfl⟩
      · intro h2; have := A.newlo j rj grj k h2; have := hnew k hk; omega
      · exact absurd rfl hij
  · rcases get hri with ⟨hi, gri⟩ | ⟨rfl, rfl⟩
    · have := A.footlo i ri gri k hk; omega
    · have := hfoot k hk; omega
  · rcases get hri with ⟨hi, gri⟩ | ⟨rfl, rfl⟩
    · rcases get hrj with ⟨hj, grj⟩ | ⟨rfl, rfl⟩
      · exact A.newfoot i j ri rj hji gri grj k hk
      · omega
    · rcases get hrj with ⟨hj, grj⟩ | ⟨rfl, rfl⟩
      · intro h2; have := A.footlo j rj grj k h2; have := hnew k hk; omega
      · intro h2; have := hfoot k h2; have := hnew k hk; omega
end
section
variable {E : Env} {P : Program} {N : Nat} {ops : Array Oper} {f0 : Nat → SV} {h0 : Hp} {n0 n : Nat}
theorem look_put (sa : SA) (dst : Option Tmp) (v : SV) (r : Rec) (hd : r.dst = dst) (hv : r.val = v) : look (putT sa dst v) = appW (look sa) r.tw := by
  funext t
  unfold Rec.tw
  rw [hd, hv]
  cases dst with
  | none => rfl
  | some d =>
    show (if d = t then v else look sa t) = if t = d then v else look sa t
    by_cases e : d = t
    · rw [if_pos e, if_pos e.symm]
    · rw [if_neg e, if_neg (Ne.symm e)]
theorem app_hw (h : Hp) (k : Nat) (out : Out) (r : Rec) (hw : r.wr = out.upd.toList) (hn : r.new = (out.new.map fun x => (k, some x)).toList) : out.app h k = appW h r.hw := by
  unfold Rec.hw Out.app
  rw [hw, hn]
  cases out.upd with
  | none => cases out.new <;> rfl
  | some p => obtain ⟨j, x⟩ := p; cases out.new <;> rfl
theorem FRf.ev {f : Nat → SV} {c : Cx} {a : Act} (F : FRf E N f c a) (x : Operand) : V c (evF f x) (a.eval x) := by
  cases x with
  | tmp t => exact F.val t
  | const v => exact V_ofValue c v
  | global g => simp [evF, V]
  | func g => simp [evF, Act.eval, V, VL]
theorem sop_number {ev : Operand → SV} {h : Hp} {k q : Nat} {op : Op} {out : Out} (hs : sop P ev h k op = some out) (hn : out.new = none) : sop P ev h q op = some out := by
  cases op with
  | alloc e => simp only [sop] at hs; split at hs <;> cases hs; cases hn
  | box e x => simp only [sop] at hs; split at hs <;> cases hs; cases hn
  | buildSlice t l ps =>
    simp only [sop] at hs
    split at hs <;> try cases hs
    split at hs <;> try cases hs
    simp only [Option.bind_eq_some_iff] at hs
    obtain ⟨cs, _, e⟩ := hs
    cases e; cases hn
  | makeMap t r => simp only [sop] at hs; split at hs <;> cases hs; cases hn
  | makeSlice t l c =>
    simp only [sop] at hs
    split at hs <;> try cases hs
    split at hs <;> try cases hs
    cases hn
  | call cl =>
    obtain ⟨callee, args, ts⟩ := cl
    cases callee with
    | value f => exact hs
    | invoke r m => exact hs
    | builtin b =>
      simp only [sop] at hs ⊢
      unfold builtinS at hs ⊢
      split at hs <;> try exact hs
      split at hs
      rotate_left
      · exfalso
        unfold appendMake at hs
        split at hs <;> try cases hs
        split at hs <;> cases hs
        cases hn
      rename_i ht2
      rw [if_pos ht2]
      unfold appendS at hs ⊢
      split at hs <;> try cases hs
      rename_i e he
      simp only at hs
      split at hs <;> try cases hs
      rename_i m ys hm hys
      simp only []
      split at hs <;> try cases hs
      rename_i hc
      rw [if_neg hc]
      split at hs
      · rename_i h0; rw [if_pos h0]; exact hs
      · exfalso
        split at hs
        · split at hs <;> cases hs; cases hn
        · split at hs <;> try cases hs
          split at hs <;> cases hs; cases hn
        · cases hs
  | _ => exact hs
theorem stepOk_plain {o : Oper} {f : Nat → SV} {h : Hp} {out : Out} (hs : sop P (evF f) h n o.op = some out) {m : Nat} (hm : (if out.new.isSome then n + 1 else n) ≤ m) :
    StepOk E P N o f h m { dst := o.dst, val := out.val, foot := keysW out.upd.toList ++ footS (evF f) o.op, wr := out.upd.toList, new := (out.new.map fun x => (n, some x)).toList } := by
  intro f' h' c a Kr Qr hev hh I R F hnew A hK
  refine ⟨fun _ _ => trivial, ?_⟩
  have happ : out.app h' n = appW h' (Rec.hw { dst := o.dst, val := out.val, foot := keysW out.upd.toList ++ footS (evF f) o.op, wr := out.upd.toList, new := (out.new.map fun x => (n, some x)).toList }) := app_hw h' n out _ rfl rfl
  have hs' : sop P (evF f') h' n o.op = some out := by
    rw [← hs]
    refine (sop_local (fun x hx => (hev x hx).symm) fun j hj => ?_).symm
    exact (hh j (List.mem_append.2 (.inr hj))).symm
  by_cases hn : out.new.isSome = true
  · obtain ⟨x, hx⟩ := Option.isSome_iff_exists.1 hn
    have hρn : c.ρ n = none := hnew n (by show n ∈ keysW ((out.new.map fun x => (n, some x)).toList); rw [hx]; simp [keysW])
    obtain ⟨u, c', hr, hv, R', X, hρ⟩ := sop_sound (ev := a.eval) hs' R hρn fun x _ => A.ev x
    have := hK c' u hv (happ ▸ R') (fun j hj => by
      rw [hρ j (.inr (by rw [if_pos hn] at hm; omega))]; exact F j hj) X (fun j hj => hρ j (.inr fun e => hj (by subst e; show j ∈ keysW ((out.new.map fun x => (j, some x)).toList); rw [hx]; simp [keysW])))
    rw [Oper.semAt_eq _ _ _ (sop_noDefer hs)]
    rcases hr with hr | ⟨rfl, hr⟩ <;> (rw [hr]; exact this)
  · have hnone : out.new = none := by cases h : out.new <;> simp [h] at hn ⊢
    have free : ∃ q, c.ρ q = none := ⟨m, F m (Nat.le_refl _)⟩
    obtain ⟨q, hq⟩ := free
    have hs2 : sop P (evF f') h' q o.op = some out := sop_number hs' hnone
    obtain ⟨u, c', hr, hv, R', X, hρ⟩ := sop_sound (ev := a.eval) hs2 R hq fun x _ => A.ev x
    have eapp : out.app h' q = out.app h' n := by unfold Out.app; rw [hnone]
    have := hK c' u hv (happ ▸ eapp ▸ R') (fun j hj => by
      rw [hρ j (.inl (by simp [hnone]))]; exact F j hj) X (fun j hj => hρ j (.inl (by simp [hnone])))
    rw [Oper.semAt_eq _ _ _ (sop_noDefer hs)]
    rcases hr with hr | ⟨rfl, hr⟩ <;> (rw [hr]; exact this)
theorem stepOk_call {o : Oper} {f : Nat → SV} {h : Hp} {x : Operand} {args : Array Operand} {ts : Array TypeId} {g : FuncId} {aS : List SV} {foot : List Nat} {wr : List (Nat × Option SObj)} {v : SV}
    (ho : o.op = .call { callee := .value x, args := args, argTypes := ts }) (hc : callee (evF f x) (args.toList.map (evF f)) = some (g, aS)) (hU : UCallE E P g aS foot wr v h) {m : Nat} :
    StepOk E P N o f h m { dst := o.dst, val := v, foot := foot, wr := wr } := by
  intro f' h' c a Kr Qr hev hh I R F hnew A hK
  refine ⟨fun _ _ => trivial, ?_⟩
  have ev1 : evF f' x = evF f x := hev x (by rw [ho]; simp [Op.operands, Call.operands])
  have ev2 : args.toList.map (evF f') = args.toList.map (evF f) := List.map_congr_left fun y hy => hev y (by rw [ho]; simp [Op.operands, Call.operands]; exact .inr (by simpa using hy))
  have hcall := hU h' m hh
  have hf := A.ev x
  rw [ev1] at hf
  unfold callee at hc
  split at hc <;> try cases hc
  rename_i g' y z e1
  rw [e1, V] at hf
  obtain ⟨xs, ys, hfv, h1, h2⟩ := hf
  have hargs : All2 (V c) (y ++ args.toList.map (evF f) ++ z) (xs ++ (args.map a.eval).toList ++ ys) := by
    rw [← ev2]
    exact All2.append (All2.append (VL_iff.1 h1) (map_rel args fun w _ => A.ev w)) (VL_iff.1 h2)
  obtain ⟨hok, hcall⟩ := hcall
  have hc := hcall c _ I R F hargs
  unfold okFn at hok
  cases hfn : P.funcs[g]? with
  | none => simp [hfn] at hok
  | some fn =>
    simp only [hfn, Bool.and_eq_true, bne_iff_ne, ne_eq] at hok
    have hrun : (execOp a.eval o).run P c.w = .ok (.enter g (xs.toArray ++ args.map a.eval ++ ys.toArray)) c.w := by
      have hb : fn.body ≠ none := by intro e; simp [e] at hok
      simp [execOp, ho, resolve, Deferred.ofValue, hfv, invoke, callFunc, hfn, hok.2, hb]
    have earr : xs.toArray ++ args.map a.eval ++ ys.toArray = (xs ++ (args.map a.eval).toList ++ ys).toArray := by
      apply Array.ext'; simp
    rw [Oper.semAt_eq _ _ _ (by rw [ho]; simp), hrun, Oper.uponIn_enter, earr]
    refine ⟨fun h => by simp [Env.fc, Fence.wide] at h, (callsIn_wide.2 (hc.mono fun e w' ⟨u, v', h2', n', c', he, ⟨hv1, hh1, hn1⟩, hw, hv, R', F', A'⟩ => ?_) : CallsIn Fence.wide _ P g _ c.w _)⟩
    subst he; subst hw; subst hv1; subst hh1; subst hn1
    refine hK c' u hv (by simpa [Rec.hw] using R') F' A'.ext fun j _ => ?_
    rcases Nat.lt_or_ge j n' with hj | hj
    · exact A'.same j hj
    · rw [F j hj, F' j hj]
theorem stepOk_sem {o : Oper} {f : Nat → SV} {h : Hp} {v : SV} (H : SemV P (evF f) o v) {m : Nat} : StepOk E P N o f h m { dst := o.dst, val := v } := by
  intro f' h' c a Kr Qr hev hh I R F hnew A hK
  refine ⟨fun _ _ => trivial, ?_⟩
  rw [Oper.semAt_eq _ _ _ H.1]
  obtain ⟨u, hr, hv⟩ := H.2 c a.eval (fun _ => rfl) fun x hx => by rw [← hev x hx]; exact A.ev x
  rw [hr]
  exact hK c u hv (by simpa [Rec.hw, appW] using R) F (Ext.refl c) fun _ _ => rfl
theorem sdraw_sound {Q : SA → Hp → Nat → Prop} : ∀ (rest : List Oper) (tr : List Rec) (sa : SA) (h : Hp) (n : Nat), Pre E P N ops f0 h0 n0 n tr (look sa) h → ops.toList.drop tr.length = rest → tr.length ≤ ops.size →
    sdrawE E P ops Q rest tr sa h n → ∃ rs sa' h' n', Pre E P N ops f0 h0 n0 n' rs (look sa') h' ∧ rs.length = ops.size ∧ Q sa' h' n'
  | [], tr, sa, h, n, A, hd, hle, H => ⟨tr, sa, h, n, A, by have := List.drop_eq_nil_iff.1 hd; simp at this; omega, H⟩
  | o :: rest, tr, sa, h, n, A, hd, hle, H => by
    have hlt : tr.length < ops.size := by
      rcases Nat.lt_or_ge tr.length ops.size with h | h
      · exact h
      · rw [List.drop_of_length_le (by simpa using h)] at hd; cases hd
    have ho : ops[tr.length]? = some o := by
      have : (ops.toList.drop tr.length)[0]? = some o := by rw [hd]; rfl
      rw [List.getElem?_drop] at this; simpa using this
    have hd' : ∀ r : Rec, ops.toList.drop (tr ++ [r]).length = rest := fun r => by
      rw [List.length_append, List.length_singleton, ← List.drop_drop, hd]; rfl
    have hle' : ∀ r : Rec, (tr ++ [r]).length ≤ ops.size := fun r => by simp; omega
    have plain : ∀ out, sop P (evS sa) h n o.op = some out →
        ((∀ k ∈ keysW out.upd.toList ++ footS (evS sa) o.op, k < n) ∧ indep ops tr.length { dst := o.dst, val := out.val, foot := keysW out.upd.toList ++ footS (evS sa) o.op, wr := out.upd.toList, new := (out.new.map fun x => (n, some x)).toList } 0 tr = true ∧
          sdrawE E P ops Q rest (tr ++ [{ dst := o.dst, val := out.val, foot := keysW out.upd.toList ++ footS (evS sa) o.op, wr := out.upd.toList, new := (out.new.map fun x => (n, some x)).toList }]) (putT sa o.dst out.val) (out.app h n) (if out.new.isSome then n + 1 else n)) →
        guardS ops sa o = some true → ∃ rs sa' h' n', Pre E P N ops f0 h0 n0 n' rs (look sa') h' ∧ rs.length = ops.size ∧ Q sa' h' n' := fun out hs ⟨h1, h2, h3⟩ hg => by
      refine sdraw_sound rest _ _ _ _ ?_ (hd' _) (hle' _) h3
      have := A.snoc (n' := if out.new.isSome then n + 1 else n) ho (r := { dst := o.dst, val := out.val, foot := keysW out.upd.toList ++ footS (evS sa) o.op, wr := out.upd.toList, new := (out.new.map fun x => (n, some x)).toList })
        (by split <;> omega) rfl (fun k hk => List.mem_append.2 (.inl hk)) h1 (fun k hk => by
          cases hn : out.new with
          | none => rw [hn] at hk; simp [keysW] at hk
          | some x => rw [hn] at hk; simp [keysW] at hk; subst hk; simp) h2
        (.inr ⟨by rw [← guardS_eq]; exact hg, fun m hm => by rw [evS_eq] at hs ⊢; exact stepOk_plain hs hm⟩)
      rw [look_put sa o.dst out.val { dst := o.dst, val := out.val, foot := keysW out.upd.toList ++ footS (evS sa) o.op, wr := out.upd.toList, new := (out.new.map fun x => (n, some x)).toList } rfl rfl,
        app_hw h n out { dst := o.dst, val := out.val, foot := keysW out.upd.toList ++ footS (evS sa) o.op, wr := out.upd.toList, new := (out.new.map fun x => (n, some x)).toList } rfl rfl]
      exact this
    simp only [sdrawE] at H
    split at H
    case h_1 => exact H.elim
    rename_i b hg
    cases b
    case false =>
      simp only [Bool.false_eq_true, if_false] at H
      refine sdraw_sound rest _ _ _ _ ?_ (hd' _) (hle' _) H
      have := A.snoc (n' := n) ho (r := { dst := o.dst, val := .tup [] }) (Nat.le_refl _) rfl (by simp [keysW]) (by simp) (by simp [keysW]) (by
        have : ∀ (l : List Rec) (j : Nat), indep ops tr.length { dst := o.dst, val := .tup [] } j l = true := by
          intro l
          induction l with
          | nil => intro j; rfl
          | cons q l ih =>
            intro j
            simp only [indep, ih, Bool.and_true]
            have d1 : ∀ a : List Nat, disjB a [] = true := fun a => by simp [disjB]
            rw [d1, d1]
            simp [disjB, keysW]
        exact this tr 0) (.inl ⟨by rw [← guardS_eq]; exact hg, rfl, rfl, rfl, rfl⟩)
      rw [look_put sa o.dst (.tup []) { dst := o.dst, val := .tup [] } rfl rfl]
      exact this
    case true =>
      rw [if_pos rfl] at H
      split at H
      · rename_i f args ts hop
        split at H
        · rename_i g aS hc
          obtain ⟨foot, wr, v, hU, hwf, hfoot, hind, hrest⟩ := H
          refine sdraw_sound rest _ _ _ _ ?_ (hd' _) (hle' _) hrest
          have := A.snoc (n' := n) ho (r := { dst := o.dst, val := v, foot := foot, wr := wr }) (Nat.le_refl _) rfl hwf hfoot (by simp [keysW]) hind
            (.inr ⟨by rw [← guardS_eq]; exact hg, fun m _ => by rw [evS_eq] at hc; exact stepOk_call hop hc hU⟩)
          rw [look_put sa o.dst v { dst := o.dst, val := v, foot := foot, wr := wr } rfl rfl]
          simpa [Rec.hw] using this
        · exact H.elim
      · split at H
        · rename_i out hs
          exact plain out hs H hg
        · obtain ⟨v, hV, hind, hrest⟩ := H
          refine sdraw_sound rest _ _ _ _ ?_ (hd' _) (hle' _) hrest
          have := A.snoc (n' := n) ho (r := { dst := o.dst, val := v }) (Nat.le_refl _) rfl (by simp [keysW]) (by simp) (by simp [keysW]) hind
            (.inr ⟨by rw [← guardS_eq]; exact hg, fun m _ => by rw [evS_eq] at hV; exact stepOk_sem hV⟩)
          rw [look_put sa o.dst v { dst := o.dst, val := v } rfl rfl]
          simpa [Rec.hw, appW] using this
theorem SWE_draw {id : Nat} {Q : Post} {sa : SA} {h : Hp} {n : Nat} (hm : P.follows .mixedOrders = true) (hst : staticB ops = true) (H : sdrawE E P ops (Q .normal) ops.toList [] sa h n) : SWE E P N (.region id ops true) Q sa h n := by
  intro hd c a I R F A
  simp only [Code.dok, List.all_eq_true] at hd
  have hdd : ∀ (i : Nat) (o : Oper), ops[i]? = some o → ∀ d, o.dst = some d → d < N := fun i o ho d e => by
    have := hd o (by simpa using Array.mem_of_getElem? ho)
    rw [e] at this; simpa using this
  have A0 : Pre E P N ops (look sa) h n n [] (look sa) h :=
    ⟨Nat.le_refl _, rfl, rfl, by simp, by simp, by simp, by simp, by simp, by simp⟩
  obtain ⟨rs, sa', h', n', A1, hlen, hq⟩ := sdraw_sound (N := N) ops.toList [] sa h n A0 rfl (Nat.zero_le _) H
  have G : Good2 E P N ops (look sa) h n n' rs :=
    ⟨hlen, hst, hdd, fun i o r ho hr => by
      obtain ⟨g1, g2, g3⟩ := A1.ok i o r ho hr
      exact ⟨g1, g2, g3.imp (fun z => z) fun ⟨x, y⟩ => ⟨x, y n' (Nat.le_refl _)⟩⟩, A1.ind, A1.newlo, A1.newne, A1.newfoot⟩
  refine draw_sound G hm A1.le I R F ⟨A.size, A.defers, A.val⟩ fun c' a' R' F' Fr' E' => ?_
  rw [← hlen, ← A1.hp] at R'
  rw [← hlen, ← A1.fr] at F'
  exact ⟨sa', h', n', c', hq, rfl, R', Fr', ⟨F'.size, F'.defers, F'.val⟩, E'⟩
end
def swpE (E : Env) (P : Program) (N : Nat) : Code → Post → SA → Hp → Nat → Prop
  | .skip, Q, sa, h, n => Q .normal sa h n
  | .seq a b, Q, sa, h, n => swpE E P N a (thenQ (swpE E P N b Q) Q) sa h n
  | .cond c a b, Q, sa, h, n => match evS sa c with | .bool t => if t = true then swpE E P N a Q sa h n else swpE E P N b Q sa h n | _ => False
  | .block id b, Q, sa, h, n => swpE E P N b (blockQ id Q) sa h n
  | .exit id, Q, sa, h, n => Q (.exit id) sa h n
  | .ret, Q, sa, h, n => Q .ret sa h n
  | .region _ ops false, Q, sa, h, n => sopsE E P ops (Q .normal) ops.toList sa h n
  | .region _ ops true, Q, sa, h, n => staticB ops = true ∧ sdrawE E P ops (Q .normal) ops.toList [] sa h n
  | .loop b, Q, sa, h, n => SWE E P N (.loop b) Q sa h n
  | .rangeFunc g ps a b, Q, sa, h, n => SWE E P N (.rangeFunc g ps a b) Q sa h n
  | _, _, _, _, _ => False
theorem thenQ_mono {K K' : SA → Hp → Nat → Prop} {Q : Post} (hk : ∀ sa h n, K sa h n → K' sa h n) : ∀ e sa h n, thenQ K Q e sa h n → thenQ K' Q e sa h n := by
  intro e sa h n H
  cases e <;> first | exact hk _ _ _ H | exact H
theorem swp_sound {E : Env} {P : Program} {N : Nat} (hm : P.follows .mixedOrders = true) : ∀ (c : Code) (Q : Post) (sa : SA) (h : Hp) (n : Nat), swpE E P N c Q sa h n → SWE E P N c Q sa h n
  | .skip, Q, sa, h, n, H => SWE_skip H
  | .seq a b, Q, sa, h, n, H => SWE_seq (SWE_mono (swp_sound hm a _ sa h n H) (thenQ_mono fun sa h n => swp_sound hm b Q sa h n))
  | .cond c a b, Q, sa, h, n, H => by
    simp only [swpE] at H
    split at H
    · rename_i t ht
      refine SWE_cond ht ?_
      split at H
      · rename_i e; rw [if_pos e]; exact swp_sound hm a Q sa h n H
      · rename_i e; rw [if_neg e]; exact swp_sound hm b Q sa h n H
    · exact H.elim
  | .block id b, Q, sa, h, n, H => SWE_block (swp_sound hm b _ sa h n H)
  | .exit id, Q, sa, h, n, H => SWE_exit H
  | .ret, Q, sa, h, n, H => SWE_ret H
  | .region _ ops false, Q, sa, h, n, H => SWE_region H
  | .region _ ops true, Q, sa, h, n, H => SWE_draw hm H.1 H.2
  | .loop b, Q, sa, h, n, H => H
  | .rangeFunc _ _ _ _, _, _, _, _, H => H
  | .scope _, _, _, _, _, H => H.elim
  | .label _, _, _, _, _, H => H.elim
  | .goto _, _, _, _, _, H => H.elim
  | .refuse _, _, _, _, _, H => H.elim
def Is (v : SV) (h : Hp) (n : Nat) : SV → Hp → Nat → Prop := fun v' h' n' => v' = v ∧ h' = h ∧ n' = n
def PCall (P : Program) (f : FuncId) (args : List SV) (v : SV) : Prop := ∀ h n, SCall P f args h n (Is v h n)
theorem PCall.use {E : Env} {P : Program} {f : FuncId} {args : List SV} {v : SV} (H : PCall P f args v) {h : Hp} {n : Nat} {K : SV → Hp → Nat → Prop} (hk : K v h n) : SCallE E P f args h n K :=
  SCallE.lift <| (H h n).mono fun _ _ _ ⟨e1, e2, e3⟩ => by subst e1; subst e2; subst e3; exact hk
theorem PCall.u {E : Env} {P : Program} {f : FuncId} {args : List SV} {v : SV} (H : PCall P f args v) (h : Hp) : UCallE E P f args [] [] v h :=
  fun h' n _ => SCallE.lift <| (H h' n).mono fun _ _ _ ⟨e1, e2, e3⟩ => ⟨e1, e2, e3⟩
theorem SCall_swp {E : Env} {P : Program} (hm : P.follows .mixedOrders = true) {f : FuncId} {fn : Func} {code : Code} {args : List SV} {h : Hp} {n : Nat} {K : SV → Hp → Nat → Prop} (hf : P.funcs[f]? = some fn) (hb : fn.body = some code)
    (hn : (fn.name != "runtime.NumGoroutine") = true) (hd : Code.dok fn.ntmps code = true) (hl : args.length ≤ fn.ntmps)
    (H : (∀ a ∈ args, closed n a = true) → (∀ o x, h o = some x → o < n ∧ closedO n x = true) → swpE (E.call false 0) P fn.ntmps code (retQ P fn n K) (initSA 0 args) h n) : SCallE E P f args h n K :=
  SCallE_of hf hb hn hd hl fun h1 h2 => swp_sound hm _ _ _ _ _ (H h1 h2)
theorem RetS.plain {n : Nat} {h h' : Hp} {n' : Nat} {v : SV} {K : SV → Hp → Nat → Prop} (hc : closed n v = true) (hs : ∀ o x, h o = some x → o < n ∧ closedO n x = true) (hh : ∀ o x, h o = some x → h' o = some x) (hk : K v h n) : RetS n h' n' v K :=
  .inr ⟨0, v, h, rfl, hc, fun o x e => ⟨hh o x e, hs o x e⟩, hk⟩
abbrev swp := swpE Env.plain
@[go_sem] theorem ty3 : tsz Tryz.prog 3 = 1 ∧ tbytes Tryz.prog 3 = 8 ∧ tagg Tryz.prog 3 = some false ∧ tslice Tryz.prog 3 = none ∧ tarray Tryz.prog 3 = none ∧ tmap Tryz.prog 3 = none ∧ tstring Tryz.prog 3 = false ∧ tint Tryz.prog 3 = some .i64 ∧ tbool Tryz.prog 3 = false ∧ tptr Tryz.prog 3 = false ∧ tzero Tryz.prog 3 = .int .i64 0 := by (repeat' apply And.intro) <;> kernel_rfl
@[go_sem] theorem ty4 : tsz Tryz.prog 4 = 1 ∧ tbytes Tryz.prog 4 = 1 ∧ tagg Tryz.prog 4 = some false ∧ tslice Tryz.prog 4 = none ∧ tarray Tryz.prog 4 = none ∧ tmap Tryz.prog 4 = none ∧ tstring Tryz.prog 4 = false ∧ tint Tryz.prog 4 = none ∧ tbool Tryz.prog 4 = true ∧ tptr Tryz.prog 4 = false ∧ tzero Tryz.prog 4 = .bool false := by (repeat' apply And.intro) <;> kernel_rfl
@[go_sem] theorem ty5 : tsz Tryz.prog 5 = 1 ∧ tbytes Tryz.prog 5 = 1 ∧ tagg Tryz.prog 5 = some false ∧ tslice Tryz.prog 5 = none ∧ tarray Tryz.prog 5 = none ∧ tmap Tryz.prog 5 = none ∧ tstring Tryz.prog 5 = false ∧ tint Tryz.prog 5 = some .u8 ∧ tbool Tryz.prog 5 = false ∧ tptr Tryz.prog 5 = false ∧ tzero Tryz.prog 5 = .int .u8 0 := by (repeat' apply And.intro) <;> kernel_rfl
@[go_sem] theorem ty9 : tsz Tryz.prog 9 = 1 ∧ tbytes Tryz.prog 9 = 16 ∧ tagg Tryz.prog 9 = some false ∧ tslice Tryz.prog 9 = none ∧ tarray Tryz.prog 9 = none ∧ tmap Tryz.prog 9 = none ∧ tstring Tryz.prog 9 = true ∧ tint Tryz.prog 9 = none ∧ tbool Tryz.prog 9 = false ∧ tptr Tryz.prog 9 = false ∧ tzero Tryz.prog 9 = .str .empty := by (repeat' apply And.intro) <;> kernel_rfl
@[go_sem] theorem ty22 : tsz Tryz.prog 22 = 1 ∧ tbytes Tryz.prog 22 = 24 ∧ tagg Tryz.prog 22 = some false ∧ tslice Tryz.prog 22 = some 70 ∧ tarray Tryz.prog 22 = none ∧ tmap Tryz.prog 22 = none ∧ tstring Tryz.prog 22 = false ∧ tint Tryz.prog 22 = none ∧ tbool Tryz.prog 22 = false ∧ tptr Tryz.prog 22 = false ∧ tzero Tryz.prog 22 = .imm 0 [] true := by (repeat' apply And.intro) <;> kernel_rfl
@[go_sem] theorem ty23 : tsz Tryz.prog 23 = 1 ∧ tbytes Tryz.prog 23 = 24 ∧ tagg Tryz.prog 23 = some false ∧ tslice Tryz.prog 23 = some 193 ∧ tarray Tryz.prog 23 = none ∧ tmap Tryz.prog 23 = none ∧ tstring Tryz.prog 23 = false ∧ tint Tryz.prog 23 = none ∧ tbool Tryz.prog 23 = false ∧ tptr Tryz.prog 23 = false ∧ tzero Tryz.prog 23 = .imm 0 [] true := by (repeat' apply And.intro) <;> kernel_rfl
@[go_sem] theorem ty24 : tsz Tryz.prog 24 = 1 ∧ tbytes Tryz.prog 24 = 24 ∧ tagg Tryz.prog 24 = some false ∧ tslice Tryz.prog 24 = some 166 ∧ tarray Tryz.prog 24 = none ∧ tmap Tryz.prog 24 = none ∧ tstring Tryz.prog 24 = false ∧ tint Tryz.prog 24 = none ∧ tbool Tryz.prog 24 = false ∧ tptr Tryz.prog 24 = false ∧ tzero Tryz.prog 24 = .imm 0 [] true := by (repeat' apply And.intro) <;> kernel_rfl
@[go_sem] theorem ty25 : tsz Tryz.prog 25 = 1 ∧ tbytes Tryz.prog 25 = 24 ∧ tagg Tryz.prog 25 = some false ∧ tslice Tryz.prog 25 = some 164 ∧ tarray Tryz.prog 25 = none ∧ tmap Tryz.prog 25 = none ∧ tstring Tryz.prog 25 = false ∧ tint Tryz.prog 25 = none ∧ tbool Tryz.prog 25 = false ∧ tptr Tryz.prog 25 = false ∧ tzero Tryz.prog 25 = .imm 0 [] true := by (repeat' apply And.intro) <;> kernel_rfl
@[go_sem] theorem ty27 : tsz Tryz.prog 27 = 4 ∧ tbytes Tryz.prog 27 = 64 ∧ tagg Tryz.prog 27 = some true ∧ tslice Tryz.prog 27 = none ∧ tarray Tryz.prog 27 = none ∧ tmap Tryz.prog 27 = none ∧ tstring Tryz.prog 27 = false ∧ tint Tryz.prog 27 = none ∧ tbool Tryz.prog 27 = false ∧ tptr Tryz.prog 27 = false ∧ tzero Tryz.prog 27 = .agg [.int .i64 0, .int .i64 0, .imm 0 [] true, .imm 0 [] true] ∧ tplaces Tryz.prog 27 = some [(0, 1), (1, 1), (2, 1), (3, 1)] ∧ tfield Tryz.prog 27 0 = some (0, 3) ∧ tfield Tryz.prog 27 1 = some (1, 3) ∧ tfield Tryz.prog 27 2 = some (2, 24) ∧ tfield Tryz.prog 27 3 = some (3, 25) := by (repeat' apply And.intro) <;> kernel_rfl
@[go_sem] theorem ty29 : tsz Tryz.prog 29 = 5 ∧ tbytes Tryz.prog 29 = 88 ∧ tagg Tryz.prog 29 = some true ∧ tslice Tryz.prog 29 = none ∧ tarray Tryz.prog 29 = none ∧ tmap Tryz.prog 29 = none ∧ tstring Tryz.prog 29 = false ∧ tint Tryz.prog 29 = none ∧ tbool Tryz.prog 29 = false ∧ tptr Tryz.prog 29 = false ∧ tzero Tryz.prog 29 = .agg [.imm 0 [] true, .int .i64 0, .int .i64 0, .imm 0 [] true, .imm 0 [] true] ∧ tplaces Tryz.prog 29 = some [(0, 1), (1, 4)] ∧ tfield Tryz.prog 29 0 = some (0, 23) ∧ tfield Tryz.prog 29 1 = some (1, 27) := by (repeat' apply And.intro) <;> kernel_rfl
@[go_sem] theorem ty30 : tsz Tryz.prog 30 = 1 ∧ tbytes Tryz.prog 30 = 24 ∧ tagg Tryz.prog 30 = some false ∧ tslice Tryz.prog 30 = some 42 ∧ tarray Tryz.prog 30 = none ∧ tmap Tryz.prog 30 = none ∧ tstring Tryz.prog 30 = false ∧ tint Tryz.prog 30 = none ∧ tbool Tryz.prog 30 = false ∧ tptr Tryz.prog 30 = false ∧ tzero Tryz.prog 30 = .imm 0 [] true := by (repeat' apply And.intro) <;> kernel_rfl
@[go_sem] theorem ty31 : tsz Tryz.prog 31 = 1 ∧ tbytes Tryz.prog 31 = 24 ∧ tagg Tryz.prog 31 = some false ∧ tslice Tryz.prog 31 = some 198 ∧ tarray Tryz.prog 31 = none ∧ tmap Tryz.prog 31 = none ∧ tstring Tryz.prog 31 = false ∧ tint Tryz.prog 31 = none ∧ tbool Tryz.prog 31 = false ∧ tptr Tryz.prog 31 = false ∧ tzero Tryz.prog 31 = .imm 0 [] true := by (repeat' apply And.intro) <;> kernel_rfl
@[go_sem] theorem ty32 : tsz Tryz.prog 32 = 1 ∧ tbytes Tryz.prog 32 = 24 ∧ tagg Tryz.prog 32 = some false ∧ tslice Tryz.prog 32 = some 103 ∧ tarray Tryz.prog 32 = none ∧ tmap Tryz.prog 32 = none ∧ tstring Tryz.prog 32 = false ∧ tint Tryz.prog 32 = none ∧ tbool Tryz.prog 32 = false ∧ tptr Tryz.prog 32 = false ∧ tzero Tryz.prog 32 = .imm 0 [] true := by (repeat' apply And.intro) <;> kernel_rfl
@[go_sem] theorem ty33 : tsz Tryz.prog 33 = 1 ∧ tbytes Tryz.prog 33 = 24 ∧ tagg Tryz.prog 33 = some false ∧ tslice Tryz.prog 33 = some 115 ∧ tarray Tryz.prog 33 = none ∧ tmap Tryz.prog 33 = none ∧ tstring Tryz.prog 33 = false ∧ tint Tryz.prog 33 = none ∧ tbool Tryz.prog 33 = false ∧ tptr Tryz.prog 33 = false ∧ tzero Tryz.prog 33 = .imm 0 [] true := by (repeat' apply And.intro) <;> kernel_rfl
@[go_sem] theorem ty34 : tsz Tryz.prog 34 = 1 ∧ tbytes Tryz.prog 34 = 24 ∧ tagg Tryz.prog 34 = some false ∧ tslice Tryz.prog 34 = some 118 ∧ tarray Tryz.prog 34 = none ∧ tmap Tryz.prog 34 = none ∧ tstring Tryz.prog 34 = false ∧ tint Tryz.prog 34 = none ∧ tbool Tryz.prog 34 = false ∧ tptr Tryz.prog 34 = false ∧ tzero Tryz.prog 34 = .imm 0 [] true := by (repeat' apply And.intro) <;> kernel_rfl
@[go_sem] theorem ty36 : tsz Tryz.prog 36 = 4 ∧ tbytes Tryz.prog 36 = 96 ∧ tagg Tryz.prog 36 = some true ∧ tslice Tryz.prog 36 = none ∧ tarray Tryz.prog 36 = none ∧ tmap Tryz.prog 36 = none ∧ tstring Tryz.prog 36 = false ∧ tint Tryz.prog 36 = none ∧ tbool Tryz.prog 36 = false ∧ tptr Tryz.prog 36 = false ∧ tzero Tryz.prog 36 = .agg [.imm 0 [] true, .imm 0 [] true, .imm 0 [] true, .imm 0 [] true] ∧ tplaces Tryz.prog 36 = some [(0, 1), (1, 1), (2, 1), (3, 1)] ∧ tfield Tryz.prog 36 0 = some (0, 31) ∧ tfield Tryz.prog 36 1 = some (1, 32) ∧ tfield Tryz.prog 36 2 = some (2, 33) ∧ tfield Tryz.prog 36 3 = some (3, 34) := by (repeat' apply And.intro) <;> kernel_rfl
@[go_sem] theorem ty38 : tsz Tryz.prog 38 = 11 ∧ tbytes Tryz.prog 38 = 232 ∧ tagg Tryz.prog 38 = some true ∧ tslice Tryz.prog 38 = none ∧ tarray Tryz.prog 38 = none ∧ tmap Tryz.prog 38 = none ∧ tstring Tryz.prog 38 = false ∧ tint Tryz.prog 38 = none ∧ tbool Tryz.prog 38 = false ∧ tptr Tryz.prog 38 = false ∧ tzero Tryz.prog 38 = .agg [.imm 0 [] true, .imm 0 [] true, .int .i64 0, .int .i64 0, .imm 0 [] true, .imm 0 [] true, .imm 0 [] true, .imm 0 [] true, .imm 0 [] true, .imm 0 [] true, .imm 0 [] true] ∧ tplaces Tryz.prog 38 = some [(0, 1), (1, 5), (6, 1), (7, 4)] ∧ tfield Tryz.prog 38 0 = some (0, 22) ∧ tfield Tryz.prog 38 1 = some (1, 29) ∧ tfield Tryz.prog 38 2 = some (6, 30) ∧ tfield Tryz.prog 38 3 = some (7, 36) := by (repeat' apply And.intro) <;> kernel_rfl
@[go_sem] theorem ty40 : tsz Tryz.prog 40 = 3 ∧ tbytes Tryz.prog 40 = 24 ∧ tagg Tryz.prog 40 = some true ∧ tslice Tryz.prog 40 = none ∧ tarray Tryz.prog 40 = none ∧ tmap Tryz.prog 40 = none ∧ tstring Tryz.prog 40 = false ∧ tint Tryz.prog 40 = none ∧ tbool Tryz.prog 40 = false ∧ tptr Tryz.prog 40 = false ∧ tzero Tryz.prog 40 = .agg [.int .i64 0, .int .i64 0, .int .i64 0] ∧ tplaces Tryz.prog 40 = some [(0, 1), (1, 1), (2, 1)] ∧ tfield Tryz.prog 40 0 = some (0, 3) ∧ tfield Tryz.prog 40 1 = some (1, 3) ∧ tfield Tryz.prog 40 2 = some (2, 3) := by (repeat' apply And.intro) <;> kernel_rfl
@[go_sem] theorem ty42 : tsz Tryz.prog 42 = 3 ∧ tbytes Tryz.prog 42 = 32 ∧ tagg Tryz.prog 42 = some true ∧ tslice Tryz.prog 42 = none ∧ tarray Tryz.prog 42 = none ∧ tmap Tryz.prog 42 = none ∧ tstring Tryz.prog 42 = false ∧ tint Tryz.prog 42 = none ∧ tbool Tryz.prog 42 = false ∧ tptr Tryz.prog 42 = false ∧ tzero Tryz.prog 42 = .agg [.int .i64 0, .str .empty, .int .i64 0] ∧ tplaces Tryz.prog 42 = some [(0, 1), (1, 1), (2, 1)] ∧ tfield Tryz.prog 42 0 = some (0, 3) ∧ tfield Tryz.prog 42 1 = some (1, 9) ∧ tfield Tryz.prog 42 2 = some (2, 3) := by (repeat' apply And.intro) <;> kernel_rfl
@[go_sem] theorem ty44 : tsz Tryz.prog 44 = 7 ∧ tbytes Tryz.prog 44 = 64 ∧ tagg Tryz.prog 44 = some true ∧ tslice Tryz.prog 44 = none ∧ tarray Tryz.prog 44 = none ∧ tmap Tryz.prog 44 = none ∧ tstring Tryz.prog 44 = false ∧ tint Tryz.prog 44 = none ∧ tbool Tryz.prog 44 = false ∧ tptr Tryz.prog 44 = false ∧ tzero Tryz.prog 44 = .agg [.int .i64 0, .int .i64 0, .int .i64 0, .int .i64 0, .int .i64 0, .str .empty, .int .i64 0] ∧ tplaces Tryz.prog 44 = some [(0, 1), (1, 3), (4, 3)] ∧ tfield Tryz.prog 44 0 = some (0, 3) ∧ tfield Tryz.prog 44 1 = some (1, 40) ∧ tfield Tryz.prog 44 2 = some (4, 42) := by (repeat' apply And.intro) <;> kernel_rfl
@[go_sem] theorem ty47 : tsz Tryz.prog 47 = 1 ∧ tbytes Tryz.prog 47 = 8 ∧ tagg Tryz.prog 47 = some false ∧ tslice Tryz.prog 47 = none ∧ tarray Tryz.prog 47 = none ∧ tmap Tryz.prog 47 = none ∧ tstring Tryz.prog 47 = false ∧ tint Tryz.prog 47 = some .i64 ∧ tbool Tryz.prog 47 = false ∧ tptr Tryz.prog 47 = false ∧ tzero Tryz.prog 47 = .int .i64 0 := by (repeat' apply And.intro) <;> kernel_rfl
@[go_sem] theorem ty61 : tsz Tryz.prog 61 = 1 ∧ tbytes Tryz.prog 61 = 24 ∧ tagg Tryz.prog 61 = some false ∧ tslice Tryz.prog 61 = some 3 ∧ tarray Tryz.prog 61 = none ∧ tmap Tryz.prog 61 = none ∧ tstring Tryz.prog 61 = false ∧ tint Tryz.prog 61 = none ∧ tbool Tryz.prog 61 = false ∧ tptr Tryz.prog 61 = false ∧ tzero Tryz.prog 61 = .imm 0 [] true := by (repeat' apply And.intro) <;> kernel_rfl
@[go_sem] theorem ty68 : tsz Tryz.prog 68 = 1 ∧ tbytes Tryz.prog 68 = 24 ∧ tagg Tryz.prog 68 = some false ∧ tslice Tryz.prog 68 = some 169 ∧ tarray Tryz.prog 68 = none ∧ tmap Tryz.prog 68 = none ∧ tstring Tryz.prog 68 = false ∧ tint Tryz.prog 68 = none ∧ tbool Tryz.prog 68 = false ∧ tptr Tryz.prog 68 = false ∧ tzero Tryz.prog 68 = .imm 0 [] true := by (repeat' apply And.intro) <;> kernel_rfl
@[go_sem] theorem ty70 : tsz Tryz.prog 70 = 11 ∧ tbytes Tryz.prog 70 = 176 ∧ tagg Tryz.prog 70 = some true ∧ tslice Tryz.prog 70 = none ∧ tarray Tryz.prog 70 = none ∧ tmap Tryz.prog 70 = none ∧ tstring Tryz.prog 70 = false ∧ tint Tryz.prog 70 = none ∧ tbool Tryz.prog 70 = false ∧ tptr Tryz.prog 70 = false ∧ tzero Tryz.prog 70 = .agg [.int .i64 0, .int .i64 0, .int .i64 0, .str .empty, .imm 0 [] true, .int .i64 0, .int .i64 0, .imm 0 [] true, .imm 0 [] true, .imm 0 [] true, .imm 0 [] true] ∧ tplaces Tryz.prog 70 = some [(0, 1), (1, 1), (2, 1), (3, 1), (4, 5), (9, 1), (10, 1)] ∧ tfield Tryz.prog 70 0 = some (0, 3) ∧ tfield Tryz.prog 70 1 = some (1, 3) ∧ tfield Tryz.prog 70 2 = some (2, 3) ∧ tfield Tryz.prog 70 3 = some (3, 9) ∧ tfield Tryz.prog 70 4 = some (4, 29) ∧ tfield Tryz.prog 70 5 = some (9, 22) ∧ tfield Tryz.prog 70 6 = some (10, 68) := by (repeat' apply And.intro) <;> kernel_rfl
@[go_sem] theorem ty72 : tsz Tryz.prog 72 = 1 ∧ tbytes Tryz.prog 72 = 8 ∧ tagg Tryz.prog 72 = some false ∧ tslice Tryz.prog 72 = none ∧ tarray Tryz.prog 72 = none ∧ tmap Tryz.prog 72 = none ∧ tstring Tryz.prog 72 = false ∧ tint Tryz.prog 72 = none ∧ tbool Tryz.prog 72 = false ∧ tptr Tryz.prog 72 = true ∧ tzero Tryz.prog 72 = .nilp := by (repeat' apply And.intro) <;> kernel_rfl
@[go_sem] theorem ty79 : tsz Tryz.prog 79 = 7 ∧ tbytes Tryz.prog 79 = 104 ∧ tagg Tryz.prog 79 = some true ∧ tslice Tryz.prog 79 = none ∧ tarray Tryz.prog 79 = none ∧ tmap Tryz.prog 79 = none ∧ tstring Tryz.prog 79 = false ∧ tint Tryz.prog 79 = none ∧ tbool Tryz.prog 79 = false ∧ tptr Tryz.prog 79 = false ∧ tzero Tryz.prog 79 = .agg [.imm 0 [] true, .int .i64 0, .int .i64 0, .imm 0 [] true, .imm 0 [] true, .bool false, .int .i64 0] ∧ tplaces Tryz.prog 79 = some [(0, 5), (5, 1), (6, 1)] ∧ tfield Tryz.prog 79 0 = some (0, 29) ∧ tfield Tryz.prog 79 1 = some (5, 4) ∧ tfield Tryz.prog 79 2 = some (6, 3) := by (repeat' apply And.intro) <;> kernel_rfl
@[go_sem] theorem ty81 : tsz Tryz.prog 81 = 1 ∧ tbytes Tryz.prog 81 = 8 ∧ tagg Tryz.prog 81 = some false ∧ tslice Tryz.prog 81 = none ∧ tarray Tryz.prog 81 = none ∧ tmap Tryz.prog 81 = none ∧ tstring Tryz.prog 81 = false ∧ tint Tryz.prog 81 = none ∧ tbool Tryz.prog 81 = false ∧ tptr Tryz.prog 81 = false ∧ tzero Tryz.prog 81 = .nilf := by (repeat' apply And.intro) <;> kernel_rfl
@[go_sem] theorem ty85 : tsz Tryz.prog 85 = 1 ∧ tbytes Tryz.prog 85 = 8 ∧ tagg Tryz.prog 85 = some false ∧ tslice Tryz.prog 85 = none ∧ tarray Tryz.prog 85 = none ∧ tmap Tryz.prog 85 = some (89, 90) ∧ tstring Tryz.prog 85 = false ∧ tint Tryz.prog 85 = none ∧ tbool Tryz.prog 85 = false ∧ tptr Tryz.prog 85 = false ∧ tzero Tryz.prog 85 = .nilm := by (repeat' apply And.intro) <;> kernel_rfl
@[go_sem] theorem ty86 : tsz Tryz.prog 86 = 1 ∧ tbytes Tryz.prog 86 = 24 ∧ tagg Tryz.prog 86 = some false ∧ tslice Tryz.prog 86 = some 89 ∧ tarray Tryz.prog 86 = none ∧ tmap Tryz.prog 86 = none ∧ tstring Tryz.prog 86 = false ∧ tint Tryz.prog 86 = none ∧ tbool Tryz.prog 86 = false ∧ tptr Tryz.prog 86 = false ∧ tzero Tryz.prog 86 = .imm 0 [] true := by (repeat' apply And.intro) <;> kernel_rfl
@[go_sem] theorem ty89 : tsz Tryz.prog 89 = 2 ∧ tbytes Tryz.prog 89 = 16 ∧ tagg Tryz.prog 89 = some true ∧ tslice Tryz.prog 89 = none ∧ tarray Tryz.prog 89 = none ∧ tmap Tryz.prog 89 = none ∧ tstring Tryz.prog 89 = false ∧ tint Tryz.prog 89 = none ∧ tbool Tryz.prog 89 = false ∧ tptr Tryz.prog 89 = false ∧ tzero Tryz.prog 89 = .agg [.int .i64 0, .int .i64 0] ∧ tplaces Tryz.prog 89 = some [(0, 1), (1, 1)] ∧ tfield Tryz.prog 89 0 = some (0, 3) ∧ tfield Tryz.prog 89 1 = some (1, 3) := by (repeat' apply And.intro) <;> kernel_rfl
@[go_sem] theorem ty90 : tsz Tryz.prog 90 = 2 ∧ tbytes Tryz.prog 90 = 2 ∧ tagg Tryz.prog 90 = some true ∧ tslice Tryz.prog 90 = none ∧ tarray Tryz.prog 90 = some (2, 4) ∧ tmap Tryz.prog 90 = none ∧ tstring Tryz.prog 90 = false ∧ tint Tryz.prog 90 = none ∧ tbool Tryz.prog 90 = false ∧ tptr Tryz.prog 90 = false ∧ tzero Tryz.prog 90 = .agg [.bool false, .bool false] ∧ tplaces Tryz.prog 90 = some [(0, 1), (1, 1)] := by (repeat' apply And.intro) <;> kernel_rfl
@[go_sem] theorem ty94 : tsz Tryz.prog 94 = 1 ∧ tbytes Tryz.prog 94 = 8 ∧ tagg Tryz.prog 94 = some false ∧ tslice Tryz.prog 94 = none ∧ tarray Tryz.prog 94 = none ∧ tmap Tryz.prog 94 = none ∧ tstring Tryz.prog 94 = false ∧ tint Tryz.prog 94 = none ∧ tbool Tryz.prog 94 = false ∧ tptr Tryz.prog 94 = false ∧ tzero Tryz.prog 94 = .nilf := by (repeat' apply And.intro) <;> kernel_rfl
@[go_sem] theorem ty96 : tsz Tryz.prog 96 = 1 ∧ tbytes Tryz.prog 96 = 8 ∧ tagg Tryz.prog 96 = some false ∧ tslice Tryz.prog 96 = none ∧ tarray Tryz.prog 96 = none ∧ tmap Tryz.prog 96 = none ∧ tstring Tryz.prog 96 = false ∧ tint Tryz.prog 96 = none ∧ tbool Tryz.prog 96 = false ∧ tptr Tryz.prog 96 = false ∧ tzero Tryz.prog 96 = .nilf := by (repeat' apply And.intro) <;> kernel_rfl
@[go_sem] theorem ty101 : tsz Tryz.prog 101 = 1 ∧ tbytes Tryz.prog 101 = 24 ∧ tagg Tryz.prog 101 = some false ∧ tslice Tryz.prog 101 = some 106 ∧ tarray Tryz.prog 101 = none ∧ tmap Tryz.prog 101 = none ∧ tstring Tryz.prog 101 = false ∧ tint Tryz.prog 101 = none ∧ tbool Tryz.prog 101 = false ∧ tptr Tryz.prog 101 = false ∧ tzero Tryz.prog 101 = .imm 0 [] true := by (repeat' apply And.intro) <;> kernel_rfl
@[go_sem] theorem ty103 : tsz Tryz.prog 103 = 2 ∧ tbytes Tryz.prog 103 = 32 ∧ tagg Tryz.prog 103 = some true ∧ tslice Tryz.prog 103 = none ∧ tarray Tryz.prog 103 = none ∧ tmap Tryz.prog 103 = none ∧ tstring Tryz.prog 103 = false ∧ tint Tryz.prog 103 = none ∧ tbool Tryz.prog 103 = false ∧ tptr Tryz.prog 103 = false ∧ tzero Tryz.prog 103 = .agg [.int .i64 0, .imm 0 [] true] ∧ tplaces Tryz.prog 103 = some [(0, 1), (1, 1)] ∧ tfield Tryz.prog 103 0 = some (0, 3) ∧ tfield Tryz.prog 103 1 = some (1, 101) := by (repeat' apply And.intro) <;> kernel_rfl
@[go_sem] theorem ty106 : tsz Tryz.prog 106 = 4 ∧ tbytes Tryz.prog 106 = 40 ∧ tagg Tryz.prog 106 = some true ∧ tslice Tryz.prog 106 = none ∧ tarray Tryz.prog 106 = none ∧ tmap Tryz.prog 106 = none ∧ tstring Tryz.prog 106 = false ∧ tint Tryz.prog 106 = none ∧ tbool Tryz.prog 106 = false ∧ tptr Tryz.prog 106 = false ∧ tzero Tryz.prog 106 = .agg [.int .i64 0, .int .i64 0, .str .empty, .int .i64 0] ∧ tplaces Tryz.prog 106 = some [(0, 1), (1, 1), (2, 1), (3, 1)] ∧ tfield Tryz.prog 106 0 = some (0, 3) ∧ tfield Tryz.prog 106 1 = some (1, 3) ∧ tfield Tryz.prog 106 2 = some (2, 9) ∧ tfield Tryz.prog 106 3 = some (3, 3) := by (repeat' apply And.intro) <;> kernel_rfl
@[go_sem] theorem ty107 : tsz Tryz.prog 107 = 1 ∧ tbytes Tryz.prog 107 = 8 ∧ tagg Tryz.prog 107 = some false ∧ tslice Tryz.prog 107 = none ∧ tarray Tryz.prog 107 = none ∧ tmap Tryz.prog 107 = none ∧ tstring Tryz.prog 107 = false ∧ tint Tryz.prog 107 = none ∧ tbool Tryz.prog 107 = false ∧ tptr Tryz.prog 107 = false ∧ tzero Tryz.prog 107 = .nilf := by (repeat' apply And.intro) <;> kernel_rfl
@[go_sem] theorem ty115 : tsz Tryz.prog 115 = 6 ∧ tbytes Tryz.prog 115 = 64 ∧ tagg Tryz.prog 115 = some true ∧ tslice Tryz.prog 115 = none ∧ tarray Tryz.prog 115 = none ∧ tmap Tryz.prog 115 = none ∧ tstring Tryz.prog 115 = false ∧ tint Tryz.prog 115 = none ∧ tbool Tryz.prog 115 = false ∧ tptr Tryz.prog 115 = false ∧ tzero Tryz.prog 115 = .agg [.int .i64 0, .int .i64 0, .str .empty, .int .i64 0, .str .empty, .bool false] ∧ tplaces Tryz.prog 115 = some [(0, 1), (1, 1), (2, 1), (3, 1), (4, 1), (5, 1)] ∧ tfield Tryz.prog 115 0 = some (0, 3) ∧ tfield Tryz.prog 115 1 = some (1, 3) ∧ tfield Tryz.prog 115 2 = some (2, 9) ∧ tfield Tryz.prog 115 3 = some (3, 3) ∧ tfield Tryz.prog 115 4 = some (4, 9) ∧ tfield Tryz.prog 115 5 = some (5, 4) := by (repeat' apply And.intro) <;> kernel_rfl
@[go_sem] theorem ty118 : tsz Tryz.prog 118 = 2 ∧ tbytes Tryz.prog 118 = 32 ∧ tagg Tryz.prog 118 = some true ∧ tslice Tryz.prog 118 = none ∧ tarray Tryz.prog 118 = none ∧ tmap Tryz.prog 118 = none ∧ tstring Tryz.prog 118 = false ∧ tint Tryz.prog 118 = none ∧ tbool Tryz.prog 118 = false ∧ tptr Tryz.prog 118 = false ∧ tzero Tryz.prog 118 = .agg [.str .empty, .str .empty] ∧ tplaces Tryz.prog 118 = some [(0, 1), (1, 1)] ∧ tfield Tryz.prog 118 0 = some (0, 9) ∧ tfield Tryz.prog 118 1 = some (1, 9) := by (repeat' apply And.intro) <;> kernel_rfl
@[go_sem] theorem ty130 : tsz Tryz.prog 130 = 1 ∧ tbytes Tryz.prog 130 = 8 ∧ tagg Tryz.prog 130 = some false ∧ tslice Tryz.prog 130 = none ∧ tarray Tryz.prog 130 = none ∧ tmap Tryz.prog 130 = none ∧ tstring Tryz.prog 130 = false ∧ tint Tryz.prog 130 = none ∧ tbool Tryz.prog 130 = false ∧ tptr Tryz.prog 130 = false ∧ tzero Tryz.prog 130 = .nilf := by (repeat' apply And.intro) <;> kernel_rfl
@[go_sem] theorem ty134 : tsz Tryz.prog 134 = 1 ∧ tbytes Tryz.prog 134 = 8 ∧ tagg Tryz.prog 134 = some false ∧ tslice Tryz.prog 134 = none ∧ tarray Tryz.prog 134 = none ∧ tmap Tryz.prog 134 = none ∧ tstring Tryz.prog 134 = false ∧ tint Tryz.prog 134 = none ∧ tbool Tryz.prog 134 = false ∧ tptr Tryz.prog 134 = true ∧ tzero Tryz.prog 134 = .nilp := by (repeat' apply And.intro) <;> kernel_rfl
@[go_sem] theorem ty140 : tsz Tryz.prog 140 = 3 ∧ tbytes Tryz.prog 140 = 16 ∧ tagg Tryz.prog 140 = some true ∧ tslice Tryz.prog 140 = none ∧ tarray Tryz.prog 140 = none ∧ tmap Tryz.prog 140 = none ∧ tstring Tryz.prog 140 = false ∧ tint Tryz.prog 140 = none ∧ tbool Tryz.prog 140 = false ∧ tptr Tryz.prog 140 = false ∧ tzero Tryz.prog 140 = .agg [.bool false, .bool false, .int .i64 0] ∧ tplaces Tryz.prog 140 = some [(0, 1), (1, 1), (2, 1)] ∧ tfield Tryz.prog 140 0 = some (0, 4) ∧ tfield Tryz.prog 140 1 = some (1, 4) ∧ tfield Tryz.prog 140 2 = some (2, 3) := by (repeat' apply And.intro) <;> kernel_rfl
@[go_sem] theorem ty141 : tsz Tryz.prog 141 = 1 ∧ tbytes Tryz.prog 141 = 8 ∧ tagg Tryz.prog 141 = some false ∧ tslice Tryz.prog 141 = none ∧ tarray Tryz.prog 141 = none ∧ tmap Tryz.prog 141 = some (3, 3) ∧ tstring Tryz.prog 141 = false ∧ tint Tryz.prog 141 = none ∧ tbool Tryz.prog 141 = false ∧ tptr Tryz.prog 141 = false ∧ tzero Tryz.prog 141 = .nilm := by (repeat' apply And.intro) <;> kernel_rfl
@[go_sem] theorem ty142 : tsz Tryz.prog 142 = 1 ∧ tbytes Tryz.prog 142 = 8 ∧ tagg Tryz.prog 142 = some false ∧ tslice Tryz.prog 142 = none ∧ tarray Tryz.prog 142 = none ∧ tmap Tryz.prog 142 = some (3, 4) ∧ tstring Tryz.prog 142 = false ∧ tint Tryz.prog 142 = none ∧ tbool Tryz.prog 142 = false ∧ tptr Tryz.prog 142 = false ∧ tzero Tryz.prog 142 = .nilm := by (repeat' apply And.intro) <;> kernel_rfl
@[go_sem] theorem ty144 : tsz Tryz.prog 144 = 6 ∧ tbytes Tryz.prog 144 = 48 ∧ tagg Tryz.prog 144 = some true ∧ tslice Tryz.prog 144 = none ∧ tarray Tryz.prog 144 = none ∧ tmap Tryz.prog 144 = none ∧ tstring Tryz.prog 144 = false ∧ tint Tryz.prog 144 = none ∧ tbool Tryz.prog 144 = false ∧ tptr Tryz.prog 144 = false ∧ tzero Tryz.prog 144 = .agg [.nilm, .nilm, .nilm, .nilm, .nilm, .int .i64 0] ∧ tplaces Tryz.prog 144 = some [(0, 1), (1, 1), (2, 1), (3, 1), (4, 1), (5, 1)] ∧ tfield Tryz.prog 144 0 = some (0, 141) ∧ tfield Tryz.prog 144 1 = some (1, 142) ∧ tfield Tryz.prog 144 2 = some (2, 142) ∧ tfield Tryz.prog 144 3 = some (3, 142) ∧ tfield Tryz.prog 144 4 = some (4, 142) ∧ tfield Tryz.prog 144 5 = some (5, 3) := by (repeat' apply And.intro) <;> kernel_rfl
@[go_sem] theorem ty146 : tsz Tryz.prog 146 = 1 ∧ tbytes Tryz.prog 146 = 8 ∧ tagg Tryz.prog 146 = some false ∧ tslice Tryz.prog 146 = none ∧ tarray Tryz.prog 146 = none ∧ tmap Tryz.prog 146 = none ∧ tstring Tryz.prog 146 = false ∧ tint Tryz.prog 146 = none ∧ tbool Tryz.prog 146 = false ∧ tptr Tryz.prog 146 = false ∧ tzero Tryz.prog 146 = .nilf := by (repeat' apply And.intro) <;> kernel_rfl
@[go_sem] theorem ty147 : tsz Tryz.prog 147 = 1 ∧ tbytes Tryz.prog 147 = 24 ∧ tagg Tryz.prog 147 = some false ∧ tslice Tryz.prog 147 = some 3 ∧ tarray Tryz.prog 147 = none ∧ tmap Tryz.prog 147 = none ∧ tstring Tryz.prog 147 = false ∧ tint Tryz.prog 147 = none ∧ tbool Tryz.prog 147 = false ∧ tptr Tryz.prog 147 = false ∧ tzero Tryz.prog 147 = .imm 0 [] true := by (repeat' apply And.intro) <;> kernel_rfl
@[go_sem] theorem ty150 : tsz Tryz.prog 150 = 1 ∧ tbytes Tryz.prog 150 = 8 ∧ tagg Tryz.prog 150 = some false ∧ tslice Tryz.prog 150 = none ∧ tarray Tryz.prog 150 = none ∧ tmap Tryz.prog 150 = none ∧ tstring Tryz.prog 150 = false ∧ tint Tryz.prog 150 = none ∧ tbool Tryz.prog 150 = false ∧ tptr Tryz.prog 150 = false ∧ tzero Tryz.prog 150 = .nilf := by (repeat' apply And.intro) <;> kernel_rfl
@[go_sem] theorem ty154 : tsz Tryz.prog 154 = 1 ∧ tbytes Tryz.prog 154 = 8 ∧ tagg Tryz.prog 154 = some false ∧ tslice Tryz.prog 154 = none ∧ tarray Tryz.prog 154 = none ∧ tmap Tryz.prog 154 = none ∧ tstring Tryz.prog 154 = false ∧ tint Tryz.prog 154 = none ∧ tbool Tryz.prog 154 = false ∧ tptr Tryz.prog 154 = false ∧ tzero Tryz.prog 154 = .nilf := by (repeat' apply And.intro) <;> kernel_rfl
@[go_sem] theorem ty155 : tsz Tryz.prog 155 = 1 ∧ tbytes Tryz.prog 155 = 8 ∧ tagg Tryz.prog 155 = some false ∧ tslice Tryz.prog 155 = none ∧ tarray Tryz.prog 155 = none ∧ tmap Tryz.prog 155 = some (89, 3) ∧ tstring Tryz.prog 155 = false ∧ tint Tryz.prog 155 = none ∧ tbool Tryz.prog 155 = false ∧ tptr Tryz.prog 155 = false ∧ tzero Tryz.prog 155 = .nilm := by (repeat' apply And.intro) <;> kernel_rfl
@[go_sem] theorem ty159 : tsz Tryz.prog 159 = 1 ∧ tbytes Tryz.prog 159 = 24 ∧ tagg Tryz.prog 159 = some false ∧ tslice Tryz.prog 159 = some 239 ∧ tarray Tryz.prog 159 = none ∧ tmap Tryz.prog 159 = none ∧ tstring Tryz.prog 159 = false ∧ tint Tryz.prog 159 = none ∧ tbool Tryz.prog 159 = false ∧ tptr Tryz.prog 159 = false ∧ tzero Tryz.prog 159 = .imm 0 [] true := by (repeat' apply And.intro) <;> kernel_rfl
@[go_sem] theorem ty164 : tsz Tryz.prog 164 = 4 ∧ tbytes Tryz.prog 164 = 32 ∧ tagg Tryz.prog 164 = some true ∧ tslice Tryz.prog 164 = none ∧ tarray Tryz.prog 164 = none ∧ tmap Tryz.prog 164 = none ∧ tstring Tryz.prog 164 = false ∧ tint Tryz.prog 164 = none ∧ tbool Tryz.prog 164 = false ∧ tptr Tryz.prog 164 = false ∧ tzero Tryz.prog 164 = .agg [.int .i64 0, .int .i64 0, .int .i64 0, .bool false] ∧ tplaces Tryz.prog 164 = some [(0, 1), (1, 1), (2, 1), (3, 1)] ∧ tfield Tryz.prog 164 0 = some (0, 3) ∧ tfield Tryz.prog 164 1 = some (1, 3) ∧ tfield Tryz.prog 164 2 = some (2, 3) ∧ tfield Tryz.prog 164 3 = some (3, 4) := by (repeat' apply And.intro) <;> kernel_rfl
@[go_sem] theorem ty166 : tsz Tryz.prog 166 = 2 ∧ tbytes Tryz.prog 166 = 16 ∧ tagg Tryz.prog 166 = some true ∧ tslice Tryz.prog 166 = none ∧ tarray Tryz.prog 166 = none ∧ tmap Tryz.prog 166 = none ∧ tstring Tryz.prog 166 = false ∧ tint Tryz.prog 166 = none ∧ tbool Tryz.prog 166 = false ∧ tptr Tryz.prog 166 = false ∧ tzero Tryz.prog 166 = .agg [.int .i64 0, .int .i64 0] ∧ tplaces Tryz.prog 166 = some [(0, 1), (1, 1)] ∧ tfield Tryz.prog 166 0 = some (0, 3) ∧ tfield Tryz.prog 166 1 = some (1, 3) := by (repeat' apply And.intro) <;> kernel_rfl
@[go_sem] theorem ty167 : tsz Tryz.prog 167 = 1 ∧ tbytes Tryz.prog 167 = 24 ∧ tagg Tryz.prog 167 = some false ∧ tslice Tryz.prog 167 = some 171 ∧ tarray Tryz.prog 167 = none ∧ tmap Tryz.prog 167 = none ∧ tstring Tryz.prog 167 = false ∧ tint Tryz.prog 167 = none ∧ tbool Tryz.prog 167 = false ∧ tptr Tryz.prog 167 = false ∧ tzero Tryz.prog 167 = .imm 0 [] true := by (repeat' apply And.intro) <;> kernel_rfl
@[go_sem] theorem ty169 : tsz Tryz.prog 169 = 6 ∧ tbytes Tryz.prog 169 = 112 ∧ tagg Tryz.prog 169 = some true ∧ tslice Tryz.prog 169 = none ∧ tarray Tryz.prog 169 = none ∧ tmap Tryz.prog 169 = none ∧ tstring Tryz.prog 169 = false ∧ tint Tryz.prog 169 = none ∧ tbool Tryz.prog 169 = false ∧ tptr Tryz.prog 169 = false ∧ tzero Tryz.prog 169 = .agg [.imm 0 [] true, .int .i64 0, .int .i64 0, .imm 0 [] true, .imm 0 [] true, .imm 0 [] true] ∧ tplaces Tryz.prog 169 = some [(0, 5), (5, 1)] ∧ tfield Tryz.prog 169 0 = some (0, 29) ∧ tfield Tryz.prog 169 1 = some (5, 167) := by (repeat' apply And.intro) <;> kernel_rfl
@[go_sem] theorem ty171 : tsz Tryz.prog 171 = 7 ∧ tbytes Tryz.prog 171 = 120 ∧ tagg Tryz.prog 171 = some true ∧ tslice Tryz.prog 171 = none ∧ tarray Tryz.prog 171 = none ∧ tmap Tryz.prog 171 = none ∧ tstring Tryz.prog 171 = false ∧ tint Tryz.prog 171 = none ∧ tbool Tryz.prog 171 = false ∧ tptr Tryz.prog 171 = false ∧ tzero Tryz.prog 171 = .agg [.int .i64 0, .imm 0 [] true, .int .i64 0, .int .i64 0, .imm 0 [] true, .imm 0 [] true, .imm 0 [] true] ∧ tplaces Tryz.prog 171 = some [(0, 1), (1, 5), (6, 1)] ∧ tfield Tryz.prog 171 0 = some (0, 3) ∧ tfield Tryz.prog 171 1 = some (1, 29) ∧ tfield Tryz.prog 171 2 = some (6, 22) := by (repeat' apply And.intro) <;> kernel_rfl
@[go_sem] theorem ty176 : tsz Tryz.prog 176 = 4 ∧ tbytes Tryz.prog 176 = 40 ∧ tagg Tryz.prog 176 = some true ∧ tslice Tryz.prog 176 = none ∧ tarray Tryz.prog 176 = none ∧ tmap Tryz.prog 176 = none ∧ tstring Tryz.prog 176 = false ∧ tint Tryz.prog 176 = none ∧ tbool Tryz.prog 176 = false ∧ tptr Tryz.prog 176 = false ∧ tzero Tryz.prog 176 = .agg [.imm 0 [] true, .bool false, .bool false, .int .i64 0] ∧ tplaces Tryz.prog 176 = some [(0, 1), (1, 3)] ∧ tfield Tryz.prog 176 0 = some (0, 22) ∧ tfield Tryz.prog 176 1 = some (1, 140) := by (repeat' apply And.intro) <;> kernel_rfl
@[go_sem] theorem ty179 : tsz Tryz.prog 179 = 1 ∧ tbytes Tryz.prog 179 = 8 ∧ tagg Tryz.prog 179 = some false ∧ tslice Tryz.prog 179 = none ∧ tarray Tryz.prog 179 = none ∧ tmap Tryz.prog 179 = none ∧ tstring Tryz.prog 179 = false ∧ tint Tryz.prog 179 = none ∧ tbool Tryz.prog 179 = false ∧ tptr Tryz.prog 179 = false ∧ tzero Tryz.prog 179 = .nilf := by (repeat' apply And.intro) <;> kernel_rfl
@[go_sem] theorem ty186 : tsz Tryz.prog 186 = 1 ∧ tbytes Tryz.prog 186 = 8 ∧ tagg Tryz.prog 186 = some false ∧ tslice Tryz.prog 186 = none ∧ tarray Tryz.prog 186 = none ∧ tmap Tryz.prog 186 = none ∧ tstring Tryz.prog 186 = false ∧ tint Tryz.prog 186 = none ∧ tbool Tryz.prog 186 = false ∧ tptr Tryz.prog 186 = false ∧ tzero Tryz.prog 186 = .nilf := by (repeat' apply And.intro) <;> kernel_rfl
@[go_sem] theorem ty190 : tsz Tryz.prog 190 = 1 ∧ tbytes Tryz.prog 190 = 8 ∧ tagg Tryz.prog 190 = some false ∧ tslice Tryz.prog 190 = none ∧ tarray Tryz.prog 190 = none ∧ tmap Tryz.prog 190 = none ∧ tstring Tryz.prog 190 = false ∧ tint Tryz.prog 190 = none ∧ tbool Tryz.prog 190 = false ∧ tptr Tryz.prog 190 = false ∧ tzero Tryz.prog 190 = .nilf := by (repeat' apply And.intro) <;> kernel_rfl
@[go_sem] theorem ty193 : tsz Tryz.prog 193 = 2 ∧ tbytes Tryz.prog 193 = 16 ∧ tagg Tryz.prog 193 = some true ∧ tslice Tryz.prog 193 = none ∧ tarray Tryz.prog 193 = none ∧ tmap Tryz.prog 193 = none ∧ tstring Tryz.prog 193 = false ∧ tint Tryz.prog 193 = none ∧ tbool Tryz.prog 193 = false ∧ tptr Tryz.prog 193 = false ∧ tzero Tryz.prog 193 = .agg [.int .i64 0, .int .i64 0] ∧ tplaces Tryz.prog 193 = some [(0, 1), (1, 1)] ∧ tfield Tryz.prog 193 0 = some (0, 3) ∧ tfield Tryz.prog 193 1 = some (1, 3) := by (repeat' apply And.intro) <;> kernel_rfl
@[go_sem] theorem ty198 : tsz Tryz.prog 198 = 6 ∧ tbytes Tryz.prog 198 = 72 ∧ tagg Tryz.prog 198 = some true ∧ tslice Tryz.prog 198 = none ∧ tarray Tryz.prog 198 = none ∧ tmap Tryz.prog 198 = none ∧ tstring Tryz.prog 198 = false ∧ tint Tryz.prog 198 = none ∧ tbool Tryz.prog 198 = false ∧ tptr Tryz.prog 198 = false ∧ tzero Tryz.prog 198 = .agg [.int .i64 0, .int .i64 0, .str .empty, .int .i64 0, .int .i64 0, .imm 0 [] true] ∧ tplaces Tryz.prog 198 = some [(0, 1), (1, 1), (2, 1), (3, 1), (4, 1), (5, 1)] ∧ tfield Tryz.prog 198 0 = some (0, 3) ∧ tfield Tryz.prog 198 1 = some (1, 3) ∧ tfield Tryz.prog 198 2 = some (2, 9) ∧ tfield Tryz.prog 198 3 = some (3, 3) ∧ tfield Tryz.prog 198 4 = some (4, 3) ∧ tfield Tryz.prog 198 5 = some (5, 23) := by (repeat' apply And.intro) <;> kernel_rfl
@[go_sem] theorem ty199 : tsz Tryz.prog 199 = 1 ∧ tbytes Tryz.prog 199 = 8 ∧ tagg Tryz.prog 199 = some false ∧ tslice Tryz.prog 199 = none ∧ tarray Tryz.prog 199 = none ∧ tmap Tryz.prog 199 = none ∧ tstring Tryz.prog 199 = false ∧ tint Tryz.prog 199 = none ∧ tbool Tryz.prog 199 = false ∧ tptr Tryz.prog 199 = false ∧ tzero Tryz.prog 199 = .nilf := by (repeat' apply And.intro) <;> kernel_rfl
@[go_sem] theorem ty201 : tsz Tryz.prog 201 = 1 ∧ tbytes Tryz.prog 201 = 8 ∧ tagg Tryz.prog 201 = some false ∧ tslice Tryz.prog 201 = none ∧ tarray Tryz.prog 201 = none ∧ tmap Tryz.prog 201 = none ∧ tstring Tryz.prog 201 = false ∧ tint Tryz.prog 201 = none ∧ tbool Tryz.prog 201 = false ∧ tptr Tryz.prog 201 = false ∧ tzero Tryz.prog 201 = .nilf := by (repeat' apply And.intro) <;> kernel_rfl
@[go_sem] theorem ty204 : tsz Tryz.prog 204 = 1 ∧ tbytes Tryz.prog 204 = 8 ∧ tagg Tryz.prog 204 = some false ∧ tslice Tryz.prog 204 = none ∧ tarray Tryz.prog 204 = none ∧ tmap Tryz.prog 204 = none ∧ tstring Tryz.prog 204 = false ∧ tint Tryz.prog 204 = none ∧ tbool Tryz.prog 204 = false ∧ tptr Tryz.prog 204 = false ∧ tzero Tryz.prog 204 = .nilf := by (repeat' apply And.intro) <;> kernel_rfl
@[go_sem] theorem ty205 : tsz Tryz.prog 205 = 1 ∧ tbytes Tryz.prog 205 = 8 ∧ tagg Tryz.prog 205 = some false ∧ tslice Tryz.prog 205 = none ∧ tarray Tryz.prog 205 = none ∧ tmap Tryz.prog 205 = none ∧ tstring Tryz.prog 205 = false ∧ tint Tryz.prog 205 = none ∧ tbool Tryz.prog 205 = false ∧ tptr Tryz.prog 205 = false ∧ tzero Tryz.prog 205 = .nilf := by (repeat' apply And.intro) <;> kernel_rfl
@[go_sem] theorem ty206 : tsz Tryz.prog 206 = 1 ∧ tbytes Tryz.prog 206 = 8 ∧ tagg Tryz.prog 206 = some false ∧ tslice Tryz.prog 206 = none ∧ tarray Tryz.prog 206 = none ∧ tmap Tryz.prog 206 = none ∧ tstring Tryz.prog 206 = false ∧ tint Tryz.prog 206 = none ∧ tbool Tryz.prog 206 = false ∧ tptr Tryz.prog 206 = false ∧ tzero Tryz.prog 206 = .nilf := by (repeat' apply And.intro) <;> kernel_rfl
@[go_sem] theorem ty210 : tsz Tryz.prog 210 = 1 ∧ tbytes Tryz.prog 210 = 8 ∧ tagg Tryz.prog 210 = some false ∧ tslice Tryz.prog 210 = none ∧ tarray Tryz.prog 210 = none ∧ tmap Tryz.prog 210 = none ∧ tstring Tryz.prog 210 = false ∧ tint Tryz.prog 210 = none ∧ tbool Tryz.prog 210 = false ∧ tptr Tryz.prog 210 = false ∧ tzero Tryz.prog 210 = .nilf := by (repeat' apply And.intro) <;> kernel_rfl
@[go_sem] theorem ty213 : tsz Tryz.prog 213 = 1 ∧ tbytes Tryz.prog 213 = 8 ∧ tagg Tryz.prog 213 = some false ∧ tslice Tryz.prog 213 = none ∧ tarray Tryz.prog 213 = none ∧ tmap Tryz.prog 213 = none ∧ tstring Tryz.prog 213 = false ∧ tint Tryz.prog 213 = some .u64 ∧ tbool Tryz.prog 213 = false ∧ tptr Tryz.prog 213 = false ∧ tzero Tryz.prog 213 = .int .u64 0 := by (repeat' apply And.intro) <;> kernel_rfl
@[go_sem] theorem ty218 : tsz Tryz.prog 218 = 2 ∧ tbytes Tryz.prog 218 = 48 ∧ tagg Tryz.prog 218 = some true ∧ tslice Tryz.prog 218 = none ∧ tarray Tryz.prog 218 = none ∧ tmap Tryz.prog 218 = none ∧ tstring Tryz.prog 218 = false ∧ tint Tryz.prog 218 = none ∧ tbool Tryz.prog 218 = false ∧ tptr Tryz.prog 218 = false ∧ tzero Tryz.prog 218 = .agg [.imm 0 [] true, .imm 0 [] true] ∧ tplaces Tryz.prog 218 = some [(0, 1), (1, 1)] ∧ tfield Tryz.prog 218 0 = some (0, 61) ∧ tfield Tryz.prog 218 1 = some (1, 61) := by (repeat' apply And.intro) <;> kernel_rfl
@[go_sem] theorem ty219 : tsz Tryz.prog 219 = 1 ∧ tbytes Tryz.prog 219 = 24 ∧ tagg Tryz.prog 219 = some false ∧ tslice Tryz.prog 219 = some 47 ∧ tarray Tryz.prog 219 = none ∧ tmap Tryz.prog 219 = none ∧ tstring Tryz.prog 219 = false ∧ tint Tryz.prog 219 = none ∧ tbool Tryz.prog 219 = false ∧ tptr Tryz.prog 219 = false ∧ tzero Tryz.prog 219 = .imm 0 [] true := by (repeat' apply And.intro) <;> kernel_rfl
@[go_sem] theorem ty226 : tsz Tryz.prog 226 = 1 ∧ tbytes Tryz.prog 226 = 8 ∧ tagg Tryz.prog 226 = some false ∧ tslice Tryz.prog 226 = none ∧ tarray Tryz.prog 226 = none ∧ tmap Tryz.prog 226 = none ∧ tstring Tryz.prog 226 = false ∧ tint Tryz.prog 226 = none ∧ tbool Tryz.prog 226 = false ∧ tptr Tryz.prog 226 = false ∧ tzero Tryz.prog 226 = .nilf := by (repeat' apply And.intro) <;> kernel_rfl
@[go_sem] theorem ty228 : tsz Tryz.prog 228 = 1 ∧ tbytes Tryz.prog 228 = 8 ∧ tagg Tryz.prog 228 = some false ∧ tslice Tryz.prog 228 = none ∧ tarray Tryz.prog 228 = none ∧ tmap Tryz.prog 228 = none ∧ tstring Tryz.prog 228 = false ∧ tint Tryz.prog 228 = none ∧ tbool Tryz.prog 228 = false ∧ tptr Tryz.prog 228 = false ∧ tzero Tryz.prog 228 = .nilf := by (repeat' apply And.intro) <;> kernel_rfl
@[go_sem] theorem ty239 : tsz Tryz.prog 239 = 2 ∧ tbytes Tryz.prog 239 = 16 ∧ tagg Tryz.prog 239 = some true ∧ tslice Tryz.prog 239 = none ∧ tarray Tryz.prog 239 = some (2, 3) ∧ tmap Tryz.prog 239 = none ∧ tstring Tryz.prog 239 = false ∧ tint Tryz.prog 239 = none ∧ tbool Tryz.prog 239 = false ∧ tptr Tryz.prog 239 = false ∧ tzero Tryz.prog 239 = .agg [.int .i64 0, .int .i64 0] ∧ tplaces Tryz.prog 239 = some [(0, 1), (1, 1)] := by (repeat' apply And.intro) <;> kernel_rfl
@[go_sem] theorem ty243 : tsz Tryz.prog 243 = 1 ∧ tbytes Tryz.prog 243 = 8 ∧ tagg Tryz.prog 243 = some false ∧ tslice Tryz.prog 243 = none ∧ tarray Tryz.prog 243 = none ∧ tmap Tryz.prog 243 = none ∧ tstring Tryz.prog 243 = false ∧ tint Tryz.prog 243 = none ∧ tbool Tryz.prog 243 = false ∧ tptr Tryz.prog 243 = false ∧ tzero Tryz.prog 243 = .nilf := by (repeat' apply And.intro) <;> kernel_rfl
@[go_sem] theorem ty259 : tsz Tryz.prog 259 = 1 ∧ tbytes Tryz.prog 259 = 8 ∧ tagg Tryz.prog 259 = some false ∧ tslice Tryz.prog 259 = none ∧ tarray Tryz.prog 259 = none ∧ tmap Tryz.prog 259 = none ∧ tstring Tryz.prog 259 = false ∧ tint Tryz.prog 259 = none ∧ tbool Tryz.prog 259 = false ∧ tptr Tryz.prog 259 = false ∧ tzero Tryz.prog 259 = .nilf := by (repeat' apply And.intro) <;> kernel_rfl
@[go_sem] theorem ty262 : tsz Tryz.prog 262 = 1 ∧ tbytes Tryz.prog 262 = 8 ∧ tagg Tryz.prog 262 = some false ∧ tslice Tryz.prog 262 = none ∧ tarray Tryz.prog 262 = none ∧ tmap Tryz.prog 262 = none ∧ tstring Tryz.prog 262 = false ∧ tint Tryz.prog 262 = none ∧ tbool Tryz.prog 262 = false ∧ tptr Tryz.prog 262 = false ∧ tzero Tryz.prog 262 = .nilf := by (repeat' apply And.intro) <;> kernel_rfl
@[go_sem] theorem ty278 : tsz Tryz.prog 278 = 1 ∧ tbytes Tryz.prog 278 = 8 ∧ tagg Tryz.prog 278 = some false ∧ tslice Tryz.prog 278 = none ∧ tarray Tryz.prog 278 = none ∧ tmap Tryz.prog 278 = none ∧ tstring Tryz.prog 278 = false ∧ tint Tryz.prog 278 = none ∧ tbool Tryz.prog 278 = false ∧ tptr Tryz.prog 278 = false ∧ tzero Tryz.prog 278 = .nilf := by (repeat' apply And.intro) <;> kernel_rfl
@[go_sem] theorem ty282 : tsz Tryz.prog 282 = 1 ∧ tbytes Tryz.prog 282 = 8 ∧ tagg Tryz.prog 282 = some false ∧ tslice Tryz.prog 282 = none ∧ tarray Tryz.prog 282 = none ∧ tmap Tryz.prog 282 = none ∧ tstring Tryz.prog 282 = false ∧ tint Tryz.prog 282 = none ∧ tbool Tryz.prog 282 = false ∧ tptr Tryz.prog 282 = false ∧ tzero Tryz.prog 282 = .nilf := by (repeat' apply And.intro) <;> kernel_rfl
@[go_sem] theorem ty285 : tsz Tryz.prog 285 = 1 ∧ tbytes Tryz.prog 285 = 8 ∧ tagg Tryz.prog 285 = some false ∧ tslice Tryz.prog 285 = none ∧ tarray Tryz.prog 285 = none ∧ tmap Tryz.prog 285 = none ∧ tstring Tryz.prog 285 = false ∧ tint Tryz.prog 285 = none ∧ tbool Tryz.prog 285 = false ∧ tptr Tryz.prog 285 = false ∧ tzero Tryz.prog 285 = .nilf := by (repeat' apply And.intro) <;> kernel_rfl
@[go_sem] theorem ty289 : tsz Tryz.prog 289 = 1 ∧ tbytes Tryz.prog 289 = 24 ∧ tagg Tryz.prog 289 = some false ∧ tslice Tryz.prog 289 = some 291 ∧ tarray Tryz.prog 289 = none ∧ tmap Tryz.prog 289 = none ∧ tstring Tryz.prog 289 = false ∧ tint Tryz.prog 289 = none ∧ tbool Tryz.prog 289 = false ∧ tptr Tryz.prog 289 = false ∧ tzero Tryz.prog 289 = .imm 0 [] true := by (repeat' apply And.intro) <;> kernel_rfl
@[go_sem] theorem ty291 : tsz Tryz.prog 291 = 2 ∧ tbytes Tryz.prog 291 = 16 ∧ tagg Tryz.prog 291 = some true ∧ tslice Tryz.prog 291 = none ∧ tarray Tryz.prog 291 = none ∧ tmap Tryz.prog 291 = none ∧ tstring Tryz.prog 291 = false ∧ tint Tryz.prog 291 = none ∧ tbool Tryz.prog 291 = false ∧ tptr Tryz.prog 291 = false ∧ tzero Tryz.prog 291 = .agg [.int .i64 0, .bool false] ∧ tplaces Tryz.prog 291 = some [(0, 1), (1, 1)] ∧ tfield Tryz.prog 291 0 = some (0, 3) ∧ tfield Tryz.prog 291 1 = some (1, 4) := by (repeat' apply And.intro) <;> kernel_rfl
@[go_sem] theorem ty299 : tsz Tryz.prog 299 = 1 ∧ tbytes Tryz.prog 299 = 8 ∧ tagg Tryz.prog 299 = some false ∧ tslice Tryz.prog 299 = none ∧ tarray Tryz.prog 299 = none ∧ tmap Tryz.prog 299 = none ∧ tstring Tryz.prog 299 = false ∧ tint Tryz.prog 299 = some .i64 ∧ tbool Tryz.prog 299 = false ∧ tptr Tryz.prog 299 = false ∧ tzero Tryz.prog 299 = .int .i64 0 := by (repeat' apply And.intro) <;> kernel_rfl
@[go_sem] theorem ty306 : tsz Tryz.prog 306 = 1 ∧ tbytes Tryz.prog 306 = 4 ∧ tagg Tryz.prog 306 = some false ∧ tslice Tryz.prog 306 = none ∧ tarray Tryz.prog 306 = none ∧ tmap Tryz.prog 306 = none ∧ tstring Tryz.prog 306 = false ∧ tint Tryz.prog 306 = some .u32 ∧ tbool Tryz.prog 306 = false ∧ tptr Tryz.prog 306 = false ∧ tzero Tryz.prog 306 = .int .u32 0 := by (repeat' apply And.intro) <;> kernel_rfl
@[go_sem] theorem ty308 : tsz Tryz.prog 308 = 1 ∧ tbytes Tryz.prog 308 = 8 ∧ tagg Tryz.prog 308 = some false ∧ tslice Tryz.prog 308 = none ∧ tarray Tryz.prog 308 = none ∧ tmap Tryz.prog 308 = none ∧ tstring Tryz.prog 308 = false ∧ tint Tryz.prog 308 = some .u64 ∧ tbool Tryz.prog 308 = false ∧ tptr Tryz.prog 308 = false ∧ tzero Tryz.prog 308 = .int .u64 0 := by (repeat' apply And.intro) <;> kernel_rfl
@[go_sem] theorem ty309 : tsz Tryz.prog 309 = 1 ∧ tbytes Tryz.prog 309 = 8 ∧ tagg Tryz.prog 309 = some false ∧ tslice Tryz.prog 309 = none ∧ tarray Tryz.prog 309 = none ∧ tmap Tryz.prog 309 = none ∧ tstring Tryz.prog 309 = false ∧ tint Tryz.prog 309 = none ∧ tbool Tryz.prog 309 = false ∧ tptr Tryz.prog 309 = false ∧ tzero Tryz.prog 309 = .nilf := by (repeat' apply And.intro) <;> kernel_rfl
@[go_sem] theorem ty311 : tsz Tryz.prog 311 = 1 ∧ tbytes Tryz.prog 311 = 24 ∧ tagg Tryz.prog 311 = some false ∧ tslice Tryz.prog 311 = some 61 ∧ tarray Tryz.prog 311 = none ∧ tmap Tryz.prog 311 = none ∧ tstring Tryz.prog 311 = false ∧ tint Tryz.prog 311 = none ∧ tbool Tryz.prog 311 = false ∧ tptr Tryz.prog 311 = false ∧ tzero Tryz.prog 311 = .imm 0 [] true := by (repeat' apply And.intro) <;> kernel_rfl
@[go_sem] theorem ty319 : tsz Tryz.prog 319 = 1 ∧ tbytes Tryz.prog 319 = 24 ∧ tagg Tryz.prog 319 = some false ∧ tslice Tryz.prog 319 = some 22 ∧ tarray Tryz.prog 319 = none ∧ tmap Tryz.prog 319 = none ∧ tstring Tryz.prog 319 = false ∧ tint Tryz.prog 319 = none ∧ tbool Tryz.prog 319 = false ∧ tptr Tryz.prog 319 = false ∧ tzero Tryz.prog 319 = .imm 0 [] true := by (repeat' apply And.intro) <;> kernel_rfl
@[go_sem] theorem ty323 : tsz Tryz.prog 323 = 1 ∧ tbytes Tryz.prog 323 = 8 ∧ tagg Tryz.prog 323 = some false ∧ tslice Tryz.prog 323 = none ∧ tarray Tryz.prog 323 = none ∧ tmap Tryz.prog 323 = none ∧ tstring Tryz.prog 323 = false ∧ tint Tryz.prog 323 = none ∧ tbool Tryz.prog 323 = false ∧ tptr Tryz.prog 323 = false ∧ tzero Tryz.prog 323 = .nilf := by (repeat' apply And.intro) <;> kernel_rfl
@[go_sem] theorem ty329 : tsz Tryz.prog 329 = 1 ∧ tbytes Tryz.prog 329 = 8 ∧ tagg Tryz.prog 329 = some false ∧ tslice Tryz.prog 329 = none ∧ tarray Tryz.prog 329 = none ∧ tmap Tryz.prog 329 = none ∧ tstring Tryz.prog 329 = false ∧ tint Tryz.prog 329 = none ∧ tbool Tryz.prog 329 = false ∧ tptr Tryz.prog 329 = false ∧ tzero Tryz.prog 329 = .nilf := by (repeat' apply And.intro) <;> kernel_rfl
@[go_sem] theorem ty333 : tsz Tryz.prog 333 = 6 ∧ tbytes Tryz.prog 333 = 56 ∧ tagg Tryz.prog 333 = some true ∧ tslice Tryz.prog 333 = none ∧ tarray Tryz.prog 333 = none ∧ tmap Tryz.prog 333 = none ∧ tstring Tryz.prog 333 = false ∧ tint Tryz.prog 333 = none ∧ tbool Tryz.prog 333 = false ∧ tptr Tryz.prog 333 = false ∧ tzero Tryz.prog 333 = .agg [.int .i64 0, .int .i64 0, .int .i64 0, .int .i64 0, .int .i64 0, .str .empty] ∧ tplaces Tryz.prog 333 = some [(0, 1), (1, 1), (2, 1), (3, 1), (4, 1), (5, 1)] ∧ tfield Tryz.prog 333 0 = some (0, 3) ∧ tfield Tryz.prog 333 1 = some (1, 3) ∧ tfield Tryz.prog 333 2 = some (2, 3) ∧ tfield Tryz.prog 333 3 = some (3, 3) ∧ tfield Tryz.prog 333 4 = some (4, 3) ∧ tfield Tryz.prog 333 5 = some (5, 9) := by (repeat' apply And.intro) <;> kernel_rfl
@[go_sem] theorem ty342 : tsz Tryz.prog 342 = 1 ∧ tbytes Tryz.prog 342 = 8 ∧ tagg Tryz.prog 342 = some false ∧ tslice Tryz.prog 342 = none ∧ tarray Tryz.prog 342 = none ∧ tmap Tryz.prog 342 = none ∧ tstring Tryz.prog 342 = false ∧ tint Tryz.prog 342 = some .u64 ∧ tbool Tryz.prog 342 = false ∧ tptr Tryz.prog 342 = false ∧ tzero Tryz.prog 342 = .int .u64 0 := by (repeat' apply And.intro) <;> kernel_rfl
@[go_sem] theorem ty361 : tsz Tryz.prog 361 = 1 ∧ tbytes Tryz.prog 361 = 24 ∧ tagg Tryz.prog 361 = some false ∧ tslice Tryz.prog 361 = some 366 ∧ tarray Tryz.prog 361 = none ∧ tmap Tryz.prog 361 = none ∧ tstring Tryz.prog 361 = false ∧ tint Tryz.prog 361 = none ∧ tbool Tryz.prog 361 = false ∧ tptr Tryz.prog 361 = false ∧ tzero Tryz.prog 361 = .imm 0 [] true := by (repeat' apply And.intro) <;> kernel_rfl
@[go_sem] theorem ty366 : tsz Tryz.prog 366 = 3 ∧ tbytes Tryz.prog 366 = 32 ∧ tagg Tryz.prog 366 = some true ∧ tslice Tryz.prog 366 = none ∧ tarray Tryz.prog 366 = none ∧ tmap Tryz.prog 366 = none ∧ tstring Tryz.prog 366 = false ∧ tint Tryz.prog 366 = none ∧ tbool Tryz.prog 366 = false ∧ tptr Tryz.prog 366 = false ∧ tzero Tryz.prog 366 = .agg [.str .empty, .int .i64 0, .bool false] ∧ tplaces Tryz.prog 366 = some [(0, 1), (1, 1), (2, 1)] ∧ tfield Tryz.prog 366 0 = some (0, 9) ∧ tfield Tryz.prog 366 1 = some (1, 3) ∧ tfield Tryz.prog 366 2 = some (2, 4) := by (repeat' apply And.intro) <;> kernel_rfl
@[go_sem] theorem ty367 : tsz Tryz.prog 367 = 1 ∧ tbytes Tryz.prog 367 = 8 ∧ tagg Tryz.prog 367 = some false ∧ tslice Tryz.prog 367 = none ∧ tarray Tryz.prog 367 = none ∧ tmap Tryz.prog 367 = none ∧ tstring Tryz.prog 367 = false ∧ tint Tryz.prog 367 = none ∧ tbool Tryz.prog 367 = false ∧ tptr Tryz.prog 367 = false ∧ tzero Tryz.prog 367 = .nilf := by (repeat' apply And.intro) <;> kernel_rfl
@[go_sem] theorem ty368 : tsz Tryz.prog 368 = 1 ∧ tbytes Tryz.prog 368 = 24 ∧ tagg Tryz.prog 368 = some false ∧ tslice Tryz.prog 368 = some 333 ∧ tarray Tryz.prog 368 = none ∧ tmap Tryz.prog 368 = none ∧ tstring Tryz.prog 368 = false ∧ tint Tryz.prog 368 = none ∧ tbool Tryz.prog 368 = false ∧ tptr Tryz.prog 368 = false ∧ tzero Tryz.prog 368 = .imm 0 [] true := by (repeat' apply And.intro) <;> kernel_rfl
@[go_sem] theorem ty371 : tsz Tryz.prog 371 = 1 ∧ tbytes Tryz.prog 371 = 8 ∧ tagg Tryz.prog 371 = some false ∧ tslice Tryz.prog 371 = none ∧ tarray Tryz.prog 371 = none ∧ tmap Tryz.prog 371 = none ∧ tstring Tryz.prog 371 = false ∧ tint Tryz.prog 371 = none ∧ tbool Tryz.prog 371 = false ∧ tptr Tryz.prog 371 = false ∧ tzero Tryz.prog 371 = .nilf := by (repeat' apply And.intro) <;> kernel_rfl
@[go_sem] theorem ty381 : tsz Tryz.prog 381 = 1 ∧ tbytes Tryz.prog 381 = 24 ∧ tagg Tryz.prog 381 = some false ∧ tslice Tryz.prog 381 = some 5 ∧ tarray Tryz.prog 381 = none ∧ tmap Tryz.prog 381 = none ∧ tstring Tryz.prog 381 = false ∧ tint Tryz.prog 381 = none ∧ tbool Tryz.prog 381 = false ∧ tptr Tryz.prog 381 = false ∧ tzero Tryz.prog 381 = .imm 0 [] true := by (repeat' apply And.intro) <;> kernel_rfl
@[go_sem] theorem ty382 : tsz Tryz.prog 382 = 1 ∧ tbytes Tryz.prog 382 = 8 ∧ tagg Tryz.prog 382 = some false ∧ tslice Tryz.prog 382 = none ∧ tarray Tryz.prog 382 = none ∧ tmap Tryz.prog 382 = none ∧ tstring Tryz.prog 382 = false ∧ tint Tryz.prog 382 = none ∧ tbool Tryz.prog 382 = false ∧ tptr Tryz.prog 382 = false ∧ tzero Tryz.prog 382 = .nilf := by (repeat' apply And.intro) <;> kernel_rfl
@[go_sem] theorem ty383 : tsz Tryz.prog 383 = 1 ∧ tbytes Tryz.prog 383 = 8 ∧ tagg Tryz.prog 383 = some false ∧ tslice Tryz.prog 383 = none ∧ tarray Tryz.prog 383 = none ∧ tmap Tryz.prog 383 = none ∧ tstring Tryz.prog 383 = false ∧ tint Tryz.prog 383 = none ∧ tbool Tryz.prog 383 = false ∧ tptr Tryz.prog 383 = true ∧ tzero Tryz.prog 383 = .nilp := by (repeat' apply And.intro) <;> kernel_rfl
@[go_sem] theorem ty384 : tsz Tryz.prog 384 = 1 ∧ tbytes Tryz.prog 384 = 8 ∧ tagg Tryz.prog 384 = some false ∧ tslice Tryz.prog 384 = none ∧ tarray Tryz.prog 384 = none ∧ tmap Tryz.prog 384 = none ∧ tstring Tryz.prog 384 = false ∧ tint Tryz.prog 384 = none ∧ tbool Tryz.prog 384 = false ∧ tptr Tryz.prog 384 = true ∧ tzero Tryz.prog 384 = .nilp := by (repeat' apply And.intro) <;> kernel_rfl
@[go_sem] theorem ty386 : tsz Tryz.prog 386 = 2 ∧ tbytes Tryz.prog 386 = 32 ∧ tagg Tryz.prog 386 = some true ∧ tslice Tryz.prog 386 = none ∧ tarray Tryz.prog 386 = none ∧ tmap Tryz.prog 386 = none ∧ tstring Tryz.prog 386 = false ∧ tint Tryz.prog 386 = none ∧ tbool Tryz.prog 386 = false ∧ tptr Tryz.prog 386 = false ∧ tzero Tryz.prog 386 = .agg [.nilp, .imm 0 [] true] ∧ tplaces Tryz.prog 386 = some [(0, 1), (1, 1)] ∧ tfield Tryz.prog 386 0 = some (0, 384) ∧ tfield Tryz.prog 386 1 = some (1, 381) := by (repeat' apply And.intro) <;> kernel_rfl
@[go_sem] theorem ty388 : tsz Tryz.prog 388 = 7 ∧ tbytes Tryz.prog 388 = 96 ∧ tagg Tryz.prog 388 = some true ∧ tslice Tryz.prog 388 = none ∧ tarray Tryz.prog 388 = none ∧ tmap Tryz.prog 388 = none ∧ tstring Tryz.prog 388 = false ∧ tint Tryz.prog 388 = none ∧ tbool Tryz.prog 388 = false ∧ tptr Tryz.prog 388 = false ∧ tzero Tryz.prog 388 = .agg [.str .empty, .int .i64 0, .nilp, .imm 0 [] true, .imm 0 [] true, .int .i64 0, .int .i64 0] ∧ tplaces Tryz.prog 388 = some [(0, 1), (1, 1), (2, 2), (4, 1), (5, 1), (6, 1)] ∧ tfield Tryz.prog 388 0 = some (0, 9) ∧ tfield Tryz.prog 388 1 = some (1, 3) ∧ tfield Tryz.prog 388 2 = some (2, 386) ∧ tfield Tryz.prog 388 3 = some (4, 361) ∧ tfield Tryz.prog 388 4 = some (5, 3) ∧ tfield Tryz.prog 388 5 = some (6, 47) := by (repeat' apply And.intro) <;> kernel_rfl
@[go_sem] theorem ty391 : tsz Tryz.prog 391 = 1 ∧ tbytes Tryz.prog 391 = 8 ∧ tagg Tryz.prog 391 = some false ∧ tslice Tryz.prog 391 = none ∧ tarray Tryz.prog 391 = none ∧ tmap Tryz.prog 391 = none ∧ tstring Tryz.prog 391 = false ∧ tint Tryz.prog 391 = none ∧ tbool Tryz.prog 391 = false ∧ tptr Tryz.prog 391 = false ∧ tzero Tryz.prog 391 = .nilf := by (repeat' apply And.intro) <;> kernel_rfl
@[go_sem] theorem ty403 : tsz Tryz.prog 403 = 1 ∧ tbytes Tryz.prog 403 = 8 ∧ tagg Tryz.prog 403 = some false ∧ tslice Tryz.prog 403 = none ∧ tarray Tryz.prog 403 = none ∧ tmap Tryz.prog 403 = none ∧ tstring Tryz.prog 403 = false ∧ tint Tryz.prog 403 = none ∧ tbool Tryz.prog 403 = false ∧ tptr Tryz.prog 403 = false ∧ tzero Tryz.prog 403 = .nilp := by (repeat' apply And.intro) <;> kernel_rfl
@[go_sem] theorem ty405 : tsz Tryz.prog 405 = 1 ∧ tbytes Tryz.prog 405 = 8 ∧ tagg Tryz.prog 405 = some false ∧ tslice Tryz.prog 405 = none ∧ tarray Tryz.prog 405 = none ∧ tmap Tryz.prog 405 = none ∧ tstring Tryz.prog 405 = false ∧ tint Tryz.prog 405 = none ∧ tbool Tryz.prog 405 = false ∧ tptr Tryz.prog 405 = true ∧ tzero Tryz.prog 405 = .nilp := by (repeat' apply And.intro) <;> kernel_rfl
attribute [go_sem] rowT stepE calleeY guardS sop yes evS look putT initSA callee ofValue ofScalar asm takeN spliceN fillS intBin strBin binS isNil keyEq findS setAt flat lenS zOk copyS clearS minS maxS loadS storeS fieldPtr indexPtr bnd sliceS mapOf Out.app appendMake
  SV.cells SV.storable
section
variable (P : Program) (h : Hp) (n : Nat) (t t2 : TypeId)
@[go_sem] theorem bi_len (x : SV) : builtinS P h n .len [t] [x] = match x with
    | .str s => if tstring P t then yes (.int .i64 s.size) else none
    | .imm _ es _ => if (tslice P t).isSome then yes (.int .i64 es.length) else none
    | .sl _ _ _ len _ => if (tslice P t).isSome then yes (.int .i64 len) else none
    | .map o => match h o with | some (.map es) => if (tmap P t).isSome then yes (.int .i64 es.length) else none | _ => none
    | _ => none := by cases x <;> rfl
@[go_sem] theorem bi_cap (x : SV) : builtinS P h n .cap [t] [x] = match x with
    | .imm _ es true => if (tslice P t).isSome then yes (.int .i64 es.length) else none
    | .sl _ _ _ len true => if (tslice P t).isSome then yes (.int .i64 len) else none
    | _ => none := by cases x <;> rfl
@[go_sem] theorem bi_copy (d x : SV) : builtinS P h n .copy [t, t2] [d, x] = copyS P h t d x := rfl
@[go_sem] theorem bi_clear (d : SV) : builtinS P h n .clear [t] [d] = clearS P h t d := rfl
@[go_sem] theorem bi_min (ts : List TypeId) (l : List SV) : builtinS P h n .min ts l = (minS l).bind yes := by simp [builtinS]
@[go_sem] theorem bi_max (ts : List TypeId) (l : List SV) : builtinS P h n .max ts l = (maxS l).bind yes := by simp [builtinS]
@[go_sem] theorem bi_delete (o : Nat) (k : SV) : builtinS P h n .delete [t, t2] [.map o, k] = match tmap P t, h o with
    | some (kt, _), some (.map es) =>
      if !keyOk P kt k then none else
      match findS k es 0 with
      | some (some (i, _)) => some { val := .tup [], upd := some (o, some (.map (es.eraseIdx i))) }
      | some none => some { val := .tup [], upd := some (o, some (.map es)) }
      | none => none
    | _, _ => none := rfl
end
theorem follows : Proofs.Tryz.prog.follows .mixedOrders = true := by kernel_rfl
section
variable {E : Env} {P : Program} {N : Nat}
end
attribute [simp] Fz.same
theorem Fz.any {h h2 : Hp} : ∀ (k : Nat) {v r : SV}, Fz (fun _ => none) (fun _ => none) k v r → Fz h h2 k v r
  | 0, _, _, H => H
  | k + 1, v, r, H => by
    have ih : ∀ {us bs : List SV}, All2 (Fz (fun _ => none) (fun _ => none) k) us bs → All2 (Fz h h2 k) us bs := fun H => H.mono fun _ _ => Fz.any k
    rcases H with H | H
    · exact .inl H
    · refine .inr ?_
      split at H
      · trivial
      · obtain ⟨_, _, _, _, _, _, h1, _⟩ := H; cases h1
      · obtain ⟨_, _, h1, _⟩ := H; cases h1
      · exact ih H
      · exact ih H
      · exact ⟨H.1, ih H.2.1, ih H.2.2⟩
      · exact ih H
      · exact ⟨H.1, H.2.1, ih H.2.2.1, H.2.2.2⟩
      · exact H.elim
section
variable {E : Env} {P : Program} {N : Nat}
theorem FR.fz {sa sb : SA} {h h2 : Hp} {c : Cx} {a : Act} (k : Nat) (R : Rel h c) (hs : ∀ o x, h2 o = some x → h o = some x) (A : FR E N sa c a) (hw : ∀ p ∈ sb, Fz h h2 k (look sa p.1) p.2) : FR E N sb (c.less h2) a := by
  refine ⟨A.size, A.defers.mono (less_ext R hs), fun t => ?_⟩
  have key : ∀ l : SA, (∀ p ∈ l, Fz h h2 k (look sa p.1) p.2) → look l t = .junk ∨ Fz h h2 k (look sa t) (look l t) := by
    intro l
    induction l with
    | nil => intro _; exact .inl rfl
    | cons p l ih =>
      intro hl
      obtain ⟨j, x⟩ := p
      simp only [look]
      by_cases e : j = t
      · subst e; simp only [if_true]; exact .inr (hl (j, x) (by simp))
      · simp only [e, if_false]; exact ih fun q hq => hl q (by simp [hq])
  rcases key sb hw with e | e
  · rw [e]; simp [V]
  · exact Fz.sound R hs k e (A.val t)
theorem SWE_fz {code : Code} {Q : Post} {sa sb : SA} {h h2 : Hp} {n m : Nat} (k : Nat) (hs : ∀ o x, h2 o = some x → h o = some x) (hm : n ≤ m) (hw : ∀ p ∈ sb, Fz h h2 k (look sa p.1) p.2) (H : SWE E P N code Q sb h2 m) : SWE E P N code Q sa h n := by
  intro hd c a I R F A
  have F' : Fr m (c.less h2) := fun j hj => F j (Nat.le_trans hm hj)
  refine wpIn_mono (H hd (c.less h2) a (E.ext (less_ext R hs) I) (R.less hs) F' (A.fz k R hs hw)) ?_
  rintro e a' w' ⟨sa', h', n', c', q, hw, R', Fr', A', X⟩
  refine ⟨sa', h', n', c', q, hw, R', Fr', A', ⟨(less_ext R hs).trans X.ext, Nat.le_trans hm X.le, fun j hj => ?_⟩⟩
  exact X.same j (Nat.lt_of_lt_of_le hj hm)
theorem SCallE.fz {f : FuncId} {us bs : List SV} {h h2 : Hp} {n : Nat} {K : SV → Hp → Nat → Prop} (k : Nat) (hs : ∀ o x, h2 o = some x → h o = some x) (hw : All2 (Fz h h2 k) us bs) (H : SCallE E P f bs h2 n K) : SCallE E P f us h n K := by
  refine ⟨H.1, fun c vs I R F A => ?_⟩
  have A' : All2 (V (c.less h2)) bs vs := All2.trans3 (R := V c) (S := Fz h h2 k) (T := V (c.less h2)) (fun a b g h1 h2 => Fz.sound R hs k h2 h1) A hw
  refine (H.2 (c.less h2) vs (E.ext (less_ext R hs) I) (R.less hs) F A').mono ?_
  rintro e w' ⟨u, v, h', n', c', he, q, hw, hv, R', F', X⟩
  exact ⟨u, v, h', n', c', he, q, hw, hv, R', F', ⟨(less_ext R hs).trans X.ext, X.le, X.same⟩⟩
theorem PCall.wk {f : FuncId} {us bs : List SV} {v : SV} (k : Nat) (H : PCall P f bs v) (hw : All2 (Fz (fun _ => none) (fun _ => none) k) us bs) : PCall P f us v := fun h n =>
  SCallE.fz k (fun _ _ e => e) (hw.mono fun _ _ => Fz.any k) (H h n)
mutual
def plainS : SV → Bool
  | .bool _ | .int _ _ | .str _ | .nilp | .nilf | .nilm | .junk => true
  | .agg cs => plainL cs
  | .tup cs => plainL cs
  | _ => false
def plainL : List SV → Bool
  | [] => true
  | s :: ss => plainS s && plainL ss
end
mutual
theorem V.plain {c c' : Cx} : ∀ {s : SV} {v : Value}, plainS s = true → V c s v → V c' s v
  | .bool _, _, _, h => h
  | .int _ _, _, _, h => h
  | .str _, _, _, h => h
  | .nilp, _, _, h => h
  | .nilf, _, _, h => h
  | .nilm, _, _, h => h
  | .junk, _, _, _ => trivial
  | .agg cs, v, hp, h => by rw [V] at *; rw [plainS] at hp; obtain ⟨vs, e, hl, ho⟩ := h; exact ⟨vs, e, VL.plain hp hl, ho⟩
  | .tup cs, v, hp, h => by rw [V] at *; rw [plainS] at hp; obtain ⟨vs, e, hl⟩ := h; exact ⟨vs, e, VL.plain hp hl⟩
  | .fn _ _ _, _, hp, _ => by simp [plainS] at hp
  | .ptr _ _, _, hp, _ => by simp [plainS] at hp
  | .iptr _, _, hp, _ => by simp [plainS] at hp
  | .sl _ _ _ _ _, _, hp, _ => by simp [plainS] at hp
  | .imm _ _ _, _, hp, _ => by simp [plainS] at hp
  | .map _, _, hp, _ => by simp [plainS] at hp
theorem VL.plain {c c' : Cx} : ∀ {s : List SV} {v : List Value}, plainL s = true → VL c s v → VL c' s v
  | [], _, _, h => by rw [VL] at *; exact h
  | s :: ss, v, hp, h => by rw [VL] at *; rw [plainL, Bool.and_eq_true] at hp; obtain ⟨u, r, e, h1, h2⟩ := h; exact ⟨u, r, e, V.plain hp.1 h1, VL.plain hp.2 h2⟩
end
theorem PCall.lend {f : FuncId} {us bs : List SV} {v : SV} {h : Hp} {n : Nat} {K : SV → Hp → Nat → Prop} (k : Nat) (H : PCall P f bs v) (hv : plainS v = true) (hw : All2 (Fz h (fun _ => none) k) us bs) (hk : K v h n) : SCallE E P f us h n K := by
  refine ⟨(H h n).1, fun c vs _ R F A => ?_⟩
  have hs : ∀ o x, (fun _ => none : Hp) o = some x → h o = some x := fun _ _ e => by cases e
  have A' : All2 (V (c.less fun _ => none)) bs vs := All2.trans3 (R := V c) (S := Fz h (fun _ => none) k) (T := V (c.less fun _ => none)) (fun a b g h1 h2 => Fz.sound R hs k h2 h1) A hw
  refine ((H (fun _ => none) n).2 (c.less fun _ => none) vs trivial (R.less hs) F A').mono ?_
  rintro e w' ⟨u, v', h', n', c', he, ⟨rfl, rfl, rfl⟩, rfl, hv', R', F', X0⟩
  have hno : ∀ b, ¬ (c.less fun _ => none).own b := fun b ⟨o, x, st, e, _⟩ => by cases e
  have hρ : ∀ j, c'.ρ j = c.ρ j := fun j => by
    rcases Nat.lt_or_ge j n' with hj | hj
    · exact X0.same j hj
    · rw [F' j hj, F j hj]
  have X : Ext c { c with w := c'.w } := ⟨fun _ _ e => e, X0.ext.size, fun b hb ho => ⟨ho, (X0.ext.keep b hb (hno b)).2⟩, X0.ext.room, X0.ext.os, X0.ext.out⟩
  refine ⟨u, v', h, n', { c with w := c'.w }, he, hk, rfl, hv'.plain hv, ⟨fun o x ho => ?_, R.inj, R.own⟩, F, ⟨X, Nat.le_refl _, fun _ _ => rfl⟩⟩
  refine (R.obj o x ho).mono X fun b st hb => ?_
  obtain ⟨b', st', hb', hlt⟩ := (R.obj o x ho).block
  rw [hb] at hb'; cases hb'
  exact (X0.ext.keep b hlt (hno b)).2
theorem PCall.lendU {f : FuncId} {us bs : List SV} {v : SV} {h : Hp} (k : Nat) (foot : List Nat) (H : PCall P f bs v) (hv : plainS v = true) (hw : ∀ h', (∀ j ∈ foot, h' j = h j) → All2 (Fz h' (fun _ => none) k) us bs) : UCallE E P f us foot [] v h := fun h' _n hf =>
  PCall.lend k H hv (hw h' hf) ⟨rfl, rfl, rfl⟩
theorem swp_loopF (hm : P.follows .mixedOrders = true) {x : Code} {Q : Post} {sa : SA} {h : Hp} {n : Nat} {α : Type} (k : Nat) (fr : α → SA) (hp : α → Hp) (I : α → Nat → Prop) (μ : α → Nat) (a0 : α) (hI : I a0 n)
    (hfr : ∀ p ∈ fr a0, Fz h (hp a0) k (look sa p.1) p.2) (hhp : ∀ o y, hp a0 o = some y → h o = some y)
    (round : ∀ a n, I a n → swpE E P N x (thenQ (fun sa' h' n' => ∃ a', μ a' < μ a ∧ I a' n' ∧ (∀ p ∈ fr a', Fz h' (hp a') k (look sa' p.1) p.2) ∧ (∀ o y, hp a' o = some y → h' o = some y)) Q) (fr a) (hp a) n) :
    SWE E P N (.loop x) Q sa h n := by
  refine SWE_loop (μ a0) (fun m sa h n => ∃ a, m = μ a ∧ I a n ∧ (∀ p ∈ fr a, Fz h (hp a) k (look sa p.1) p.2) ∧ (∀ o y, hp a o = some y → h o = some y)) ⟨a0, rfl, hI, hfr, hhp⟩ ?_
  rintro m sa h n ⟨a, rfl, hI, hfr, hhp⟩
  refine SWE_fz k hhp (Nat.le_refl _) hfr (SWE_mono (swp_sound hm _ _ _ _ _ (round a n hI)) ?_)
  refine thenQ_mono fun sa' h' n' ⟨a', h1, h2, h3, h4⟩ => ⟨μ a', h1, a', rfl, h2, h3, h4⟩
end
open Proofs
@[go_sem] theorem res3 : Tryz.f3.results.toList = [.tmp 4] := rfl
@[go_sem] theorem nt3 : Tryz.f3.ntmps = 52 := rfl
@[go_sem] theorem res11 : Tryz.f11.results.toList = [.tmp 0] := rfl
@[go_sem] theorem nt11 : Tryz.f11.ntmps = 60 := rfl
@[go_sem] theorem res12 : Tryz.f12.results.toList = [.tmp 2] := rfl
@[go_sem] theorem nt12 : Tryz.f12.ntmps = 45 := rfl
@[go_sem] theorem res13 : Tryz.f13.results.toList = [.cell 6 3, .cell 7 3, .tmp 8] := rfl
@[go_sem] theorem nt13 : Tryz.f13.ntmps = 60 := rfl
@[go_sem] theorem res14 : Tryz.f14.results.toList = [.cell 6 3, .cell 7 3, .tmp 8] := rfl
@[go_sem] theorem nt14 : Tryz.f14.ntmps = 60 := rfl
@[go_sem] theorem res15 : Tryz.f15.results.toList = [.cell 8 38, .tmp 9] := rfl
@[go_sem] theorem nt15 : Tryz.f15.ntmps = 105 := rfl
@[go_sem] theorem res20 : Tryz.f20.results.toList = [.cell 4 42, .tmp 5] := rfl
@[go_sem] theorem nt20 : Tryz.f20.ntmps = 38 := rfl
@[go_sem] theorem res21 : Tryz.f21.results.toList = [.cell 2 38] := rfl
@[go_sem] theorem nt21 : Tryz.f21.ntmps = 18 := rfl
@[go_sem] theorem res24 : Tryz.f24.results.toList = [.tmp 2] := rfl
@[go_sem] theorem nt24 : Tryz.f24.ntmps = 62 := rfl
@[go_sem] theorem res32 : Tryz.f32.results.toList = [.cell 0 38] := rfl
@[go_sem] theorem nt32 : Tryz.f32.ntmps = 9 := rfl
@[go_sem] theorem res33 : Tryz.f33.results.toList = [.tmp 6] := rfl
@[go_sem] theorem nt33 : Tryz.f33.ntmps = 133 := rfl
@[go_sem] theorem res34 : Tryz.f34.results.toList = [.cell 4 22, .cell 5 4] := rfl
@[go_sem] theorem nt34 : Tryz.f34.ntmps = 18 := rfl
@[go_sem] theorem res35 : Tryz.f35.results.toList = [.tmp 2, .tmp 3] := rfl
@[go_sem] theorem nt35 : Tryz.f35.ntmps = 27 := rfl
@[go_sem] theorem res36 : Tryz.f36.results.toList = [] := rfl
@[go_sem] theorem nt36 : Tryz.f36.ntmps = 12 := rfl
@[go_sem] theorem res37 : Tryz.f37.results.toList = [] := rfl
@[go_sem] theorem nt37 : Tryz.f37.ntmps = 22 := rfl
@[go_sem] theorem res38 : Tryz.f38.results.toList = [.tmp 4] := rfl
@[go_sem] theorem nt38 : Tryz.f38.ntmps = 9 := rfl
@[go_sem] theorem res39 : Tryz.f39.results.toList = [.cell 8 38] := rfl
@[go_sem] theorem nt39 : Tryz.f39.ntmps = 27 := rfl
@[go_sem] theorem res40 : Tryz.f40.results.toList = [.cell 9 29, .tmp 10] := rfl
@[go_sem] theorem nt40 : Tryz.f40.ntmps = 27 := rfl
@[go_sem] theorem res41 : Tryz.f41.results.toList = [.tmp 4] := rfl
@[go_sem] theorem nt41 : Tryz.f41.ntmps = 52 := rfl
@[go_sem] theorem res42 : Tryz.f42.results.toList = [.tmp 2] := rfl
@[go_sem] theorem nt42 : Tryz.f42.ntmps = 35 := rfl
@[go_sem] theorem res43 : Tryz.f43.results.toList = [] := rfl
@[go_sem] theorem nt43 : Tryz.f43.ntmps = 36 := rfl
@[go_sem] theorem res44 : Tryz.f44.results.toList = [.tmp 2] := rfl
@[go_sem] theorem nt44 : Tryz.f44.ntmps = 41 := rfl
@[go_sem] theorem res45 : Tryz.f45.results.toList = [.tmp 4, .tmp 5] := rfl
@[go_sem] theorem nt45 : Tryz.f45.ntmps = 39 := rfl
@[go_sem] theorem res46 : Tryz.f46.results.toList = [.cell 4 29, .tmp 5] := rfl
@[go_sem] theorem nt46 : Tryz.f46.ntmps = 17 := rfl
@[go_sem] theorem res47 : Tryz.f47.results.toList = [.cell 6 29] := rfl
@[go_sem] theorem nt47 : Tryz.f47.ntmps = 90 := rfl
@[go_sem] theorem res48 : Tryz.f48.results.toList = [.tmp 3] := rfl
@[go_sem] theorem nt48 : Tryz.f48.ntmps = 7 := rfl
@[go_sem] theorem res49 : Tryz.f49.results.toList = [.cell 8 38] := rfl
@[go_sem] theorem nt49 : Tryz.f49.ntmps = 28 := rfl
@[go_sem] theorem res58 : Tryz.f58.results.toList = [.tmp 4] := rfl
@[go_sem] theorem nt58 : Tryz.f58.ntmps = 46 := rfl
@[go_sem] theorem res71 : Tryz.f71.results.toList = [.tmp 2] := rfl
@[go_sem] theorem nt71 : Tryz.f71.ntmps = 37 := rfl
@[go_sem] theorem res72 : Tryz.f72.results.toList = [.tmp 4, .tmp 5] := rfl
@[go_sem] theorem nt72 : Tryz.f72.ntmps = 11 := rfl
@[go_sem] theorem res73 : Tryz.f73.results.toList = [.tmp 2] := rfl
@[go_sem] theorem nt73 : Tryz.f73.ntmps = 93 := rfl
@[go_sem] theorem res74 : Tryz.f74.results.toList = [.tmp 2] := rfl
@[go_sem] theorem nt74 : Tryz.f74.ntmps = 19 := rfl
@[go_sem] theorem res75 : Tryz.f75.results.toList = [.tmp 4] := rfl
@[go_sem] theorem nt75 : Tryz.f75.ntmps = 42 := rfl
@[go_sem] theorem res76 : Tryz.f76.results.toList = [.tmp 2] := rfl
@[go_sem] theorem nt76 : Tryz.f76.ntmps = 8 := rfl
@[go_sem] theorem res77 : Tryz.f77.results.toList = [.tmp 3] := rfl
@[go_sem] theorem nt77 : Tryz.f77.ntmps = 15 := rfl
@[go_sem] theorem res78 : Tryz.f78.results.toList = [.tmp 4, .tmp 5] := rfl
@[go_sem] theorem nt78 : Tryz.f78.ntmps = 54 := rfl
@[go_sem] theorem res79 : Tryz.f79.results.toList = [.cell 2 38] := rfl
@[go_sem] theorem nt79 : Tryz.f79.ntmps = 16 := rfl
@[go_sem] theorem res82 : Tryz.f82.results.toList = [.tmp 2] := rfl
@[go_sem] theorem nt82 : Tryz.f82.ntmps = 15 := rfl
@[go_sem] theorem res83 : Tryz.f83.results.toList = [.tmp 2] := rfl
@[go_sem] theorem nt83 : Tryz.f83.ntmps = 17 := rfl
@[go_sem] theorem res84 : Tryz.f84.results.toList = [.tmp 2] := rfl
@[go_sem] theorem nt84 : Tryz.f84.ntmps = 14 := rfl
@[go_sem] theorem res85 : Tryz.f85.results.toList = [.tmp 2] := rfl
@[go_sem] theorem nt85 : Tryz.f85.ntmps = 64 := rfl
@[go_sem] theorem res86 : Tryz.f86.results.toList = [.tmp 6] := rfl
@[go_sem] theorem nt86 : Tryz.f86.ntmps = 121 := rfl
@[go_sem] theorem res87 : Tryz.f87.results.toList = [.tmp 4] := rfl
@[go_sem] theorem nt87 : Tryz.f87.ntmps = 7 := rfl
@[go_sem] theorem res88 : Tryz.f88.results.toList = [.tmp 6] := rfl
@[go_sem] theorem nt88 : Tryz.f88.ntmps = 11 := rfl
@[go_sem] theorem res100 : Tryz.f100.results.toList = [.tmp 4] := rfl
@[go_sem] theorem nt100 : Tryz.f100.ntmps = 20 := rfl
@[go_sem] theorem res109 : Tryz.f109.results.toList = [.tmp 2] := rfl
@[go_sem] theorem nt109 : Tryz.f109.ntmps = 7 := rfl
@[go_sem] theorem res110 : Tryz.f110.results.toList = [.tmp 2] := rfl
@[go_sem] theorem nt110 : Tryz.f110.ntmps = 5 := rfl
@[go_sem] theorem res111 : Tryz.f111.results.toList = [.tmp 2, .tmp 3] := rfl
@[go_sem] theorem nt111 : Tryz.f111.ntmps = 12 := rfl
@[go_sem] theorem res112 : Tryz.f112.results.toList = [.cell 3 29, .tmp 4] := rfl
@[go_sem] theorem nt112 : Tryz.f112.ntmps = 10 := rfl
@[go_sem] theorem res113 : Tryz.f113.results.toList = [.tmp 4] := rfl
@[go_sem] theorem nt113 : Tryz.f113.ntmps = 9 := rfl
@[go_sem] theorem res114 : Tryz.f114.results.toList = [.tmp 2] := rfl
@[go_sem] theorem nt114 : Tryz.f114.ntmps = 49 := rfl
@[go_sem] theorem res115 : Tryz.f115.results.toList = [.tmp 10] := rfl
@[go_sem] theorem nt115 : Tryz.f115.ntmps = 168 := rfl
@[go_sem] theorem res116 : Tryz.f116.results.toList = [.tmp 2] := rfl
@[go_sem] theorem nt116 : Tryz.f116.ntmps = 6 := rfl
@[go_sem] theorem res117 : Tryz.f117.results.toList = [.tmp 6] := rfl
@[go_sem] theorem nt117 : Tryz.f117.ntmps = 95 := rfl
@[go_sem] theorem res118 : Tryz.f118.results.toList = [.cell 2 29] := rfl
@[go_sem] theorem nt118 : Tryz.f118.ntmps = 20 := rfl
@[go_sem] theorem res119 : Tryz.f119.results.toList = [] := rfl
@[go_sem] theorem nt119 : Tryz.f119.ntmps = 9 := rfl
@[go_sem] theorem res121 : Tryz.f121.results.toList = [.tmp 10] := rfl
@[go_sem] theorem nt121 : Tryz.f121.ntmps = 91 := rfl
@[go_sem] theorem res125 : Tryz.f125.results.toList = [.tmp 4] := rfl
@[go_sem] theorem nt125 : Tryz.f125.ntmps = 26 := rfl
@[go_sem] theorem res126 : Tryz.f126.results.toList = [.tmp 4] := rfl
@[go_sem] theorem nt126 : Tryz.f126.ntmps = 26 := rfl
@[go_sem] theorem res127 : Tryz.f127.results.toList = [.tmp 4] := rfl
@[go_sem] theorem nt127 : Tryz.f127.ntmps = 26 := rfl
@[go_sem] theorem res131 : Tryz.f131.results.toList = [.tmp 6, .tmp 7] := rfl
@[go_sem] theorem nt131 : Tryz.f131.ntmps = 49 := rfl
@[go_sem] theorem res132 : Tryz.f132.results.toList = [.tmp 4] := rfl
@[go_sem] theorem nt132 : Tryz.f132.ntmps = 9 := rfl
@[go_sem] theorem res133 : Tryz.f133.results.toList = [.tmp 4] := rfl
@[go_sem] theorem nt133 : Tryz.f133.ntmps = 42 := rfl
@[go_sem] theorem res134 : Tryz.f134.results.toList = [.tmp 4] := rfl
@[go_sem] theorem nt134 : Tryz.f134.ntmps = 22 := rfl
@[go_sem] theorem res135 : Tryz.f135.results.toList = [.cell 2 169] := rfl
@[go_sem] theorem nt135 : Tryz.f135.ntmps = 10 := rfl
@[go_sem] theorem res136 : Tryz.f136.results.toList = [.tmp 2] := rfl
@[go_sem] theorem nt136 : Tryz.f136.ntmps = 7 := rfl
@[go_sem] theorem res137 : Tryz.f137.results.toList = [] := rfl
@[go_sem] theorem nt137 : Tryz.f137.ntmps = 35 := rfl
@[go_sem] theorem res138 : Tryz.f138.results.toList = [] := rfl
@[go_sem] theorem nt138 : Tryz.f138.ntmps = 59 := rfl
@[go_sem] theorem res139 : Tryz.f139.results.toList = [.tmp 2] := rfl
@[go_sem] theorem nt139 : Tryz.f139.ntmps = 9 := rfl
@[go_sem] theorem res140 : Tryz.f140.results.toList = [.tmp 2] := rfl
@[go_sem] theorem nt140 : Tryz.f140.ntmps = 4 := rfl
@[go_sem] theorem res141 : Tryz.f141.results.toList = [.tmp 4] := rfl
@[go_sem] theorem nt141 : Tryz.f141.ntmps = 19 := rfl
@[go_sem] theorem res142 : Tryz.f142.results.toList = [.tmp 4] := rfl
@[go_sem] theorem nt142 : Tryz.f142.ntmps = 17 := rfl
@[go_sem] theorem res143 : Tryz.f143.results.toList = [.tmp 2] := rfl
@[go_sem] theorem nt143 : Tryz.f143.ntmps = 6 := rfl
@[go_sem] theorem res144 : Tryz.f144.results.toList = [.cell 2 36] := rfl
@[go_sem] theorem nt144 : Tryz.f144.ntmps = 58 := rfl
@[go_sem] theorem res146 : Tryz.f146.results.toList = [.cell 2 47] := rfl
@[go_sem] theorem nt146 : Tryz.f146.ntmps = 79 := rfl
@[go_sem] theorem res147 : Tryz.f147.results.toList = [.tmp 2] := rfl
@[go_sem] theorem nt147 : Tryz.f147.ntmps = 14 := rfl
@[go_sem] theorem res148 : Tryz.f148.results.toList = [.tmp 2] := rfl
@[go_sem] theorem nt148 : Tryz.f148.ntmps = 14 := rfl
@[go_sem] theorem res149 : Tryz.f149.results.toList = [.tmp 2] := rfl
@[go_sem] theorem nt149 : Tryz.f149.ntmps = 14 := rfl
@[go_sem] theorem res150 : Tryz.f150.results.toList = [.tmp 4] := rfl
@[go_sem] theorem nt150 : Tryz.f150.ntmps = 18 := rfl
@[go_sem] theorem res151 : Tryz.f151.results.toList = [.tmp 3] := rfl
@[go_sem] theorem nt151 : Tryz.f151.ntmps = 25 := rfl
@[go_sem] theorem res152 : Tryz.f152.results.toList = [.tmp 4] := rfl
@[go_sem] theorem nt152 : Tryz.f152.ntmps = 37 := rfl
@[go_sem] theorem res153 : Tryz.f153.results.toList = [.tmp 3] := rfl
@[go_sem] theorem nt153 : Tryz.f153.ntmps = 9 := rfl
@[go_sem] theorem res154 : Tryz.f154.results.toList = [.tmp 2] := rfl
@[go_sem] theorem nt154 : Tryz.f154.ntmps = 15 := rfl
@[go_sem] theorem res155 : Tryz.f155.results.toList = [.tmp 6] := rfl
@[go_sem] theorem nt155 : Tryz.f155.ntmps = 15 := rfl
@[go_sem] theorem res156 : Tryz.f156.results.toList = [.tmp 4] := rfl
@[go_sem] theorem nt156 : Tryz.f156.ntmps = 64 := rfl
@[go_sem] theorem res157 : Tryz.f157.results.toList = [.tmp 6] := rfl
@[go_sem] theorem nt157 : Tryz.f157.ntmps = 41 := rfl
@[go_sem] theorem res158 : Tryz.f158.results.toList = [.tmp 5] := rfl
@[go_sem] theorem nt158 : Tryz.f158.ntmps = 12 := rfl
@[go_sem] theorem res159 : Tryz.f159.results.toList = [.tmp 8] := rfl
@[go_sem] theorem nt159 : Tryz.f159.ntmps = 64 := rfl
@[go_sem] theorem res160 : Tryz.f160.results.toList = [.tmp 5] := rfl
@[go_sem] theorem nt160 : Tryz.f160.ntmps = 13 := rfl
@[go_sem] theorem res161 : Tryz.f161.results.toList = [.tmp 6] := rfl
@[go_sem] theorem nt161 : Tryz.f161.ntmps = 117 := rfl
@[go_sem] theorem res169 : Tryz.f169.results.toList = [.tmp 2] := rfl
@[go_sem] theorem nt169 : Tryz.f169.ntmps = 8 := rfl
@[go_sem] theorem res170 : Tryz.f170.results.toList = [.tmp 2] := rfl
@[go_sem] theorem nt170 : Tryz.f170.ntmps = 6 := rfl
@[go_sem] theorem res173 : Tryz.f173.results.toList = [.tmp 6] := rfl
@[go_sem] theorem nt173 : Tryz.f173.ntmps = 8 := rfl
@[go_sem] theorem res174 : Tryz.f174.results.toList = [.tmp 4] := rfl
@[go_sem] theorem nt174 : Tryz.f174.ntmps = 22 := rfl
@[go_sem] theorem res175 : Tryz.f175.results.toList = [.cell 2 70] := rfl
@[go_sem] theorem nt175 : Tryz.f175.ntmps = 16 := rfl
@[go_sem] theorem res176 : Tryz.f176.results.toList = [.cell 2 169] := rfl
@[go_sem] theorem nt176 : Tryz.f176.ntmps = 10 := rfl
@[go_sem] theorem res177 : Tryz.f177.results.toList = [.tmp 2, .tmp 3] := rfl
@[go_sem] theorem nt177 : Tryz.f177.ntmps = 22 := rfl
@[go_sem] theorem res178 : Tryz.f178.results.toList = [.tmp 4] := rfl
@[go_sem] theorem nt178 : Tryz.f178.ntmps = 19 := rfl
@[go_sem] theorem res179 : Tryz.f179.results.toList = [.tmp 2] := rfl
@[go_sem] theorem nt179 : Tryz.f179.ntmps = 37 := rfl
@[go_sem] theorem res180 : Tryz.f180.results.toList = [.tmp 6, .tmp 7] := rfl
@[go_sem] theorem nt180 : Tryz.f180.ntmps = 34 := rfl
@[go_sem] theorem res181 : Tryz.f181.results.toList = [.cell 8 169, .tmp 9] := rfl
@[go_sem] theorem nt181 : Tryz.f181.ntmps = 73 := rfl
@[go_sem] theorem res182 : Tryz.f182.results.toList = [.tmp 2] := rfl
@[go_sem] theorem nt182 : Tryz.f182.ntmps = 24 := rfl
@[go_sem] theorem res185 : Tryz.f185.results.toList = [.tmp 2] := rfl
@[go_sem] theorem nt185 : Tryz.f185.ntmps = 8 := rfl
@[go_sem] theorem res186 : Tryz.f186.results.toList = [.tmp 2] := rfl
@[go_sem] theorem nt186 : Tryz.f186.ntmps = 8 := rfl
@[go_sem] theorem res187 : Tryz.f187.results.toList = [.tmp 2] := rfl
@[go_sem] theorem nt187 : Tryz.f187.ntmps = 8 := rfl
@[go_sem] theorem res188 : Tryz.f188.results.toList = [] := rfl
@[go_sem] theorem nt188 : Tryz.f188.ntmps = 63 := rfl
@[go_sem] theorem res189 : Tryz.f189.results.toList = [.tmp 2] := rfl
@[go_sem] theorem nt189 : Tryz.f189.ntmps = 36 := rfl
@[go_sem] theorem res190 : Tryz.f190.results.toList = [.tmp 8] := rfl
@[go_sem] theorem nt190 : Tryz.f190.ntmps = 74 := rfl
@[go_sem] theorem res193 : Tryz.f193.results.toList = [.tmp 4] := rfl
@[go_sem] theorem nt193 : Tryz.f193.ntmps = 19 := rfl
@[go_sem] theorem res194 : Tryz.f194.results.toList = [.tmp 4] := rfl
@[go_sem] theorem nt194 : Tryz.f194.ntmps = 22 := rfl
@[go_sem] theorem res195 : Tryz.f195.results.toList = [.cell 2 171] := rfl
@[go_sem] theorem nt195 : Tryz.f195.ntmps = 12 := rfl
@[go_sem] theorem res196 : Tryz.f196.results.toList = [.tmp 2] := rfl
@[go_sem] theorem nt196 : Tryz.f196.ntmps = 5 := rfl
@[go_sem] theorem res197 : Tryz.f197.results.toList = [] := rfl
@[go_sem] theorem nt197 : Tryz.f197.ntmps = 11 := rfl
@[go_sem] theorem res198 : Tryz.f198.results.toList = [] := rfl
@[go_sem] theorem nt198 : Tryz.f198.ntmps = 14 := rfl
@[go_sem] theorem res199 : Tryz.f199.results.toList = [.tmp 2] := rfl
@[go_sem] theorem nt199 : Tryz.f199.ntmps = 8 := rfl
@[go_sem] theorem res200 : Tryz.f200.results.toList = [.tmp 2] := rfl
@[go_sem] theorem nt200 : Tryz.f200.ntmps = 8 := rfl
@[go_sem] theorem res201 : Tryz.f201.results.toList = [.tmp 2] := rfl
@[go_sem] theorem nt201 : Tryz.f201.ntmps = 8 := rfl
@[go_sem] theorem res202 : Tryz.f202.results.toList = [.tmp 2] := rfl
@[go_sem] theorem nt202 : Tryz.f202.ntmps = 8 := rfl
@[go_sem] theorem res203 : Tryz.f203.results.toList = [.tmp 2] := rfl
@[go_sem] theorem nt203 : Tryz.f203.ntmps = 8 := rfl
@[go_sem] theorem res207 : Tryz.f207.results.toList = [.tmp 4] := rfl
@[go_sem] theorem nt207 : Tryz.f207.ntmps = 99 := rfl
@[go_sem] theorem res208 : Tryz.f208.results.toList = [.tmp 6] := rfl
@[go_sem] theorem nt208 : Tryz.f208.ntmps = 25 := rfl
@[go_sem] theorem res209 : Tryz.f209.results.toList = [.tmp 4] := rfl
@[go_sem] theorem nt209 : Tryz.f209.ntmps = 6 := rfl
@[go_sem] theorem res210 : Tryz.f210.results.toList = [.tmp 3] := rfl
@[go_sem] theorem nt210 : Tryz.f210.ntmps = 15 := rfl
@[go_sem] theorem res211 : Tryz.f211.results.toList = [.tmp 3] := rfl
@[go_sem] theorem nt211 : Tryz.f211.ntmps = 9 := rfl
@[go_sem] theorem res212 : Tryz.f212.results.toList = [.tmp 2] := rfl
@[go_sem] theorem nt212 : Tryz.f212.ntmps = 57 := rfl
@[go_sem] theorem res213 : Tryz.f213.results.toList = [.tmp 3] := rfl
@[go_sem] theorem nt213 : Tryz.f213.ntmps = 41 := rfl
@[go_sem] theorem res214 : Tryz.f214.results.toList = [.tmp 4] := rfl
@[go_sem] theorem nt214 : Tryz.f214.ntmps = 9 := rfl
@[go_sem] theorem res215 : Tryz.f215.results.toList = [.tmp 3] := rfl
@[go_sem] theorem nt215 : Tryz.f215.ntmps = 9 := rfl
@[go_sem] theorem res216 : Tryz.f216.results.toList = [.tmp 3] := rfl
@[go_sem] theorem nt216 : Tryz.f216.ntmps = 9 := rfl
@[go_sem] theorem res217 : Tryz.f217.results.toList = [.tmp 2] := rfl
@[go_sem] theorem nt217 : Tryz.f217.ntmps = 13 := rfl
@[go_sem] theorem res218 : Tryz.f218.results.toList = [.tmp 3] := rfl
@[go_sem] theorem nt218 : Tryz.f218.ntmps = 56 := rfl
@[go_sem] theorem res219 : Tryz.f219.results.toList = [.tmp 2] := rfl
@[go_sem] theorem nt219 : Tryz.f219.ntmps = 63 := rfl
@[go_sem] theorem res220 : Tryz.f220.results.toList = [.tmp 4] := rfl
@[go_sem] theorem nt220 : Tryz.f220.ntmps = 20 := rfl
@[go_sem] theorem res221 : Tryz.f221.results.toList = [.tmp 4] := rfl
@[go_sem] theorem nt221 : Tryz.f221.ntmps = 26 := rfl
@[go_sem] theorem res222 : Tryz.f222.results.toList = [.tmp 2] := rfl
@[go_sem] theorem nt222 : Tryz.f222.ntmps = 164 := rfl
@[go_sem] theorem res223 : Tryz.f223.results.toList = [.tmp 4] := rfl
@[go_sem] theorem nt223 : Tryz.f223.ntmps = 29 := rfl
@[go_sem] theorem res224 : Tryz.f224.results.toList = [.tmp 6] := rfl
@[go_sem] theorem nt224 : Tryz.f224.ntmps = 77 := rfl
@[go_sem] theorem res245 : Tryz.f245.results.toList = [.tmp 2] := rfl
@[go_sem] theorem nt245 : Tryz.f245.ntmps = 19 := rfl
@[go_sem] theorem res246 : Tryz.f246.results.toList = [.tmp 2] := rfl
@[go_sem] theorem nt246 : Tryz.f246.ntmps = 25 := rfl
@[go_sem] theorem res247 : Tryz.f247.results.toList = [] := rfl
@[go_sem] theorem nt247 : Tryz.f247.ntmps = 10 := rfl
@[go_sem] theorem res248 : Tryz.f248.results.toList = [.tmp 8] := rfl
@[go_sem] theorem nt248 : Tryz.f248.ntmps = 74 := rfl
@[go_sem] theorem res249 : Tryz.f249.results.toList = [.cell 2 171] := rfl
@[go_sem] theorem nt249 : Tryz.f249.ntmps = 12 := rfl
@[go_sem] theorem res250 : Tryz.f250.results.toList = [.tmp 6] := rfl
@[go_sem] theorem nt250 : Tryz.f250.ntmps = 31 := rfl
@[go_sem] theorem res251 : Tryz.f251.results.toList = [.cell 4 22, .cell 5 22] := rfl
@[go_sem] theorem nt251 : Tryz.f251.ntmps = 74 := rfl
@[go_sem] theorem res252 : Tryz.f252.results.toList = [.tmp 4, .tmp 5, .tmp 6] := rfl
@[go_sem] theorem nt252 : Tryz.f252.ntmps = 74 := rfl
@[go_sem] theorem res254 : Tryz.f254.results.toList = [] := rfl
@[go_sem] theorem nt254 : Tryz.f254.ntmps = 53 := rfl
@[go_sem] theorem res256 : Tryz.f256.results.toList = [.tmp 4] := rfl
@[go_sem] theorem nt256 : Tryz.f256.ntmps = 27 := rfl
@[go_sem] theorem res257 : Tryz.f257.results.toList = [.tmp 8] := rfl
@[go_sem] theorem nt257 : Tryz.f257.ntmps = 77 := rfl
@[go_sem] theorem res260 : Tryz.f260.results.toList = [.tmp 4] := rfl
@[go_sem] theorem nt260 : Tryz.f260.ntmps = 13 := rfl
@[go_sem] theorem res261 : Tryz.f261.results.toList = [] := rfl
@[go_sem] theorem nt261 : Tryz.f261.ntmps = 134 := rfl
@[go_sem] theorem res266 : Tryz.f266.results.toList = [.tmp 2] := rfl
@[go_sem] theorem nt266 : Tryz.f266.ntmps = 41 := rfl
@[go_sem] theorem res267 : Tryz.f267.results.toList = [.tmp 6, .tmp 7] := rfl
@[go_sem] theorem nt267 : Tryz.f267.ntmps = 16 := rfl
@[go_sem] theorem res268 : Tryz.f268.results.toList = [.tmp 2] := rfl
@[go_sem] theorem nt268 : Tryz.f268.ntmps = 5 := rfl
@[go_sem] theorem res269 : Tryz.f269.results.toList = [.tmp 4, .tmp 5] := rfl
@[go_sem] theorem nt269 : Tryz.f269.ntmps = 14 := rfl
@[go_sem] theorem res270 : Tryz.f270.results.toList = [] := rfl
@[go_sem] theorem nt270 : Tryz.f270.ntmps = 46 := rfl
@[go_sem] theorem res271 : Tryz.f271.results.toList = [.tmp 4] := rfl
@[go_sem] theorem nt271 : Tryz.f271.ntmps = 26 := rfl
@[go_sem] theorem res272 : Tryz.f272.results.toList = [.tmp 4] := rfl
@[go_sem] theorem nt272 : Tryz.f272.ntmps = 19 := rfl
@[go_sem] theorem res273 : Tryz.f273.results.toList = [.cell 2 333, .tmp 3] := rfl
@[go_sem] theorem nt273 : Tryz.f273.ntmps = 21 := rfl
@[go_sem] theorem res274 : Tryz.f274.results.toList = [.tmp 2] := rfl
@[go_sem] theorem nt274 : Tryz.f274.ntmps = 25 := rfl
@[go_sem] theorem res281 : Tryz.f281.results.toList = [.tmp 2] := rfl
@[go_sem] theorem nt281 : Tryz.f281.ntmps = 7 := rfl
@[go_sem] theorem res282 : Tryz.f282.results.toList = [.tmp 2] := rfl
@[go_sem] theorem nt282 : Tryz.f282.ntmps = 33 := rfl
@[go_sem] theorem res285 : Tryz.f285.results.toList = [.tmp 2] := rfl
@[go_sem] theorem nt285 : Tryz.f285.ntmps = 4 := rfl
@[go_sem] theorem res286 : Tryz.f286.results.toList = [.tmp 4, .tmp 5] := rfl
@[go_sem] theorem nt286 : Tryz.f286.ntmps = 24 := rfl
@[go_sem] theorem res287 : Tryz.f287.results.toList = [.tmp 2, .tmp 3, .tmp 4] := rfl
@[go_sem] theorem nt287 : Tryz.f287.ntmps = 33 := rfl
@[go_sem] theorem res290 : Tryz.f290.results.toList = [] := rfl
@[go_sem] theorem nt290 : Tryz.f290.ntmps = 49 := rfl
@[go_sem] theorem res291 : Tryz.f291.results.toList = [] := rfl
@[go_sem] theorem nt291 : Tryz.f291.ntmps = 56 := rfl
@[go_sem] theorem res292 : Tryz.f292.results.toList = [] := rfl
@[go_sem] theorem nt292 : Tryz.f292.ntmps = 65 := rfl
@[go_sem] theorem res293 : Tryz.f293.results.toList = [.tmp 6, .tmp 7] := rfl
@[go_sem] theorem nt293 : Tryz.f293.ntmps = 57 := rfl
@[go_sem] theorem res294 : Tryz.f294.results.toList = [] := rfl
@[go_sem] theorem nt294 : Tryz.f294.ntmps = 32 := rfl
@[go_sem] theorem res295 : Tryz.f295.results.toList = [.tmp 6] := rfl
@[go_sem] theorem nt295 : Tryz.f295.ntmps = 133 := rfl
@[go_sem] theorem res296 : Tryz.f296.results.toList = [.tmp 8] := rfl
@[go_sem] theorem nt296 : Tryz.f296.ntmps = 84 := rfl
@[go_sem] theorem res297 : Tryz.f297.results.toList = [.tmp 8, .tmp 9] := rfl
@[go_sem] theorem nt297 : Tryz.f297.ntmps = 168 := rfl
@[go_sem] theorem res299 : Tryz.f299.results.toList = [.tmp 4] := rfl
@[go_sem] theorem nt299 : Tryz.f299.ntmps = 19 := rfl
@[go_sem] theorem res300 : Tryz.f300.results.toList = [.tmp 4] := rfl
@[go_sem] theorem nt300 : Tryz.f300.ntmps = 15 := rfl
@[go_sem] theorem res301 : Tryz.f301.results.toList = [.tmp 3] := rfl
@[go_sem] theorem nt301 : Tryz.f301.ntmps = 8 := rfl
@[go_sem] theorem res302 : Tryz.f302.results.toList = [.tmp 2, .tmp 3] := rfl
@[go_sem] theorem nt302 : Tryz.f302.ntmps = 35 := rfl
@[go_sem] theorem res303 : Tryz.f303.results.toList = [.tmp 4] := rfl
@[go_sem] theorem nt303 : Tryz.f303.ntmps = 9 := rfl
@[go_sem] theorem res304 : Tryz.f304.results.toList = [.tmp 3] := rfl
@[go_sem] theorem nt304 : Tryz.f304.ntmps = 8 := rfl
@[go_sem] theorem res305 : Tryz.f305.results.toList = [.tmp 0] := rfl
@[go_sem] theorem nt305 : Tryz.f305.ntmps = 47 := rfl
@[go_sem] theorem res306 : Tryz.f306.results.toList = [.tmp 6, .tmp 7] := rfl
@[go_sem] theorem nt306 : Tryz.f306.ntmps = 49 := rfl
@[go_sem] theorem res307 : Tryz.f307.results.toList = [.tmp 4] := rfl
@[go_sem] theorem nt307 : Tryz.f307.ntmps = 9 := rfl
@[go_sem] theorem res312 : Tryz.f312.results.toList = [] := rfl
@[go_sem] theorem nt312 : Tryz.f312.ntmps = 28 := rfl
@[go_sem] theorem res313 : Tryz.f313.results.toList = [.tmp 2] := rfl
@[go_sem] theorem nt313 : Tryz.f313.ntmps = 25 := rfl
@[go_sem] theorem res315 : Tryz.f315.results.toList = [] := rfl
@[go_sem] theorem nt315 : Tryz.f315.ntmps = 76 := rfl
@[go_sem] theorem res316 : Tryz.f316.results.toList = [.tmp 6] := rfl
@[go_sem] theorem nt316 : Tryz.f316.ntmps = 15 := rfl
@[go_sem] theorem res317 : Tryz.f317.results.toList = [.tmp 10] := rfl
@[go_sem] theorem nt317 : Tryz.f317.ntmps = 36 := rfl
@[go_sem] theorem res318 : Tryz.f318.results.toList = [.tmp 4] := rfl
@[go_sem] theorem nt318 : Tryz.f318.ntmps = 9 := rfl
@[go_sem] theorem res319 : Tryz.f319.results.toList = [.tmp 2] := rfl
@[go_sem] theorem nt319 : Tryz.f319.ntmps = 9 := rfl
@[go_sem] theorem res320 : Tryz.f320.results.toList = [] := rfl
@[go_sem] theorem nt320 : Tryz.f320.ntmps = 68 := rfl
@[go_sem] theorem res321 : Tryz.f321.results.toList = [.tmp 4] := rfl
@[go_sem] theorem nt321 : Tryz.f321.ntmps = 19 := rfl
@[go_sem] theorem res326 : Tryz.f326.results.toList = [.tmp 8, .tmp 9] := rfl
@[go_sem] theorem nt326 : Tryz.f326.ntmps = 28 := rfl
@[go_sem] theorem res327 : Tryz.f327.results.toList = [.tmp 4] := rfl
@[go_sem] theorem nt327 : Tryz.f327.ntmps = 19 := rfl
@[go_sem] theorem res328 : Tryz.f328.results.toList = [] := rfl
@[go_sem] theorem nt328 : Tryz.f328.ntmps = 93 := rfl
@[go_sem] theorem res329 : Tryz.f329.results.toList = [.tmp 4] := rfl
@[go_sem] theorem nt329 : Tryz.f329.ntmps = 17 := rfl
@[go_sem] theorem res330 : Tryz.f330.results.toList = [] := rfl
@[go_sem] theorem nt330 : Tryz.f330.ntmps = 25 := rfl
@[go_sem] theorem res332 : Tryz.f332.results.toList = [.tmp 4] := rfl
@[go_sem] theorem nt332 : Tryz.f332.ntmps = 8 := rfl
@[go_sem] theorem res333 : Tryz.f333.results.toList = [.tmp 4] := rfl
@[go_sem] theorem nt333 : Tryz.f333.ntmps = 30 := rfl
@[go_sem] theorem res334 : Tryz.f334.results.toList = [] := rfl
@[go_sem] theorem nt334 : Tryz.f334.ntmps = 29 := rfl
@[go_sem] theorem res335 : Tryz.f335.results.toList = [] := rfl
@[go_sem] theorem nt335 : Tryz.f335.ntmps = 20 := rfl
@[go_sem] theorem res336 : Tryz.f336.results.toList = [.tmp 2] := rfl
@[go_sem] theorem nt336 : Tryz.f336.ntmps = 8 := rfl
@[go_sem] theorem res337 : Tryz.f337.results.toList = [.tmp 2] := rfl
@[go_sem] theorem nt337 : Tryz.f337.ntmps = 14 := rfl
@[go_sem] theorem res338 : Tryz.f338.results.toList = [] := rfl
@[go_sem] theorem nt338 : Tryz.f338.ntmps = 8 := rfl
@[go_sem] theorem res340 : Tryz.f340.results.toList = [.tmp 4] := rfl
@[go_sem] theorem nt340 : Tryz.f340.ntmps = 18 := rfl
theorem held {α : Type} (a : α) : ∃ b, b = a := ⟨a, rfl⟩
noncomputable def wops : (E : Env) → (P : Program) → (ops : Array Oper) → (Q : SA → Hp → Nat → Prop) → List Oper → SA → Hp → Nat → Prop := Classical.choose (held sopsE)
theorem wops_eq : wops = sopsE := Classical.choose_spec (held sopsE)
noncomputable def wdraw : (E : Env) → (P : Program) → (ops : Array Oper) → (Q : SA → Hp → Nat → Prop) → List Oper → List Rec → SA → Hp → Nat → Prop := Classical.choose (held sdrawE)
theorem wdraw_eq : wdraw = sdrawE := Classical.choose_spec (held sdrawE)
noncomputable def wlk : (E : Env) → (P : Program) → (N : Nat) → Code → Post → SA → Hp → Nat → Prop := Classical.choose (held swpE)
theorem wlk_eq : wlk = swpE := Classical.choose_spec (held swpE)
noncomputable def kont : (E : Env) → (P : Program) → (ops : Array Oper) → (Q : SA → Hp → Nat → Prop) → List Oper → SA → Option Tmp → SV → Hp → Nat → Prop :=
  Classical.choose (held fun E P ops Q rest sa dst v h n => wops E P ops Q rest (putT sa dst v) h n)
@[go_sem] theorem kont_at (E : Env) (P : Program) (ops : Array Oper) (Q : SA → Hp → Nat → Prop) (rest : List Oper) (sa : SA) (dst : Option Tmp) (v : SV) (h : Hp) (n : Nat) :
    kont E P ops Q rest sa dst v h n = wops E P ops Q rest (putT sa dst v) h n := by
  unfold kont; rw [Classical.choose_spec (held fun E P ops Q rest sa dst v h n => wops E P ops Q rest (putT sa dst v) h n)]
noncomputable def kthen : (E : Env) → (P : Program) → (N : Nat) → Code → Post → Post := Classical.choose (held fun E P N b Q => thenQ (swpE E P N b Q) Q)
theorem kthen_eq : kthen = fun E P N b Q => thenQ (swpE E P N b Q) Q := Classical.choose_spec (held fun E P N b Q => thenQ (swpE E P N b Q) Q)
noncomputable def kblock : Nat → Post → Post := Classical.choose (held blockQ)
theorem kblock_eq : kblock = blockQ := Classical.choose_spec (held blockQ)
section
variable (E : Env) (P : Program) (N : Nat) (ops : Array Oper) (a b : Code) (id : Nat) (Q : Post) (K : SA → Hp → Nat → Prop) (sa : SA) (h : Hp) (n : Nat)
@[go_sem] theorem kthen_normal : kthen E P N b Q .normal sa h n = wlk E P N b Q sa h n := by rw [kthen_eq, wlk_eq]; simp only [thenQ]
@[go_sem] theorem kthen_exit : kthen E P N b Q (.exit id) sa h n = Q (.exit id) sa h n := by rw [kthen_eq]; simp only [thenQ]
@[go_sem] theorem kthen_ret : kthen E P N b Q .ret sa h n = Q .ret sa h n := by rw [kthen_eq]; simp only [thenQ]
@[go_sem] theorem kblock_normal : kblock id Q .normal sa h n = Q .normal sa h n := by rw [kblock_eq]; simp only [blockQ]
@[go_sem] theorem kblock_ret : kblock id Q .ret sa h n = Q .ret sa h n := by rw [kblock_eq]; simp only [blockQ]
@[go_sem] theorem kblock_exit (i : Nat) : kblock id Q (.exit i) sa h n = if i = id then Q .normal sa h n else Q (.exit i) sa h n := by rw [kblock_eq]; simp only [blockQ]
@[go_sem] theorem wlk_skip : wlk E P N .skip Q sa h n = Q .normal sa h n := by rw [wlk_eq]; simp only [swpE]
@[go_sem] theorem wlk_seq : wlk E P N (.seq a b) Q sa h n = wlk E P N a (kthen E P N b Q) sa h n := by rw [wlk_eq, kthen_eq]; simp only [swpE]
@[go_sem] theorem wlk_cond (c : Operand) : wlk E P N (.cond c a b) Q sa h n = match evS sa c with | .bool t => if t = true then wlk E P N a Q sa h n else wlk E P N b Q sa h n | _ => False := by rw [wlk_eq]; simp only [swpE] <;> cases evS sa c <;> rfl
@[go_sem] theorem wlk_block : wlk E P N (.block id b) Q sa h n = wlk E P N b (kblock id Q) sa h n := by rw [wlk_eq, kblock_eq]; simp only [swpE]
@[go_sem] theorem wlk_exit : wlk E P N (.exit id) Q sa h n = Q (.exit id) sa h n := by rw [wlk_eq]; simp only [swpE]
@[go_sem] theorem wlk_ret : wlk E P N .ret Q sa h n = Q .ret sa h n := by rw [wlk_eq]; simp only [swpE]
@[go_sem] theorem wlk_region : wlk E P N (.region id ops false) Q sa h n = wops E P ops (Q .normal) ops.toList sa h n := by rw [wlk_eq, wops_eq]; simp only [swpE]
@[go_sem] theorem wlk_drawn : wlk E P N (.region id ops true) Q sa h n = (staticB ops = true ∧ wdraw E P ops (Q .normal) ops.toList [] sa h n) := by rw [wlk_eq, wdraw_eq]; simp only [swpE]
@[go_sem] theorem wlk_loop : wlk E P N (.loop b) Q sa h n = SWE E P N (.loop b) Q sa h n := by rw [wlk_eq]; simp only [swpE]
@[go_sem] theorem wlk_range (g : Operand) (ps : Array Tmp) : wlk E P N (.rangeFunc g ps a b) Q sa h n = SWE E P N (.rangeFunc g ps a b) Q sa h n := by rw [wlk_eq]; simp only [swpE]
@[go_sem] theorem wops_nil : wops E P ops K [] sa h n = K sa h n := by rw [wops_eq]; simp only [sopsE]
@[go_sem] theorem wops_cons (o : Oper) (rest : List Oper) : wops E P ops K (o :: rest) sa h n =
    match guardS ops sa o with | some b => if b = true then stepE E P o sa h n (kont E P ops K rest sa o.dst) else wops E P ops K rest (putT sa o.dst (.tup [])) h n | none => False := by
  unfold kont; rw [Classical.choose_spec (held fun E P ops Q rest sa dst v h n => wops E P ops Q rest (putT sa dst v) h n)]
  rw [wops_eq]; simp only [sopsE]; cases guardS ops sa o <;> rfl
@[go_sem] theorem wdraw_nil (tr : List Rec) : wdraw E P ops K [] tr sa h n = K sa h n := by rw [wdraw_eq]; simp only [sdrawE]
end
def indepD (ops : Array Oper) (i : Nat) (r : Rec) : Nat → List Rec → Bool
  | _, [] => true
  | j, q :: qs => (dirE ops j i || (disjB (keysW q.wr) r.foot && disjB (keysW r.wr) q.foot && disjB (keysW q.new) r.foot)) && indepD ops i r (j + 1) qs
theorem indepD_eq (ops : Array Oper) (i : Nat) (r : Rec) : ∀ (l : List Rec) (j : Nat), indepD ops i r j l = indep ops i r j l
  | [], _ => rfl
  | q :: qs, j => by rw [indepD, indep, indepD_eq ops i r qs, Bool.or_comm]
noncomputable def kdraw : (E : Env) → (P : Program) → (ops : Array Oper) → (Q : SA → Hp → Nat → Prop) → List Oper → List Rec → SA → Rec → Hp → Nat → Prop :=
  Classical.choose (held fun E P ops Q rest tr sa r h n => indepD ops tr.length r 0 tr = true ∧ wdraw E P ops Q rest (tr ++ [r]) (putT sa r.dst r.val) h n)
section
variable (E : Env) (P : Program) (ops : Array Oper) (K : SA → Hp → Nat → Prop) (sa : SA) (h : Hp) (n : Nat)
@[go_sem] theorem kdraw_at (rest : List Oper) (tr : List Rec) (r : Rec) : kdraw E P ops K rest tr sa r h n = (indepD ops tr.length r 0 tr = true ∧ wdraw E P ops K rest (tr ++ [r]) (putT sa r.dst r.val) h n) := by
  unfold kdraw; rw [Classical.choose_spec (held fun E P ops Q rest tr sa r h n => indepD ops tr.length r 0 tr = true ∧ wdraw E P ops Q rest (tr ++ [r]) (putT sa r.dst r.val) h n)]
def CallD (g : FuncId) (us : List SV) (rest : List Oper) (tr : List Rec) (dst : Option Tmp) : Prop :=
  ∃ foot wr v, UCallE E P g us foot wr v h ∧ (∀ k ∈ keysW wr, k ∈ foot) ∧ (∀ k ∈ foot, k < n) ∧ kdraw E P ops K rest tr sa { dst := dst, val := v, foot := foot, wr := wr } (appW h wr) n
def drawS (o : Oper) (rest : List Oper) (tr : List Rec) : Prop :=
  match o.op with
  | .call { callee := .value f, args, .. } =>
    match callee (evS sa f) (args.toList.map (evS sa)) with
    | some (g, us) => CallD E P ops K sa h n g us rest tr o.dst
    | none => False
  | op =>
    match sop P (evS sa) h n op with
    | some out =>
      (∀ k ∈ keysW out.upd.toList ++ footS (evS sa) op, k < n) ∧ kdraw E P ops K rest tr sa { dst := o.dst, val := out.val, foot := keysW out.upd.toList ++ footS (evS sa) op, wr := out.upd.toList, new := (out.new.map fun x => (n, some x)).toList } (out.app h n) (if out.new.isSome then n + 1 else n)
    | none => ∃ v, SemV P (evS sa) o v ∧ kdraw E P ops K rest tr sa { dst := o.dst, val := v } h n
@[go_sem] theorem wdraw_cons (o : Oper) (rest : List Oper) (tr : List Rec) : wdraw E P ops K (o :: rest) tr sa h n =
    match guardS ops sa o with | some b => if b = true then drawS E P ops K sa h n o rest tr else wdraw E P ops K rest (tr ++ [{ dst := o.dst, val := .tup [] }]) (putT sa o.dst (.tup [])) h n | none => False := by
  unfold drawS CallD
  simp only [kdraw_at, indepD_eq]
  rw [wdraw_eq]
  conv => lhs; unfold sdrawE
  cases guardS ops sa o <;> rfl
variable {E}
theorem CallD.pure {g : FuncId} {us : List SV} {rest : List Oper} {tr : List Rec} {dst : Option Tmp} {v : SV} (H : PCall P g us v) (hk : kdraw E P ops K rest tr sa { dst := dst, val := v } h n) : CallD E P ops K sa h n g us rest tr dst :=
  ⟨[], [], v, H.u h, by simp [keysW], by simp, hk⟩
theorem CallD.lend {g : FuncId} {us bs : List SV} {rest : List Oper} {tr : List Rec} {dst : Option Tmp} {v : SV} (k : Nat) (foot : List Nat) (H : PCall P g bs v) (hv : plainS v = true) (hf : ∀ j ∈ foot, j < n) (hw : ∀ h', (∀ j ∈ foot, h' j = h j) → All2 (Fz h' (fun _ => none) k) us bs)
    (hk : kdraw E P ops K rest tr sa { dst := dst, val := v, foot := foot } h n) : CallD E P ops K sa h n g us rest tr dst :=
  ⟨foot, [], v, H.lendU k foot hv hw, by simp [keysW], hf, hk⟩
end
attribute [go_sem] drawS footS keysW Op.operands Call.operands SV.ids List.flatMap_cons List.flatMap_nil
attribute [go_sem] retQ resS packS
abbrev PC (f : FuncId) (args : List SV) (v : SV) : Prop := PCall Tryz.prog f args v
abbrev Old (h : Hp) (n : Nat) : Prop := ∀ o x, h o = some x → o < n ∧ closedO n x = true
theorem retIs {h h' : Hp} {n n' : Nat} {v' v : SV} (ho : Old h n) (hh : ∀ o x, h o = some x → h' o = some x) (e : v' = v) (hc : closed n v = true) : RetS n h' n' v' (Is v h n) := by
  subst e; exact RetS.plain hc ho hh ⟨rfl, rfl, rfl⟩
theorem retFz {h h' : Hp} {n n' : Nat} {v' v : SV} (k : Nat) (ho : Old h n) (hh : ∀ o x, h o = some x → h' o = some x) (e : Fz h' h k v' v) (hc : closed n v = true) : RetS n h' n' v' (Is v h n) :=
  .inr ⟨k, v, h, e, hc, fun o x e => ⟨hh o x e, ho o x e⟩, rfl, rfl, rfl⟩
theorem ret0 {h : Hp} {n n' : Nat} {v' v : SV} (ho : Old h n) (hc : closed n v = true) (e : v' = v) : RetS n h n' v' (Is v h n) := retIs ho (fun _ _ e => e) e hc
theorem hset_old {h : Hp} {n o : Nat} {y : Option SObj} (ho : Old h n) (hn : n ≤ o) {h' : Hp} (hh : ∀ o x, h o = some x → h' o = some x) : ∀ o' x, h o' = some x → hset h' o y o' = some x := by
  intro o' x e
  have := (ho o' x e).1
  have ne : o' ≠ o := by omega
  simp [hset, ne, hh _ _ e]
theorem look_same {h : Hp} : ∀ o x, h o = some x → h o = some x := fun _ _ e => e
theorem go {E : Env} {f : FuncId} {fn : Func} {code : Code} {args : List SV} {h : Hp} {n : Nat} {K : SV → Hp → Nat → Prop} (hf : Tryz.prog.funcs[f]? = some fn) (hb : fn.body = some code)
    (hn : (fn.name != "runtime.NumGoroutine") = true) (hd : Code.dok fn.ntmps code = true) (hl : args.length ≤ fn.ntmps)
    (H : Old h n → wlk (E.call false 0) Tryz.prog fn.ntmps code (retQ Tryz.prog fn n K) (initSA 0 args) h n) : SCallE E Tryz.prog f args h n K :=
  SCall_swp follows hf hb hn hd hl fun _ ho => by rw [← wlk_eq]; exact H ho
theorem goloop {E : Env} {N : Nat} {x : Code} {Q : Post} {sa : SA} {h : Hp} {n : Nat} {α : Type} (k : Nat) (fr : α → SA) (hp : α → Hp) (I : α → Nat → Prop) (μ : α → Nat) (a0 : α) (hI : I a0 n)
    (hfr : ∀ p ∈ fr a0, Fz h (hp a0) k (look sa p.1) p.2) (hhp : ∀ o y, hp a0 o = some y → h o = some y)
    (round : ∀ a n, I a n → wlk E Tryz.prog N x (thenQ (fun sa' h' n' => ∃ a', μ a' < μ a ∧ I a' n' ∧ (∀ p ∈ fr a', Fz h' (hp a') k (look sa' p.1) p.2) ∧ (∀ o y, hp a' o = some y → h' o = some y)) Q) (fr a) (hp a) n) :
    SWE E Tryz.prog N (.loop x) Q sa h n :=
  swp_loopF follows k fr hp I μ a0 hI hfr hhp fun a n ha => by rw [← wlk_eq]; exact round a n ha
@[go_sem] theorem thenQ_normal (K : SA → Hp → Nat → Prop) (Q : Post) : thenQ K Q .normal = K := rfl
@[go_sem] theorem thenQ_exit (K : SA → Hp → Nat → Prop) (Q : Post) (i : Nat) : thenQ K Q (.exit i) = Q (.exit i) := rfl
@[go_sem] theorem thenQ_ret (K : SA → Hp → Nat → Prop) (Q : Post) : thenQ K Q .ret = Q .ret := rfl
attribute [go_sem] closed closedL
theorem nd {ops : Array Oper} {i j : Nat} {r : Rec} {l : List Rec} {R : Prop} (h : indepD ops i r j l = true) (hr : R) : indepD ops i r j l = true ∧ R := ⟨h, hr⟩
theorem sd {ops : Array Oper} {R : Prop} (h : staticB ops = true) (hr : R) : staticB ops = true ∧ R := ⟨h, hr⟩
theorem wr64 {x : Int} (h0 : -4611686018427387904 ≤ x) (h1 : x ≤ 4611686018427387904) : IntKind.i64.wrap x = x := IntWalk.i64_in x (by omega)
theorem PC.use {E : Env} {f : FuncId} {args : List SV} {v : SV} (H : PC f args v) {h : Hp} {n : Nat} {K : SV → Hp → Nat → Prop} (hk : K v h n) : SCallE E Tryz.prog f args h n K := PCall.use H hk
theorem bget {s : ByteArray} {i : Nat} (h : i < s.size) : s[i]? = some s[i] := getElem?_pos s i h
set_option maxRecDepth 10000
def cpLow (b : Int) : Int := if b = 224 then 160 else if b = 240 then 144 else 128
def cpHigh (b : Int) : Int := if b = 237 then 159 else if b = 244 then 143 else 191
def cpSize (b : Int) : Int := if b < 128 then 1 else if b < 194 ∨ 244 < b then 0 else if b < 224 then 2 else if b < 240 then 3 else 4
theorem c287 (b : Int) : PC 287 [.int .u8 b] (.tup [.int .u8 (cpLow b), .int .u8 (cpHigh b), .int .i64 (cpSize b)]) := by
  intro h n
  refine go Tryz.func287 rfl (by kernel_rfl) (by kernel_rfl) (by simp [go_sem]) fun ho => ?_
  by_cases h1 : b < 128 <;> by_cases h2 : b < 194 <;> by_cases h3 : 244 < b <;> by_cases h4 : b < 224 <;> by_cases h5 : b < 240 <;> by_cases h6 : b = 224 <;> by_cases h7 : b = 237 <;> by_cases h8 : b = 240 <;> by_cases h9 : b = 244 <;> try omega
  all_goals
    simp [go_sem, h1, h2, h3, h4, h5, h6, h7, h8, h9, cpLow, cpHigh, cpSize]
    exact ret0 ho rfl (by simp)
def byteAt (s : ByteArray) (i : Nat) : Int := match s[i]? with | some b => b.toNat | none => 0
def cpMore (s : ByteArray) (a n : Nat) : Nat → Int → Int → Nat → Nat × Bool
  | 0, _, _, k => (k, true)
  | f + 1, lo, hi, k => if s.size ≤ a + k ∨ byteAt s (a + k) < lo ∨ hi < byteAt s (a + k) then (k, false) else cpMore s a n f 128 191 (k + 1)
def cpDecode (s : ByteArray) (a : Nat) : Nat × Bool :=
  let b := byteAt s a
  let n := cpSize b
  if n = 0 then (0, false) else if n = 1 then (1, true) else cpMore s a n.toNat (n.toNat - 1) (cpLow b) (cpHigh b) 1
theorem byteAt_lt {s : ByteArray} {i : Nat} (h : i < s.size) : s[i]? = some s[i] ∧ byteAt s i = s[i].toNat := by
  have := bget h
  simp [byteAt, this]
theorem cpSize_le (b : Int) : 0 ≤ cpSize b ∧ cpSize b ≤ 4 := by unfold cpSize; repeat' split <;> omega
theorem c252 (s : ByteArray) (a : Nat) (ha : a < s.size) (hs : s.size ≤ 1099511627776) : PC 252 [.str s, .int .i64 a] (.tup [.junk, .int .i64 (cpDecode s a).1, .bool (cpDecode s a).2]) := by
  intro h n
  refine go Tryz.func252 rfl (by kernel_rfl) (by kernel_rfl) (by simp [go_sem]) fun ho => ?_
  obtain ⟨e1, e2⟩ := byteAt_lt ha
  simp [go_sem, e1, ← e2]
  refine (c287 _).use ?_
  obtain ⟨hz0, hz1⟩ := cpSize_le (byteAt s a)
  simp [go_sem, hz0]
  by_cases h0 : cpSize (byteAt s a) = 0
  · simp [h0]; exact retFz 3 ho look_same (by simp [Fz, All2, cpDecode, h0]) rfl
  by_cases h1 : cpSize (byteAt s a) = 1
  · simp [h1]; exact retFz 3 ho look_same (by simp [Fz, All2, cpDecode, h1]) rfl
  have hD : cpDecode s a = cpMore s a (cpSize (byteAt s a)).toNat ((cpSize (byteAt s a)).toNat - 1) (cpLow (byteAt s a)) (cpHigh (byteAt s a)) 1 := by simp [cpDecode, h0, h1]
  obtain ⟨z, hz⟩ : ∃ z : Nat, cpSize (byteAt s a) = z := ⟨(cpSize (byteAt s a)).toNat, by omega⟩
  rw [hz] at hD h0 h1 hz0 hz1 ⊢
  simp only [h0, h1, if_false]
  rw [hD]
  simp only [Int.toNat_natCast]
  generalize IntKind.i64.wrap _ = p0
  refine goloop 3 (α := Int × Int × Int × Nat) (fun q => [(0, .str s), (1, .int .i64 a), (4, .int .i64 q.1), (5, .int .i64 q.2.2.2), (8, .int .u8 q.2.1), (9, .int .u8 q.2.2.1), (10, .int .i64 z)]) (fun _ => h)
    (fun q m => n ≤ m ∧ 1 ≤ q.2.2.2 ∧ q.2.2.2 ≤ z ∧ cpMore s a z (z - 1) (cpLow (byteAt s a)) (cpHigh (byteAt s a)) 1 = cpMore s a z (z - q.2.2.2) q.2.1 q.2.2.1 q.2.2.2) (fun q => z - q.2.2.2) (p0, cpLow (byteAt s a), cpHigh (byteAt s a), 1) ?_ ?_ look_same ?_
  · exact ⟨Nat.le_refl _, by simp, by simp; omega, rfl⟩
  · simp [look]
  rintro ⟨p, lo, hi, k⟩ m ⟨hm, hk1, hkz, hJ⟩
  by_cases hlt : k < z
  · obtain ⟨f, hf⟩ : ∃ f, z - k = f + 1 := ⟨z - k - 1, by omega⟩
    have hk : z - (k + 1) = f := by omega
    have w1 : IntKind.i64.wrap ((a : Int) + k) = ((a + k : Nat) : Int) := by rw [wr64] <;> omega
    have w2 : IntKind.i64.wrap ((k : Int) + 1) = ((k + 1 : Nat) : Int) := by rw [wr64] <;> omega
    dsimp only at hJ hk1 hkz
    rw [hf, cpMore] at hJ
    by_cases hin : s.size ≤ a + k
    · simp [go_sem, hlt, w1, hin, -Int.natCast_add]
      exact retFz 3 ho look_same (by simp [Fz, All2, hJ, hin]) rfl
    obtain ⟨g1, g2⟩ := byteAt_lt (Nat.lt_of_not_le hin)
    by_cases hlo : byteAt s (a + k) < lo
    · simp [go_sem, hlt, w1, hin, g1, ← g2, hlo, -Int.natCast_add]
      exact retFz 3 ho look_same (by simp [Fz, All2, hJ, hlo]) rfl
    by_cases hhi : hi < byteAt s (a + k)
    · simp [go_sem, hlt, w1, hin, g1, ← g2, hlo, hhi, -Int.natCast_add]
      exact retFz 3 ho look_same (by simp [Fz, All2, hJ, hhi]) rfl
    simp [go_sem, hlt, w1, w2, hin, g1, ← g2, hlo, hhi, -Int.natCast_add]
    rw [if_neg (by simp only [not_or]; exact ⟨hin, hlo, hhi⟩)] at hJ
    refine ⟨_, 128, 191, k + 1, by omega, ⟨hm, by omega, by omega, by rw [hk]; exact hJ⟩, Fz.same, Fz.same, Fz.same, Fz.same⟩
  · have : k = z := by dsimp only at hkz; omega
    subst this
    simp [go_sem]
    rw [Nat.sub_self, cpMore] at hJ
    exact retFz 3 ho look_same (by simp [Fz, All2, hJ]) rfl
end Go.Proofs.YtgakninlhfkkmaaGreat.Sh
