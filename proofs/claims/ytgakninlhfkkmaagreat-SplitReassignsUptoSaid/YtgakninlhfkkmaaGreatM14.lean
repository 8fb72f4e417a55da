/- A part of the proof (part 14 of 14). -/
import Derived.Test.YtgakninlhfkkmaaGreatM13
import Derived.Test.YtgakninlhfkkmaaGreatMF
namespace Go.Proofs.YtgakninlhfkkmaaGreat.Sh
abbrev Ut := @AR.mh_eq
abbrev Xa := @AE.nrm_eq
abbrev Xb := @Cj.rd
abbrev Xc := @AL.mh_eq
abbrev Yg := @Cj.cons
abbrev ZF := @AE.mhL_eq
abbrev ZN := @Cj.nil
abbrev Zq := @AE.mh_eq
abbrev Zv := @Rd.zero
open Proofs
set_option maxRecDepth 10000
def Jv (a id : Int) (s : Unit) (p : B6) : AF × Bool × Unit := (Ci (CW a) id p.head, true, s)
def Jn (a id : Int) (s : Unit) (p : B6) : AF × Bool × Unit := (G5 a id p.head, true, s)
theorem c66 (a y : Int) : PC 66 ([] ++ [AA y] ++ [.iptr [AA a]]) (.bool (CW a y)) := by
 intro h n
 refine gq Tryz.func66 rfl fun ho => ?_
 simp [go_sem]
 exact A3 ho rfl rfl
theorem c67 : PC 67 [] A9.enc := by
 intro h n
 refine gq Tryz.func67 rfl fun ho => ?_
 simp [go_sem, AC]
 exact Ax ho (by repeat (first | exact AB | refine AN ho (by omega) ?_)) rfl rfl
theorem c69 : PC 69 [] A9.enc := by
 intro h n
 refine gq Tryz.func69 rfl fun ho => ?_
 simp [go_sem, AC]
 exact Ax ho (by repeat (first | exact AB | refine AN ho (by omega) ?_)) rfl rfl
theorem v65 (n0 : Nat) (r : Av) (a : Int) : Lm NP n0 65 [] [.iptr [AA r.id, .str r.author, AA r.time], .iptr [AA a]] (Jv a r.id) (fun x => x.sized ∧ x.dels.length < 20) where
 lt _ _ _ := rfl
 dom _ _ _ _ := rfl
 cl _ _ _ e := by cases e
 call s p H n hp hn hs := by
  rw [Tg]
  refine Da Tryz.func65 rfl fun ho => ?_
  have hHb := ho.lt
  have q1 : n + 1 ≠ n := by omega
  obtain ⟨X, hX⟩ : ∃ X : SV, X = .iptr (p.head.flat ++ [.bool p.mid, AA p.units]) := ⟨_, rfl⟩
  refine Bn 1 [(1, .iptr [AA r.id, .str r.author, AA r.time]), (2, .iptr [AA a]), (3, X), (4, .ptr (n + 1) 0)] (hset H (n + 1) (some (.cells [.imm 0 [] true, AA 0, AA 0, .imm 0 [] true, .imm 0 [] true]))) (fun m => n + 2 ≤ m) ?_ (fun m hm => ?_)
  · rw [hX]
    simp [go_sem, B6.enc, AF.flat, Jo]
    refine ⟨AW (by rw [AD _ _ q1.symm]; exact ho.none (JO n)) (by simp [hset]), fun j y => ?_⟩
    have := hHb j y; simp only [hset]; grind
  have hcl : ∀ x : AF, closed n (.tup [x.enc, .bool true]) = true := fun x => by simp [closed, closedL, AF.E.cl]
  have fin : ∀ (x : AF) (y : BY) (m' : Nat), Jv a r.id s p = (x, true, s) → CE n (hset H (n + 1) (some y)) m' (.tup [x.enc, .bool true]) (fun v h' n' => v = .tup [(Jv a r.id s p).1.enc, .bool (Jv a r.id s p).2.1] ∧ h' = H ∧ n' = n) := fun x y m' e => by
   rw [e]; exact CY ho (hcl x) (fun j z e => by have := hHb j z e; rw [AD _ _ (by omega)]; exact e)
  rw [hX]
  refine AK ?_
  simp [go_sem, AF.flat]
  refine Y4 (by simpa [AF.enc, AF.flat] using c47g (g := 66) (a := []) (b := [.iptr [AA a]]) (p := CW a) p.head hp.1 hp.2 (fun y => c66 a y) r.id) ?_
  simp [go_sem, AF.enc, AF.flat, AC, Ai]
  exact fin (Ci (CW a) r.id p.head) _ _ rfl
theorem v70 (n0 : Nat) (r : Av) (a : Int) : Ng NP n0 70 [] [.iptr [AA a], .iptr [AA r.id, .str r.author, AA r.time]] (Jn a r.id) (fun x => x.sized) where
 lt _ _ _ := rfl
 dom _ _ _ _ := rfl
 cl _ _ _ e := by cases e
 call s p H n hp hn hs := by
  rw [Tg]
  refine Da Tryz.func70 rfl fun ho => ?_
  have hHb := ho.lt
  have q1 : n + 1 ≠ n := by omega
  obtain ⟨X, hX⟩ : ∃ X : SV, X = .iptr p.head.flat := ⟨_, rfl⟩
  refine Bn 1 [(3, .iptr [AA a]), (4, .iptr [AA r.id, .str r.author, AA r.time]), (5, X), (8, .ptr (n + 1) 0)] (hset H (n + 1) (some (.cells [.imm 0 [] true, AA 0, AA 0, .imm 0 [] true, .imm 0 [] true]))) (fun m => n + 2 ≤ m) ?_ (fun m hm => ?_)
  · rw [hX]
    simp [go_sem, AF.enc, AF.flat, Jo]
    refine ⟨AW (by rw [AD _ _ q1.symm]; exact ho.none (JO n)) (by simp [hset]), fun j y => ?_⟩
    have := hHb j y; simp only [hset]; grind
  have hcl : ∀ x : AF, closed n (.tup [x.enc, .bool true]) = true := fun x => by simp [closed, closedL, AF.E.cl]
  have fin : ∀ (x : AF) (y : BY) (m' : Nat), Jn a r.id s p = (x, true, s) → CE n (hset H (n + 1) (some y)) m' (.tup [x.enc, .bool true]) (fun v h' n' => v = .tup [(Jn a r.id s p).1.enc, .bool (Jn a r.id s p).2.1] ∧ h' = H ∧ n' = n) := fun x y m' e => by
   rw [e]; exact CY ho (hcl x) (fun j z e => by have := hHb j z e; rw [AD _ _ (by omega)]; exact e)
  rw [hX]
  refine AK ?_
  simp [go_sem, AF.flat]
  refine Y4 (by simpa [AF.enc, AF.flat] using c54 p.head hp a r.id) ?_
  simp [go_sem, AF.enc, AF.flat, AC, Ai]
  exact fin (G5 a r.id p.head) _ _ rfl
def G8 (l : List Av) (ids : List Int) : List Av := l.filter fun r => !decide (r.id ∈ ids)
theorem UC {H : Hp} {n m k p : Nat} {es : List SV} {x : Av} {o : Option Nat} (hA : BQ n m 3 o es) (hl : es.length ≤ 1073741823) (h1 : H k = some (.cells [AA x.id, .str x.author, AA x.time])) (h2 : ∀ j, o = some j → H j = some (.cells (es.flatMap SV.cells))) :
 AT Tryz.prog H p .append [30, 30] [AQ 3 o es, .sl k 0 3 1 true] = some { val := .sl p 0 3 (es.length + 1) false, upd := o.map fun j => (j, none), new := some (.cells (es.flatMap SV.cells ++ [AA x.id, .str x.author, AA x.time])) } := by
 have := Fd (P := Tryz.prog) (H := H) (t := 30) (t2 := 30) (el := 42) (z := 3) (by simp [go_sem]) (by simp [go_sem]) (by simp [go_sem]) (by simp) (by simp [go_sem]) (by simp [go_sem]) (by simp [go_sem]) (by omega) hA (e := x.enc) rfl h1 h2 p
 exact this
set_option maxHeartbeats 2000000 in
theorem c64 (l : List Av) (hl : l.length ≤ 1048576) (ids : List Int) (hi : ids.length ≤ 1048576) : PC 64 [Aj l, .imm 1 (ids.map AA) false] (Aj (G8 l ids)) := by
 intro h n
 refine Da Tryz.func64 rfl fun ho => ?_
 have hHb := ho.lt
 obtain ⟨I, hI⟩ : ∃ I : SV, I = .imm 1 (ids.map AA) false := ⟨_, rfl⟩
 refine AZ 0 [(0, Aj l), (1, I)] h n ?_ (fun m hm => ?_)
 · simp [go_sem, hI, Jo]
 refine AZ 0 [(0, Aj l), (1, I), (5, .imm 0 [] true)] h n ?_ (fun m hm => ?_)
 · simp [go_sem, Jo, hm]
 obtain ⟨M, hM⟩ : ∃ M : Nat → List SV, ∀ i, M i = (G8 (l.take i) ids).map Av.enc := ⟨_, fun _ => rfl⟩
 have hM0 : M 0 = [] := by rw [hM]; rfl
 have hMs : ∀ i r, (hi : i < l.length) → l[i] = r → M (i + 1) = M i ++ if r.id ∈ ids then [] else [r.enc] := fun i r hi e => by
  rw [hM, hM, JW hi, e, G8, Yz, K1]
  by_cases c : r.id ∈ ids <;> simp [c, G8]
 have hMl : M l.length = (G8 l ids).map Av.enc := by rw [hM, KE]
 have hMn : ∀ i, (M i).length ≤ i := fun i => by
  rw [hM, Kj]; exact Yv (YH _ _) (List.length_take_le i l)
 refine AV 0 (α := Option Nat) (fun o => [(5, AQ 3 o (M l.length))]) (fun o => AS o (M l.length) h) (fun o m => n ≤ m ∧ BQ n m 3 o (M l.length)) ?_ (fun o m hm => ?_)
 · refine AZ 0 [(1, I), (5, AQ 3 none (M 0)), (8, Aj l), (9, AA l.length), (10, AA 0)] (AS none (M 0) h) m ?_ (fun m2 hm2 => ?_)
   · rw [hM0]; simp [go_sem, Jo, AQ, AS]
   refine AX (BX 0 (α := Nat × Option Nat) (fun q => [(1, I), (5, AQ 3 q.2 (M q.1)), (8, Aj l), (9, AA l.length), (10, AA q.1)]) (fun q => AS q.2 (M q.1) h)
    (fun q m => q.1 ≤ l.length ∧ n ≤ m ∧ BQ n m 3 q.2 (M q.1)) (fun q => l.length - q.1) (0, none) ⟨K2 _, by omega, by rw [hM0]; exact Zp _ _ _⟩ ?_ AB ?_)
   · simp [go_sem, Am, Jo]
   clear hm hm2 m2 m
   rintro ⟨i, o⟩ m ⟨hil, hnm, hA⟩
   dsimp only at hil hA ⊢
   have hEn := hMn i
   by_cases hlt : i < l.length
   · have w1 := wS i (by omega)
     obtain ⟨r, hr⟩ : ∃ r, l[i] = r := ⟨_, rfl⟩
     have hst := hMs i r hlt hr
     generalize hE : M i = E at hA hEn hst
     have hXb : ∀ j y, AS o E h j = some y → j < m := HP hHb hnm hA
     refine CJ 0 [(1, I), (5, AQ 3 o E), (8, Aj l), (9, AA l.length), (10, AA i), (11, .bool true)] (AS o E h) m ?_ (fun m2 hm2 => ?_)
     · simp [go_sem, Jo, hlt]
     subst hm2
     refine CJ 0 [(1, I), (5, AQ 3 o E), (8, Aj l), (9, AA l.length), (10, AA i)] (AS o E h) m ?_ (fun m2 hm2 => ?_)
     · simp [go_sem, Jo]
     subst hm2
     refine AV 0 (α := Option Nat) (fun o => [(1, I), (5, AQ 3 o (M (i + 1))), (8, Aj l), (9, AA l.length), (10, AA i)]) (fun o => AS o (M (i + 1)) h) (fun o m => n ≤ m ∧ BQ n m 3 o (M (i + 1))) (AX ?_) (fun o m hm => ?_)
     · refine AZ 1 [(1, I), (5, AQ 3 o E), (8, Aj l), (9, AA l.length), (10, AA i), (7, .iptr [AA r.id, .str r.author, AA r.time])] (AS o E h) m ?_ (fun m2 hm2 => ?_)
       · simp [go_sem, Jo, hlt, hr, Av.enc, AC]
         exact ⟨AW (Ad hXb (JO _)) (AC _ _ _), AJ hXb (AJ hXb AB)⟩
       rw [hst, hI]
       refine AK ?_
       simp [go_sem]
       refine (UG ids r.id hi).use ?_
       by_cases c : r.id ∈ ids
       · simp [go_sem, c, Jo]
         exact ⟨o, ⟨by omega, hA.mono hm2⟩, rfl, AB⟩
       · simp [go_sem, c]
         rw [UC (x := r) hA (by omega) (by simp [AC]) (by
          intro j e
          have := (hA.lt j e).2
          rw [AD _ _ (by omega)]; exact E3 j e)]
         have hpush := hA.push (j := m2 + 1) (m' := m2 + 1 + 1) (e := r.enc) rfl rfl (by omega) (by omega)
         have hlive := ES (p := m2 + 1) (v := .sl (m2 + 1) 0 3 (E.length + 1) false) (e := r.enc) hHb (by omega) hA (H := hset (AS o E h) m2 (some (.cells [AA r.id, .str r.author, AA r.time]))) (AJ (fun j z e => by have := hHb j z e; omega) (DO hHb hA))
         have hvv : AQ 3 (some (m2 + 1)) (E ++ [r.enc]) = .sl (m2 + 1) 0 3 (E.length + 1) false := by simp [AQ]
         simp [go_sem]
         exact ⟨some (m2 + 1), ⟨by omega, hpush⟩, hvv.symm, by simpa [Cu.app, SV.cells, Av.enc] using hlive⟩
     · refine AK ?_
       simp [go_sem, w1, Jo, -Int.natCast_add]
       exact ⟨i + 1, by omega, o, ⟨by omega, hm.1, hm.2⟩, ⟨Jo, Jo⟩, AB⟩
   · have : i = l.length := by omega
     subst this
     refine AK ?_
     simp [go_sem]
     exact ⟨o, ⟨hnm, hA⟩, rfl, AB⟩
 refine AK ?_
 simp [go_sem]
 rw [hMl] at hm ⊢
 exact Hg ho hm.2 (fun e he => by obtain ⟨p, _, rfl⟩ := Y5.1 he; simp [Av.enc, closed, closedL])
def L7 (l : List Av) : Prop := l.length ≤ 256 ∧ (∀ r ∈ l, CN r = 0) ∧ l.Pairwise fun a b => a.id < b.id
theorem Ux {l : List Av} (h : CU l = 0) : L7 l := by
 have hl : ¬ 256 < l.length := fun g => by rw [CU, if_pos g] at h; cases h
 refine ⟨by omega, fun r hr => ?_, ?_⟩
 · rw [CU, if_neg hl] at h
   obtain ⟨i, hi, rfl⟩ := YZ.1 hr
   have := Jc h i hi
   unfold Ek at this
   rw [Y1 hi] at this
   dsimp only at this
   by_cases e : CN l[i] = 0
   · exact e
   · rw [if_neg e] at this; exact this
 · exact Z1.2 fun i j hi hj hij => Hl h i j hij hj
theorem Mm {l : List Av} (h : L7 l) : CU l = 0 := by
 obtain ⟨h1, h2, h3⟩ := h
 rw [CU, if_neg (by omega)]
 refine Mu fun i hi => ?_
 unfold Ek
 rw [Y1 hi]
 dsimp only
 rw [if_pos (h2 _ (Kn hi))]
 by_cases c : i = 0
 · rw [if_pos c]
 · rw [if_neg c]
   have hi1 : i - 1 < l.length := by omega
   rw [Y1 hi1]
   dsimp only
   have := Z1.1 h3 (i - 1) i hi1 hi (by omega)
   unfold GD
   rw [if_neg (by omega), if_pos this]; simp; omega
theorem QH {l : List Av} (h : L7 l) {r s : Av} (hr : r ∈ l) (hs : s ∈ l) (e : r.id = s.id) : r = s := by
 obtain ⟨i, hi, rfl⟩ := YZ.1 hr
 obtain ⟨j, hj, rfl⟩ := YZ.1 hs
 rcases Nat.lt_trichotomy i j with c | c | c
 · have := Z1.1 h.2.2 i j hi hj c; omega
 · subst c; rfl
 · have := Z1.1 h.2.2 j i hj hi c; omega
theorem HE {l : List Av} (h : L7 l) (p : Av → Bool) : L7 (l.filter p) :=
 ⟨Yv (YH _ _) h.1, fun r hr => h.2.1 r (Z0.1 hr).1, h.2.2.sublist List.filter_sublist⟩
theorem SW : ∀ {a b : List Av}, a.Pairwise (fun a b => a.id < b.id) → b.Pairwise (fun a b => a.id < b.id) → (∀ y, y ∈ a ↔ y ∈ b) → a = b
 | [], [], _, _, _ => rfl
 | [], y :: _, _, _, h => absurd ((h y).2 (by simp)) (by simp)
 | x :: _, [], _, _, h => absurd ((h x).1 (by simp)) (by simp)
 | x :: a, y :: b, ha, hb, h => by
  obtain ⟨a1, a2⟩ := Yy.1 ha
  obtain ⟨b1, b2⟩ := Yy.1 hb
  have e : x = y := by
   rcases Y0.1 ((h x).1 (by simp)) with e | e
   · exact e
   · rcases Y0.1 ((h y).2 (by simp)) with g | g
     · exact g.symm
     · have := b1 x e; have := a1 y g; omega
  subst e
  rw [SW a2 b2 fun z => ?_]
  constructor
  · intro hz
    rcases Y0.1 ((h z).1 (by simp [hz])) with e | e
    · subst e; have := a1 z hz; omega
    · exact e
  · intro hz
    rcases Y0.1 ((h z).2 (by simp [hz])) with e | e
    · subst e; have := b1 z hz; omega
    · exact e
theorem QU {l : List Av} (h : L7 l) {r : Av} (hr : r ∈ l) : BG l r.id = (r, true) := by
 have h0 := Mm h
 have h1 := Im ⟨r, hr, rfl⟩
 unfold BG at h1 ⊢
 rw [if_pos h0] at h1 ⊢
 split at h1
 · rename_i h2
   rw [if_pos h2]
   have hlt := Gt _ _ h2
   obtain ⟨k, hk⟩ : ∃ k, k = (A8 (Fb l r.id) l.length).1 := ⟨_, rfl⟩
   rw [← hk] at hlt ⊢
   rw [Y1 hlt]
   have h3 : Fb l r.id k = 0 := by
    simp only [A8, decide_eq_true_eq] at h2 hk
    rw [← hk] at h2; exact h2.2
   unfold Fb GD at h3
   rw [Y1 hlt] at h3
   dsimp only at h3
   have : l[k].id = r.id := by
    split at h3
    · omega
    · split at h3
      · omega
      · omega
   rw [QH h (Kn hlt) hr this]; rfl
 · simp at h1
theorem Rh {l : List Av} (h : L7 l) {id : Int} (e : (BG l id).2 = true) : (BG l id).1 ∈ l ∧ (BG l id).1.id = id := by
 obtain ⟨r, hr, rfl⟩ := H9 e
 rw [QU h hr]; exact ⟨hr, rfl⟩
theorem RT : ∀ {l : List Av}, l.Pairwise (fun a b => a.id < b.id) → ∀ x : Int, ∃ k, k ≤ l.length ∧ (∀ r ∈ l.take k, r.id < x) ∧ ∀ r ∈ l.drop k, x ≤ r.id
 | [], _, _ => ⟨0, JO _, by simp, by simp⟩
 | a :: l, h, x => by
  obtain ⟨h1, h2⟩ := Yy.1 h
  by_cases c : a.id < x
  · obtain ⟨k, k1, k2, k3⟩ := RT h2 x
    refine ⟨k + 1, by simp; omega, fun r hr => ?_, fun r hr => k3 r (by simpa using hr)⟩
    rw [Yu] at hr
    rcases Y0.1 hr with rfl | hr
    · exact c
    · exact k2 r hr
  · refine ⟨0, K2 _, by simp, fun r hr => ?_⟩
    rw [Zs] at hr
    rcases Y0.1 hr with rfl | hr
    · omega
    · have := h1 r hr; omega
def LV (l : List Av) (r : Av) : Nat := (A8 (Fb l r.id) l.length).1
theorem OM {l : List Av} {k : Nat} {r x : Av} : x ∈ Fh l k r ↔ x = r ∨ x ∈ l := by
 unfold Fh
 conv => rhs; rw [← YG k l]
 simp only [Kz, Y0]
 exact ⟨fun h => h.elim (fun h => .inr (.inl h)) fun h => h.elim .inl fun h => .inr (.inr h), fun h => h.elim (fun h => .inr (.inl h)) fun h => h.elim .inl fun h => .inr (.inr h)⟩
theorem P6 {l : List Av} (h : L7 l) {r : Av} (hn : ∀ x ∈ l, x.id ≠ r.id) : A8 (Fb l r.id) l.length = (LV l r, false) ∧ LV l r ≤ l.length ∧ (l.length < 256 → CN r = 0 → L7 (Fh l (LV l r) r)) := by
 obtain ⟨k, k1, k2, k3⟩ := RT h.2.2 r.id
 have hc : ∀ m, (hm : m < l.length) → Fb l r.id m = GD l[m].id r.id := fun m hm => by unfold Fb; rw [Y1 hm]
 have c1 : ∀ m, m < k → Fb l r.id m < 0 := fun m hm => by
  have := k2 (l[m]'(by omega)) (YZ.2 ⟨m, by rw [Zu]; omega, by rw [List.getElem_take]⟩)
  rw [hc m (by omega)]; unfold GD; rw [if_pos this]; omega
 have c2 : ∀ m, k ≤ m → m < l.length → ¬ Fb l r.id m < 0 := fun m h1 hm => by
  have := k3 l[m] (YZ.2 ⟨m - k, by rw [Uh]; omega, by rw [List.getElem_drop]; congr 1; omega⟩)
  rw [hc m hm]; unfold GD; rw [if_neg (by omega)]; split <;> omega
 have e : E8 (Fb l r.id) 0 l.length = k := Ki c1 c2 l.length 0 l.length (by omega) (K2 _) k1 (JO _)
 have ep : LV l r = k := e
 rw [ep]
 refine ⟨?_, k1, fun hl he => ⟨?_, fun x hx => ?_, ?_⟩⟩
 · unfold A8
   rw [e]
   have : ¬ (k < l.length ∧ Fb l r.id k = 0) := fun ⟨u, v⟩ => by
    rw [hc k u] at v
    have := hn l[k] (Kn u)
    unfold GD at v
    split at v
    · omega
    · split at v
      · omega
      · omega
   rw [decide_eq_false this]
 · rw [OG _ _ _ k1]; omega
 · rcases OM.1 hx with rfl | hx
   · exact he
   · exact h.2.1 x hx
 · unfold Fh
   have hs := h.2.2
   rw [← YG k l, List.pairwise_append] at hs
   refine List.pairwise_append.2 ⟨hs.1, Yy.2 ⟨fun x hx => ?_, hs.2.1⟩, fun x hx y hy => ?_⟩
   · have := k3 x hx
     have := hn x (Yo hx)
     omega
   · rcases Y0.1 hy with rfl | hy
     · exact k2 x hx
     · exact hs.2.2 x hx y hy
theorem ON {l : List Av} {ids : List Int} {x : Av} : x ∈ G8 l ids ↔ x ∈ l ∧ x.id ∉ ids := by
 unfold G8; rw [Z0]; simp
theorem TU {l : List Av} {ids : List Int} {r : Av} (hr : r ∈ l) (h : r.id ∈ ids) : (G8 l ids).length < l.length := by
 unfold G8
 rcases Yr (l.filter fun r => !decide (r.id ∈ ids)).length l.length with g | g
 · exact g
 · have := List.filter_sublist (p := fun r : Av => !decide (r.id ∈ ids)) (l := l)
   have e := this.eq_of_length_le g
   rw [← e] at hr
   have := (Z0.1 hr).2
   simp [h] at this
theorem Qc {d : AH} {x : Int} : x ∈ Fe d ↔ x ≠ 0 ∧ x ∈ AE.usL d.flow ++ d.«end».all := by
 unfold Fe Co
 rw [List.mem_mergeSort, Z0, HQ]
 simp [and_comm]
theorem R8 {U : List Int} {x : Int} (h : (A8 (Ig U x) U.length).2 = true) : x ∈ U := by
 have hlt := Gt _ _ h
 simp only [A8, decide_eq_true_eq] at h hlt
 obtain ⟨k, hk⟩ : ∃ k, k = E8 (Ig U x) 0 U.length := ⟨_, rfl⟩
 rw [← hk] at h hlt
 have := h.2
 unfold Ig at this
 rw [Y1 hlt] at this
 dsimp only at this
 split at this
 · omega
 · split at this
   · rename_i e; rw [← e]; exact Kn hlt
   · omega
theorem Ij {D : AH} {r : Av} (h0 : r.id ≠ 0) : r ∈ D.normal.revs ↔ r ∈ D.revs ∧ r.id ∈ AE.usL (AP D.flow) ++ D.«end».all := by
 show r ∈ D.revs.filter _ ↔ _
 rw [Z0]
 constructor
 · rintro ⟨h1, h2⟩
   exact ⟨h1, (Qc.1 (R8 h2)).2⟩
 · rintro ⟨h1, h2⟩
   exact ⟨h1, Ou h0 h2⟩
theorem e76 (h : Hp) (n : Nat) : BN Tryz.prog 76 [.imm 3 [] false] h n (fun v h' n' => (∃ z, v = .imm z [] true) ∧ h' = h ∧ n' = n) := by
 refine gq Tryz.func76 rfl fun ho => ?_
 simp [go_sem]
 refine CV rfl (by kernel_rfl) rfl (fun e => ?_) ?_
 · simp [go_sem]
   exact .inl ⟨⟨_, rfl⟩, rfl, rfl⟩
 · simp [go_sem]
   refine Cn (z := 3) rfl rfl (by kernel_rfl) ?_
   simp [go_sem]
   exact .inl ⟨⟨_, rfl⟩, rfl, rfl⟩
theorem RX (z : Nat) (r : Av) {H : Hp} {n k : Nat} (hk : H k = some (.cells [AA r.id, .str r.author, AA r.time])) :
 BN Tryz.prog 117 [.imm z [] true, AA 0, .sl k 0 3 1 true] H n (fun v h' n' => v = Aj [r] ∧ h' = H ∧ n' = n) := by
 refine Da Tryz.func117 rfl fun ho => ?_
 have hHb := ho.lt
 have hfl2 : flat H (.sl k 0 3 1 true) = some [AA r.id, .str r.author, AA r.time] := by simp [flat, hk, Bm]
 have ht : BC Tryz.prog 30 = some 42 := by simp [go_sem]
 have hap : ∀ z, AT Tryz.prog H n .append [30, 30] [.imm z [] true, .sl k 0 3 1 true] = some { val := .sl n 0 3 1 false, new := some (.cells [AA r.id, .str r.author, AA r.time]) } := fun z => by
  have hz : Bk Tryz.prog 42 = 3 := by simp [go_sem]
  have hst : (BP Tryz.prog 42).storable = true := by simp [go_sem]
  have hzl : (BP Tryz.prog 42).cells.length = 3 := by simp [go_sem]
  have hb : Bj Tryz.prog 42 ≤ 65536 := by simp [go_sem]
  have hro : DM 1 (Bj Tryz.prog 42) = true := by simp [DM, hb]
  simp [AT, ht, C5, hz, hst, hzl, Ea, hfl2, ID, hro, G9]
 have fin : ∀ n', CE n (hset H n (some (.cells [AA r.id, .str r.author, AA r.time]))) n' (.sl n 0 3 1 false) (fun v h' n' => v = Aj [r] ∧ h' = H ∧ n' = n) := fun n' =>
  .inr ⟨1, Aj [r], H, DN (k := 0) (z := 3) (es := [r].map Av.enc) (full := false) (full' := false) (o := n) (ho.none (JO n)) (by simp) (by rw [AC]; simp [Av.enc, SV.cells]) (Av.E.size _), Av.E.imm _ _ _ _, fun j y e => ⟨AJ hHb AB j y e, ho j y e⟩, rfl, rfl, rfl⟩
 refine AK ?_
 simp [go_sem]
 rw [hap]
 simp [go_sem]
 exact fin _
set_option maxHeartbeats 2000000 in
theorem c45e (r : Av) (h1 : CN r = 0) : PC 45 [Aj [], r.enc] (.tup [Aj [r], AA 0]) := by
 intro h n
 refine Da Tryz.func45 rfl fun ho => ?_
 have hHb := ho.lt
 refine AZ 1 [(0, Aj []), (3, .iptr [AA r.id, .str r.author, AA r.time])] h n ?_ (fun m hm => ?_)
 · simp [go_sem, Av.enc, Jo]
   exact ⟨AW (Ad hHb (JO _)) (AC _ _ _), AJ hHb AB⟩
 refine Bf 0 [(0, Aj []), (3, .iptr [AA r.id, .str r.author, AA r.time])] h n (AK ?_) (fun m hm => ?_)
 · have c := c71 [] (by simp)
   rw [show CU [] = 0 from rfl] at c
   simp [go_sem]
   refine Y4 c ?_
   simp [go_sem, Jo, hm]
 refine Bf 0 [(0, Aj []), (3, .iptr [AA r.id, .str r.author, AA r.time])] h n (AK ?_) (fun m hm => ?_)
 · simp [go_sem]
   refine Y4 (by simpa [Av.enc] using UM r) ?_
   rw [h1]
   simp [go_sem, Jo, hm]
 refine AZ 0 [(0, Aj []), (3, .iptr [AA r.id, .str r.author, AA r.time]), (8, AA 0), (9, .bool false)] h n ?_ (fun m hm => ?_)
 · have c := c72 [] (by simp) r.id
   rw [show A8 (Fb [] r.id) [].length = (0, false) by unfold A8; rw [E8]; simp] at c
   simp [go_sem]
   refine Y4 c ?_
   simp [go_sem, Jo, hm]
 refine Bf 0 [(0, Aj []), (3, .iptr [AA r.id, .str r.author, AA r.time]), (8, AA 0)] h n (AK ?_) (fun m hm => ?_)
 · simp [go_sem, Jo, hm]
 refine AV 0 (α := Unit) (fun _ => [(4, Aj [r]), (5, AA 0)]) (fun _ => h) (fun _ m => n ≤ m) (Bt Q7 rfl (by kernel_rfl) (by kernel_rfl) ?_) (fun _ m hm => ?_)
 · have hHm : ∀ j y, h j = some y → j < m := fun j y e => by have := hHb j y e; omega
   simp [go_sem, Q7]
   refine ⟨?_, ?_, ?_⟩
   · refine Y9 (e76 _ _) ?_
     rintro v H' n' ⟨⟨z, rfl⟩, rfl, rfl⟩
     simp [go_sem]
     refine Y9 (RX z r (AC _ _ _)) ?_
     rintro v H2 n2 ⟨rfl, rfl, rfl⟩
     simp [go_sem, Jo]
     exact ⟨by omega, AJ hHm AB⟩
   · refine Y9 (e76 _ _) ?_
     rintro v H' n' ⟨⟨z, rfl⟩, rfl, rfl⟩
     simp [go_sem]
     refine Y9 (RX z r (AC _ _ _)) ?_
     rintro v H2 n2 ⟨rfl, rfl, rfl⟩
     simp [go_sem, Jo]
     exact ⟨by omega, AJ hHm AB⟩
   · refine Y9 (e76 _ _) ?_
     rintro v H' n' ⟨⟨z, rfl⟩, rfl, rfl⟩
     simp [go_sem]
     refine Y9 (RX z r (AC _ _ _)) ?_
     rintro v H2 n2 ⟨rfl, rfl, rfl⟩
     simp [go_sem, Jo]
     exact ⟨by omega, AJ hHm AB⟩
 refine AK ?_
 simp [go_sem]
 exact Ax ho AB rfl (by rw [closed, closedL, closedL, Av.E.imm _ _ [r]]; rfl)
theorem c45a {l : List Av} (h : L7 l) (hl : l.length < 256) {r : Av} (h1 : CN r = 0) (hn : ∀ x ∈ l, x.id ≠ r.id) : PC 45 [Aj l, r.enc] (.tup [Aj (Fh l (LV l r) r), AA 0]) := by
 cases l with
 | nil =>
  have : Fh [] (LV [] r) r = [r] := by simp [Fh]
  rw [this]; exact c45e r h1
 | cons a l =>
  obtain ⟨e1, e2, _⟩ := P6 h hn
  exact c45g (a :: l) (by simp) hl r (Mm h) h1 _ e2 e1
def Ic (l : List BS) : Prop := l.Pairwise fun a b => a.rev < b.rev
theorem OF : ∀ {l : List BS} {x y : BS}, y ∈ Fa l x → y = x ∨ y ∈ l
 | [], x, y, h => by simpa [Fa] using h
 | z :: l, x, y, h => by
  rw [Fa] at h
  split at h
  · rcases Y0.1 h with rfl | h
    · exact .inr (by simp)
    · rcases OF h with h | h
      · exact .inl h
      · exact .inr (by simp [h])
  · split at h
    · exact .inr h
    · rcases Y0.1 h with rfl | h
      · exact .inl rfl
      · exact .inr h
theorem OB : ∀ {l : List BS} {x : BS}, Ic l → Ic (Fa l x)
 | [], x, _ => by simp [Fa, Ic]
 | z :: l, x, h => by
  obtain ⟨h1, h2⟩ := Yy.1 h
  rw [Fa]
  split
  · rename_i e
    refine Yy.2 ⟨fun y hy => ?_, OB h2⟩
    rcases OF hy with rfl | hy
    · exact e
    · exact h1 y hy
  · split
    · exact h
    · refine Yy.2 ⟨fun y hy => ?_, h⟩
      rcases Y0.1 hy with rfl | hy
      · omega
      · have := h1 y hy; omega
theorem OD : ∀ {l : List BS} {x : BS}, (∀ y ∈ l, y.rev ≠ x.rev) → ∀ y, y ∈ Fa l x ↔ y = x ∨ y ∈ l
 | [], x, _, y => by simp [Fa]
 | z :: l, x, h, y => by
  rw [Fa]
  split
  · rw [Y0, OD (fun y hy => h y (by simp [hy])), Y0]
    exact ⟨fun g => g.elim (fun e => .inr (.inl e)) fun g => g.elim .inl fun e => .inr (.inr e), fun g => g.elim (fun e => .inr (.inl e)) fun g => g.elim .inl fun e => .inr (.inr e)⟩
  · split
    · rename_i e; exact absurd e (h z (by simp))
    · simp
theorem ML : ∀ (l o : List BS), Ic o → Ic (l.foldl Fa o)
 | [], _, h => h
 | _x :: l, _o, h => ML l _ (OB h)
theorem MN : ∀ (l o : List BS), l.Pairwise (fun a b => a.rev ≠ b.rev) → (∀ x ∈ l, ∀ y ∈ o, y.rev ≠ x.rev) → ∀ y, y ∈ l.foldl Fa o ↔ y ∈ o ∨ y ∈ l
 | [], o, _, _, y => by simp
 | x :: l, o, h, g, y => by
  obtain ⟨h1, h2⟩ := Yy.1 h
  have hx := OD (g x (by simp))
  rw [YO, MN l _ h2 (fun z hz w hw => by
   rcases (hx w).1 hw with rfl | hw
   · exact h1 z hz
   · exact g z (by simp [hz]) w hw), hx y, Y0]
  exact ⟨fun g => g.elim (fun g => g.elim (fun e => .inr (.inl e)) .inl) fun e => .inr (.inr e), fun g => g.elim (fun e => .inl (.inr e)) fun g => g.elim (fun e => .inl (.inl e)) .inr⟩
theorem OI (l : List BS) : Ic (Fj l) := ML l [] (by simp [Ic])
theorem OJ {l : List BS} (h : l.Pairwise (fun a b => a.rev ≠ b.rev)) (y : BS) : y ∈ Fj l ↔ y ∈ l := by
 rw [Fj, MN l [] h (by simp)]; simp
theorem PM : ∀ {a b : List BS}, Ic a → Ic b → (∀ y, y ∈ a ↔ y ∈ b) → a = b
 | [], [], _, _, _ => rfl
 | [], y :: _, _, _, h => absurd ((h y).2 (by simp)) (by simp)
 | x :: _, [], _, _, h => absurd ((h x).1 (by simp)) (by simp)
 | x :: a, y :: b, ha, hb, h => by
  obtain ⟨a1, a2⟩ := Yy.1 ha
  obtain ⟨b1, b2⟩ := Yy.1 hb
  have e : x = y := by
   rcases Y0.1 ((h x).1 (by simp)) with e | e
   · exact e
   · rcases Y0.1 ((h y).2 (by simp)) with g | g
     · exact g.symm
     · have := b1 x e; have := a1 y g; omega
  subst e
  rw [PM a2 b2 fun z => ?_]
  constructor
  · intro hz
    rcases Y0.1 ((h z).1 (by simp [hz])) with e | e
    · subst e; have := a1 z hz; omega
    · exact e
  · intro hz
    rcases Y0.1 ((h z).2 (by simp [hz])) with e | e
    · subst e; have := b1 z hz; omega
    · exact e
def HJ : List BS → BS → List BS
 | [], x => [x]
 | a :: A, x => if x.rev < a.rev then a :: HJ A x else x :: a :: A
theorem MW : ∀ (A : List BS) (x : BS), (HJ A x).length = A.length + 1
 | [], _ => rfl
 | a :: A, x => by rw [HJ]; split <;> simp [MW A x]
theorem Jl : ∀ {A : List BS} {x y : BS}, y ∈ HJ A x ↔ y = x ∨ y ∈ A
 | [], x, y => by simp [HJ]
 | a :: A, x, y => by
  rw [HJ]
  split
  · rw [Y0, Jl, Y0]
    exact ⟨fun g => g.elim (fun e => .inr (.inl e)) fun g => g.elim .inl fun e => .inr (.inr e), fun g => g.elim (fun e => .inr (.inl e)) fun g => g.elim .inl fun e => .inr (.inr e)⟩
  · simp
theorem MV : ∀ {A : List BS} {x : BS}, A.Pairwise (fun a b => b.rev < a.rev) → (∀ y ∈ A, y.rev ≠ x.rev) → (HJ A x).Pairwise fun a b => b.rev < a.rev
 | [], x, _, _ => by simp [HJ]
 | a :: A, x, h, g => by
  obtain ⟨h1, h2⟩ := Yy.1 h
  rw [HJ]
  split
  · rename_i e
    refine Yy.2 ⟨fun y hy => ?_, MV h2 fun y hy => g y (by simp [hy])⟩
    rcases Jl.1 hy with rfl | hy
    · exact e
    · exact h1 y hy
  · refine Yy.2 ⟨fun y hy => ?_, h⟩
    have := g a (by simp)
    rcases Y0.1 hy with rfl | hy
    · omega
    · have := h1 y hy; omega
theorem Pz (A B : List BS) (x : BS) : Gr (A ++ x :: B) A.length = x := by simp [Gr, List.getD]
theorem Oh : ∀ (A : List BS) (x : BS) (B : List BS), Em (A.reverse ++ x :: B) A.length = (HJ A x).reverse ++ B
 | [], x, B => rfl
 | a :: A, x, B => by
  have e1 : (a :: A).reverse ++ x :: B = A.reverse ++ a :: x :: B := by simp
  have d1 : Gr (A.reverse ++ a :: x :: B) (A.length + 1) = x := by
   have := Pz (A.reverse ++ [a]) B x
   simpa using this
  have d2 : Gr (A.reverse ++ a :: x :: B) A.length = a := by
   have := Pz A.reverse (x :: B) a
   simpa using this
  rw [e1, Yl, Em, d1, d2, HJ]
  split
  · have e2 : Hu (A.reverse ++ a :: x :: B) A.length = A.reverse ++ x :: a :: B := by
     unfold Hu
     rw [d1, d2]
     have h1 : (A.reverse ++ a :: x :: B).set (A.length + 1) a = A.reverse ++ a :: a :: B := by
      rw [Zy _ _ (by simp)]; simp
     rw [h1, Zy _ _ (by simp)]; simp
    rw [e2, Oh A x (a :: B)]; simp
  · simp
theorem Mk : ∀ (i : Nat) (l : List BS), i ≤ l.length → l.Pairwise (fun a b => a.rev ≠ b.rev) → ∃ A : List BS, CS l i = A.reverse ++ l.drop i ∧ A.length = i ∧ A.Pairwise (fun a b => b.rev < a.rev) ∧ ∀ y, y ∈ A ↔ y ∈ l.take i
 | 0, l, _, _ => ⟨[], by simp [CS], rfl, List.Pairwise.nil, by simp⟩
 | i + 1, l, hi, hp => by
  obtain ⟨A, h1, h2, h3, h4⟩ := Mk i l (by omega) hp
  have hlt : i < l.length := by omega
  refine ⟨HJ A l[i], ?_, by rw [MW, h2], MV h3 fun y hy => ?_, fun y => ?_⟩
  · rw [CS, h1, Yi hlt]
    have := Oh A l[i] (l.drop (i + 1))
    rw [h2] at this; exact this
  · obtain ⟨j, hj, e⟩ := YZ.1 ((h4 y).1 hy)
    rw [List.getElem_take] at e
    rw [Zu] at hj
    rw [← e]
    exact Z1.1 hp j i (by omega) hlt (by omega)
  · rw [Jl, h4, JW hlt, Kz, Yb]
    exact Or.comm
theorem J4 {l : List BS} (hp : l.Pairwise (fun a b => a.rev ≠ b.rev)) : Ic (CS l l.length) := by
 obtain ⟨A, h1, _, h3, _⟩ := Mk l.length l (JO _) hp
 rw [h1, List.drop_length, Zf, Ic, List.pairwise_reverse]; exact h3
theorem Sd {l : List BS} (hp : l.Pairwise (fun a b => a.rev ≠ b.rev)) : CS l l.length = Fj l :=
 PM (J4 hp) (OI l) fun y => by rw [Fy l _ (JO _), OJ hp]
theorem PN {l : List BS} (h : Ic l) : l.Pairwise fun a b => a.rev ≠ b.rev :=
 List.Pairwise.imp (R := fun a b : BS => a.rev < b.rev) (S := fun a b : BS => a.rev ≠ b.rev) (fun {a b} g => by have : a.rev < b.rev := g; omega) h
section
variable {a id : Int}
theorem Pd {l : List BS} (h : l.Pairwise fun a b => a.rev ≠ b.rev) (hn : id = a ∨ ∀ d ∈ l, d.rev ≠ id) : (l.map (BM (CW a) id)).Pairwise fun a b => a.rev ≠ b.rev := by
 rw [List.pairwise_map]
 induction h with
 | nil => exact List.Pairwise.nil
 | @cons x l h1 h2 ih =>
  refine List.Pairwise.cons (fun y hy => ?_) (ih (hn.imp_right fun g d hd => g d (by simp [hd])))
  have e := h1 y hy
  have n1 := fun g : id ≠ a => (hn.resolve_left g) x (by simp)
  have n2 := fun g : id ≠ a => (hn.resolve_left g) y (by simp [hy])
  simp only [BM, FF, CW, beq_iff_eq]
  by_cases c : id = a
  · subst c; split <;> split <;> omega
  · have := n1 c; have := n2 c
    split <;> split <;> omega
structure Pq (a id : Int) (h : AF) : Prop where
 inc : Ic h.dels
 dels : id = a ∨ ∀ d ∈ h.dels, d.rev ≠ id
 ins : id = a ∨ h.ins ≠ id
 lays : id = a ∨ ∀ d ∈ h.layers, d.rev ≠ id
theorem P8 {h : AF} (H : Pq a id h) (h0 : a ≠ 0) : G5 a id h = Ci (CW a) id h := by
 have e : CS (h.dels.map (BM (CW a) id)) h.dels.length = Fj (h.dels.map (BM (CW a) id)) := by
  have := Sd (Pd (PN H.inc) H.dels)
  rwa [Kj] at this
 unfold G5 Ci DT
 rw [e]
 congr 1
 by_cases c : h.ins = a
 · simp [c, CW, h0]
 · simp [c, CW]
theorem Me {y : Int} (h : id = a ∨ y ≠ id) : FF (CW id) a (FF (CW a) id y) = y := by
 simp only [FF, CW, beq_iff_eq]
 by_cases c : y = a
 · simp [c]
 · rw [if_neg c]
   by_cases d : y = id
   · rcases h with h | h
     · subst h; exact absurd d c
     · exact absurd d h
   · rw [if_neg d]
theorem TV {h : AF} (H : Pq a id h) : Ic (Ci (CW a) id h).dels := by
 have := J4 (Pd (PN H.inc) H.dels)
 rwa [Kj] at this
theorem Kl {h : AF} (y : BS) : y ∈ (Ci (CW a) id h).dels ↔ y ∈ h.dels.map (BM (CW a) id) := by
 show y ∈ CS _ _ ↔ _
 rw [Fy _ _ (by rw [Kj]; exact JO _)]
theorem OV {h : AF} (H : Pq a id h) (h0 : a ≠ 0) (h1 : id ≠ 0) : Ci (CW id) a (Ci (CW a) id h) = h := by
 have e1 : ∀ d ∈ h.dels, BM (CW id) a (BM (CW a) id d) = d := fun d hd => by
  have := Me (a := a) (id := id) (y := d.rev) (H.dels.imp_right fun g => g d hd)
  cases d; simp only [BM] at this ⊢; rw [this]
 have e2 : ∀ d ∈ h.layers, BE (CW id) a (BE (CW a) id d) = d := fun d hd => by
  have := Me (a := a) (id := id) (y := d.rev) (H.lays.imp_right fun g => g d hd)
  cases d; simp only [BE] at this ⊢; rw [this]
 have hl : (Ci (CW a) id h).dels.length = h.dels.length := by show (CS _ _).length = _; rw [Fx, Kj]
 have hm : ∀ y, y ∈ (Ci (CW a) id h).dels.map (BM (CW id) a) ↔ y ∈ h.dels := fun y => by
  rw [Y5]
  constructor
  · rintro ⟨d, hd, rfl⟩
    rw [Kl, Y5] at hd
    obtain ⟨c, hc, rfl⟩ := hd
    rw [e1 c hc]; exact hc
  · intro hy
    exact ⟨_, (Kl _).2 (ZI hy), e1 y hy⟩
 have hd : CS ((Ci (CW a) id h).dels.map (BM (CW id) a)) (Ci (CW a) id h).dels.length = h.dels := by
  have hne : ((Ci (CW a) id h).dels.map (BM (CW id) a)).Pairwise fun a b => a.rev ≠ b.rev := by
   refine Pd (PN (TV H)) ?_
   by_cases c : a = id
   · exact .inl c
   · refine .inr fun d hd => ?_
     rw [Kl, Y5] at hd
     obtain ⟨q, hq, rfl⟩ := hd
     simp only [BM, FF, CW, beq_iff_eq]
     split
     · exact fun g => c g.symm
     · rename_i g; exact g
  have := PM (J4 hne) H.inc fun y => by rw [Fy _ _ (JO _), hm]
  rwa [Kj] at this
 have hi : DT (CW id) a (DT (CW a) id h.ins) = h.ins := by
  simp only [DT, CW, beq_iff_eq]
  by_cases c : h.ins = a
  · simp [c, h0, h1]
  · have c1 : ¬ (h.ins ≠ 0 ∧ h.ins = a) := fun g => c g.2
    rw [if_neg c1]
    by_cases d : h.ins = id
    · rcases H.ins with g | g
      · subst g; exact absurd d c
      · exact absurd d g
    · rw [if_neg fun g => d g.2]
 have hy : (Ci (CW a) id h).layers.map (BE (CW id) a) = h.layers := by
  show (h.layers.map _).map _ = _
  rw [YW]
  conv => rhs; rw [← Za h.layers]
  exact Ya fun d hd => e2 d hd
 have : Ci (CW id) a (Ci (CW a) id h) = { (Ci (CW a) id h) with ins := DT (CW id) a (Ci (CW a) id h).ins, dels := CS ((Ci (CW a) id h).dels.map (BM (CW id) a)) (Ci (CW a) id h).dels.length, layers := (Ci (CW a) id h).layers.map (BE (CW id) a) } := rfl
 rw [this, hd, hy, show (Ci (CW a) id h).ins = DT (CW a) id h.ins from rfl, hi]
 cases h; rfl
end
theorem Ra {a b : AH} (h1 : a.flow = b.flow) (h2 : a.«end» = b.«end») (h3 : a.revs = b.revs) (h4 : a.settings = b.settings) : a = b := by
 cases a; cases b; simp only at h1 h2 h3 h4; subst h1 h2 h3 h4; rfl
mutual
theorem us_mh {g : AF → AF} {f : Int → Int} (hg : ∀ h y, y ∈ h.all → f y ∈ (g h).all) : ∀ (x : AE) (y : Int), y ∈ x.us → f y ∈ (AE.mh g x).us
 | .mk k c i t h l r, y, hy => by
  rw [AE.mh, AE.us]
  rw [AE.us] at hy
  rcases Kz.1 hy with hy | hy
  · exact Z6 _ (hg h y hy)
  · refine Z4 _ ?_
    by_cases k6 : k = 6
    · rw [if_pos k6] at hy ⊢; exact NX hg l y hy
    · rw [if_neg k6] at hy ⊢
      by_cases k7 : k = 7
      · rw [if_pos k7] at hy ⊢; exact QJ hg r y hy
      · rw [if_neg k7] at hy; cases hy
theorem NX {g : AF → AF} {f : Int → Int} (hg : ∀ h y, y ∈ h.all → f y ∈ (g h).all) : ∀ (l : List AE) (y : Int), y ∈ AE.usL l → f y ∈ AE.usL (AE.mhL g l)
 | [], y, hy => by rw [AE.usL] at hy; cases hy
 | x :: l, y, hy => by
  rw [AE.mhL, AE.usL]
  rw [AE.usL] at hy
  rcases Kz.1 hy with hy | hy
  · exact Z6 _ (us_mh hg x y hy)
  · exact Z4 _ (NX hg l y hy)
theorem U2 {g : AF → AF} {f : Int → Int} (hg : ∀ h y, y ∈ h.all → f y ∈ (g h).all) : ∀ (x : AR) (y : Int), y ∈ x.us → f y ∈ (AR.mh g x).us
 | .mk h c, y, hy => by
  rw [AR.mh, AR.us]
  rw [AR.us] at hy
  rcases Kz.1 hy with hy | hy
  · exact Z6 _ (hg h y hy)
  · exact Z4 _ (QI hg c y hy)
theorem QJ {g : AF → AF} {f : Int → Int} (hg : ∀ h y, y ∈ h.all → f y ∈ (g h).all) : ∀ (l : List AR) (y : Int), y ∈ AR.usL l → f y ∈ AR.usL (AR.mhL g l)
 | [], y, hy => by rw [AR.usL] at hy; cases hy
 | x :: l, y, hy => by
  rw [AR.mhL, AR.usL]
  rw [AR.usL] at hy
  rcases Kz.1 hy with hy | hy
  · exact Z6 _ (U2 hg x y hy)
  · exact Z4 _ (QJ hg l y hy)
theorem U1 {g : AF → AF} {f : Int → Int} (hg : ∀ h y, y ∈ h.all → f y ∈ (g h).all) : ∀ (x : AL) (y : Int), y ∈ x.us → f y ∈ (AL.mh g x).us
 | .mk i h l, y, hy => by
  rw [AL.mh, AL.us]
  rw [AL.us] at hy
  rcases Kz.1 hy with hy | hy
  · exact Z6 _ (hg h y hy)
  · exact Z4 _ (NX hg l y hy)
theorem QI {g : AF → AF} {f : Int → Int} (hg : ∀ h y, y ∈ h.all → f y ∈ (g h).all) : ∀ (l : List AL) (y : Int), y ∈ AL.usL l → f y ∈ AL.usL (AL.mhL g l)
 | [], y, hy => by rw [AL.usL] at hy; cases hy
 | x :: l, y, hy => by
  rw [AL.mhL, AL.usL]
  rw [AL.usL] at hy
  rcases Kz.1 hy with hy | hy
  · exact Z6 _ (U1 hg x y hy)
  · exact Z4 _ (QI hg l y hy)
end
theorem TN {h : AF} {y : Int} : y ∈ h.all ↔ y = h.ins ∨ (∃ d ∈ h.dels, d.rev = y) ∨ ∃ d ∈ h.layers, d.rev = y := by
 unfold AF.all; simp only [Y0, Kz, Y5]
theorem Pt {a id : Int} (h0 : a ≠ 0) (h : AF) (y : Int) (hy : y ∈ h.all) : FF (CW a) id y ∈ (Ci (CW a) id h).all := by
 rw [TN] at hy ⊢
 rcases hy with rfl | ⟨d, hd, rfl⟩ | ⟨d, hd, rfl⟩
 · left
   show _ = DT (CW a) id h.ins
   simp only [FF, DT, CW, beq_iff_eq]
   by_cases c : h.ins = a
   · rw [if_pos c, if_pos ⟨by rw [c]; exact h0, c⟩]
   · rw [if_neg c, if_neg fun g => c g.2]
 · right; left
   exact ⟨BM (CW a) id d, (Kl _).2 (ZI hd), rfl⟩
 · right; right
   exact ⟨BE (CW a) id d, ZI hd, rfl⟩
theorem UZ {l : List BS} (h : ∀ i (hi : i < l.length), 0 < i → l[i - 1].rev < l[i].rev) : Ic l := by
 refine Z1.2 fun i j hi hj hij => ?_
 induction j with
 | zero => omega
 | succ j ih =>
  have h1 := h (j + 1) hj (by omega)
  simp only [Nat.add_sub_cancel] at h1
  rcases Yr i j with c | c
  · have := ih (by omega) c; omega
  · have : i = j := by omega
    subst this; exact h1
theorem JP {m2 : List Int} {a id : Int} (hid : id = a ∨ id ∉ m2) (h0 : id ≠ 0) {h : AF} (H : DC m2 h) : Pq a id h where
 inc := UZ H.inc
 dels := hid.imp_right fun g d hd e => g (e ▸ H.dels d hd)
 ins := hid.imp_right fun g e => H.ins.elim (fun z => h0 (by rw [← e, z])) fun z => g (e ▸ z)
 lays := hid.imp_right fun g d hd e => g (e ▸ H.layers d hd)
def CR (D : AH) (rev : Int) (to : Av) : Int := if (BG D.revs rev).2 = false then 22 else if CN to ≠ 0 then CN to else if (BG D.revs to.id).2 = true ∧ to.id ≠ rev then 7 else 0
def Ej (D : AH) (rev : Int) (to : Av) : List Av := Fh (G8 D.revs [rev]) (LV (G8 D.revs [rev]) to) to
def Cc (N : Nat) (D : AH) (rev : Int) (to : Av) : AH := (Bs (Jv rev to.id) A9 N D (Ej D rev to) ()).1
theorem Jw (a id : Int) : Jv a id = gF (fun _ => Ci (CW a) id) := by funext s p; rfl
theorem QY (a id : Int) : Jn a id = gF (fun _ => G5 a id) := by funext s p; rfl
theorem G7 {D : AH} {rev : Int} {to : Av} (h : CR D rev to = 0) : (BG D.revs rev).2 = true ∧ CN to = 0 ∧ ((BG D.revs to.id).2 = true → to.id = rev) := by
 unfold CR at h
 cases e1 : (BG D.revs rev).2 with
 | false => rw [e1] at h; cases h
 | true =>
  rw [e1, if_neg (by decide)] at h
  by_cases e2 : CN to = 0
  · rw [if_neg (by simpa using e2)] at h
    refine ⟨rfl, e2, fun e3 => Classical.byContradiction fun g => ?_⟩
    rw [if_pos ⟨e3, g⟩] at h; cases h
  · rw [if_pos e2] at h; exact absurd h e2
theorem LT {D : AH} {rev : Int} {to : Av} (h1 : (BG D.revs rev).2 = true) (h2 : CN to = 0) (h3 : (BG D.revs to.id).2 = true → to.id = rev) : CR D rev to = 0 := by
 unfold CR
 rw [if_neg (by rw [h1]; decide), if_neg (by simpa using h2), if_neg fun g => g.2 (h3 g.1)]
theorem Hd {D : AH} {rev : Int} {to : Av} (ht : L7 D.revs) (h : CR D rev to = 0) : (G8 D.revs [rev]).length < 256 ∧ L7 (G8 D.revs [rev]) ∧ (∀ x ∈ G8 D.revs [rev], x.id ≠ to.id) ∧ L7 (Ej D rev to) ∧ ∀ x, x ∈ Ej D rev to ↔ x = to ∨ (x ∈ D.revs ∧ x.id ≠ rev) := by
 obtain ⟨h1, h2, h3⟩ := G7 h
 obtain ⟨r0, m0, e0⟩ := H9 h1
 have hlt : (G8 D.revs [rev]).length < 256 := by
  have := TU (ids := [rev]) m0 (by simp [e0])
  have := ht.1; omega
 have htr : L7 (G8 D.revs [rev]) := HE ht _
 have hno : ∀ x ∈ G8 D.revs [rev], x.id ≠ to.id := fun x hx e => by
  obtain ⟨a, b⟩ := ON.1 hx
  have := h3 (Im ⟨x, a, e⟩)
  exact b (by simp [e, this])
 refine ⟨hlt, htr, hno, (P6 htr hno).2.2 hlt h2, fun x => ?_⟩
 unfold Ej
 rw [OM, ON]; simp
def hpR (m2 : List Int) (h : AF) : Prop := KH m2 h ∧ DC m2 h
section
variable {N K : Nat} {d : AH} {m2 : List Int}
theorem JM (hm2 : m2 = Bb [] (d.revs.map (·.id))) (hd : GT N d) (hl : Ex (KH m2) K N d.flow) : wf (hpR m2) (fun i => i ≠ -1) N d.flow :=
 Sl (hm2 ▸ hd.flow) hl fun i hi => by have := (hd.ids i hi).1; omega
theorem Jt (hd : GT N d) : L7 d.revs := Ux (Pf hd.revs)
theorem SD (hm2 : m2 = Bb [] (d.revs.map (·.id))) {id : Int} : id ∈ m2 ↔ ∃ r ∈ d.revs, r.id = id := by
 rw [hm2, HQ]; simp
theorem NU {l : List Av} (h : L7 l) {r : Av} (hr : r ∈ l) : r.id ≠ 0 := by have := Oa (h.2.1 r hr); omega
theorem OU (hm2 : m2 = Bb [] (d.revs.map (·.id))) (hd : GT N d) {rev : Int} {to : Av} (h : CR d rev to = 0) : (to.id = rev ∨ to.id ∉ m2) ∧ to.id ≠ 0 ∧ rev ≠ 0 := by
 obtain ⟨h1, h2, h3⟩ := G7 h
 obtain ⟨r0, m0, e0⟩ := H9 h1
 refine ⟨?_, by have := Oa h2; omega, e0 ▸ NU (Jt hd) m0⟩
 by_cases c : to.id ∈ m2
 · obtain ⟨r, hr, e⟩ := (SD hm2).1 c
   exact .inl (h3 (Im ⟨r, hr, e⟩))
 · exact .inr c
theorem LU (hm2 : m2 = Bb [] (d.revs.map (·.id))) (hd : GT N d) (hl : Ex (KH m2) K N d.flow) (rev : Int) (to : Av) : (Cc N d rev to).flow = AE.mhL (Ci (CW rev) to.id) d.flow := by
 unfold Cc Bs
 rw [Jw]
 exact LH _ A9 (fun i h => h) N 0 d.flow false (JM hm2 hd hl) (.inr (by decide))
theorem SR (hm2 : m2 = Bb [] (d.revs.map (·.id))) (hd : GT N d) (hl : Ex (KH m2) K N d.flow) {rev : Int} {to : Av} (h : CR d rev to = 0) : (JI (Jn rev to.id) A9 N d (Ej d rev to) ()).1 = Cc N d rev to := by
 obtain ⟨g1, g2, g3⟩ := OU hm2 hd h
 have e : ∀ x, hpR m2 x → G5 rev to.id x = Ci (CW rev) to.id x := fun x hx => P8 (JP g1 g2 hx.2) g3
 refine Ra ?_ ?_ rfl rfl
 · rw [LU hm2 hd hl]
   unfold JI
   rw [QY]
   show (B8 _ N 0 d.flow A9 false ()).1 = _
   rw [OK _ A9 (fun i h => h) N 0 d.flow false (JM hm2 hd hl) (.inr (by decide))]
   exact LN e (JM hm2 hd hl)
 · show G5 rev to.id d.«end» = Ci (CW rev) to.id d.«end»
   exact P8 (JP g1 g2 (hm2 ▸ hd.end)) g3
set_option maxHeartbeats 1000000 in
theorem Qj (hm2 : m2 = Bb [] (d.revs.map (·.id))) (hd : GT N d) (hl : Ex (KH m2) K N d.flow) {rev : Int} {to : Av} (h : CR d rev to = 0) (hu : (BG (Cc N d rev to).normal.revs to.id).2 = true) :
 L7 (Cc N d rev to).normal.revs ∧ CR (Cc N d rev to).normal to.id (BG d.revs rev).1 = 0 ∧ (Cc N (Cc N d rev to).normal to.id (BG d.revs rev).1).normal = d.normal ∧
  (Cc N (Cc N d rev to).normal to.id (BG d.revs rev).1).flow = AP d.flow ∧ (Cc N (Cc N d rev to).normal to.id (BG d.revs rev).1).«end» = d.«end» ∧ L7 (Ej (Cc N d rev to).normal to.id (BG d.revs rev).1) := by
 obtain ⟨g1, g2, g3⟩ := OU hm2 hd h
 obtain ⟨h1, h2, h3⟩ := G7 h
 have ht := Jt hd
 obtain ⟨o1, o2⟩ := Rh ht h1
 obtain ⟨old, ho⟩ : ∃ r, r = (BG d.revs rev).1 := ⟨_, rfl⟩
 rw [← ho] at o1 o2 ⊢
 obtain ⟨A, hA⟩ : ∃ A, A = (Cc N d rev to).normal := ⟨_, rfl⟩
 rw [← hA] at hu ⊢
 obtain ⟨_, _, _, t4, t5⟩ := Hd ht h
 have W := JM hm2 hd hl
 have hb : ∀ x, hpR m2 x → Ci (CW to.id) rev (Ci (CW rev) to.id x) = x := fun x hx => OV (JP g1 g2 hx.2) g3 g2
 have hinj : ∀ a b, hpR m2 a → hpR m2 b → Ci (CW rev) to.id a = Ci (CW rev) to.id b → a = b := fun a b ha hb' e => by rw [← hb a ha, e, hb b hb']
 have Af : A.flow = AE.mhL (Ci (CW rev) to.id) (AP d.flow) := by
  rw [hA]; show AP (Cc N d rev to).flow = _
  rw [LU hm2 hd hl, Js hinj W]
 have Ae : A.«end» = Ci (CW rev) to.id d.«end» := by rw [hA]; rfl
 have Ar : ∀ r : Av, r.id ≠ 0 → (r ∈ A.revs ↔ r ∈ Ej d rev to ∧ r.id ∈ AE.usL A.flow ++ A.«end».all) := fun r hr => by rw [hA, Ij hr]; rfl
 have At : L7 A.revs := by rw [hA]; exact HE t4 _
 have Wn : wf (hpR m2) (fun i => i ≠ -1) N (AP d.flow) := J7 W
 have WA : wf (fun _ => True) (fun i => i ≠ -1) N A.flow := by rw [Af]; exact Sk (fun _ _ => trivial) Wn
 have E2 : CR A to.id old = 0 := by
  refine LT hu (ht.2.1 _ o1) fun e => ?_
  obtain ⟨r, hr, e2⟩ := H9 e
  have hr0 : r.id ≠ 0 := NU At hr
  rcases (t5 r).1 ((Ar r hr0).1 hr).1 with rfl | ⟨_, q⟩
  · exact e2.symm
  · exact absurd (e2.trans o2) q
 refine ⟨At, E2, ?_⟩
 obtain ⟨_, _, _, u4, u5⟩ := Hd At E2
 obtain ⟨C, hC⟩ : ∃ C, C = Cc N A to.id old := ⟨_, rfl⟩
 have Cf : C.flow = AP d.flow := by
  rw [hC]; unfold Cc Bs
  rw [Jw]
  show (A6 _ A9 N 0 A.flow false ()).1 = _
  rw [LH _ A9 (fun i h => h) N 0 A.flow false WA (.inr (by decide)), Af, o2]
  exact NE hb Wn
 have Ce : C.«end» = d.«end» := by
  rw [hC]; show Ci (CW to.id) old.id A.«end» = _
  rw [Ae, o2]; exact OV (JP g1 g2 (hm2 ▸ hd.end)) g3 g2
 have Cs : C.settings = d.settings := by rw [hC, hA]; rfl
 have Cr : C.revs = Ej A to.id old := by rw [hC]; rfl
 rw [← hC]
 refine ⟨Ra ?_ Ce ?_ Cs, Cf, Ce, u4⟩
 · show AP C.flow = AP d.flow
   rw [Cf]; exact GS W
 · refine SW (HE (by rw [Cr]; exact u4) _).2.2 (HE ht _).2.2 fun r => ?_
   show r ∈ C.normal.revs ↔ r ∈ d.normal.revs
   have hn : AP C.flow = AP d.flow := by rw [Cf]; exact GS W
   by_cases hr0 : r.id = 0
   · constructor
     · intro hr
       have : r ∈ C.revs := (Z0.1 hr).1
       rw [Cr] at this
       exact absurd hr0 (NU u4 this)
     · intro hr
       exact absurd hr0 (NU ht (Z0.1 hr).1)
   rw [Ij hr0, Ij hr0, hn, Ce, Cr, u5]
   refine and_congr_left fun hus => ?_
   constructor
   · rintro (rfl | ⟨q1, q2⟩)
     · exact o1
     · rcases (t5 r).1 ((Ar r hr0).1 q1).1 with rfl | ⟨q, _⟩
       · exact absurd rfl q2
       · exact q
   · intro hr
     by_cases c : r.id = rev
     · exact .inl (QH ht hr o1 (c.trans o2.symm))
     · right
       have nt : r.id ≠ to.id := fun e => by
        rcases g1 with g | g
        · exact c (e.trans g)
        · exact g ((SD hm2).2 ⟨r, hr, e⟩)
       refine ⟨(Ar r hr0).2 ⟨(t5 r).2 (.inr ⟨hr, c⟩), ?_⟩, nt⟩
       have e : FF (CW rev) to.id r.id = r.id := by simp [FF, CW, c]
       rw [Af, Ae, ← e]
       rcases Kz.1 hus with q | q
       · exact Z6 _ (NX (Pt g3) _ _ q)
       · exact Z4 _ (Pt g3 _ _ q)
end
def T7 : Tr := .pure 0 <| .pure 1 <| .pure 2 <| .pure 3 <| .pure 4 <| .pure 5 <| .two 6 10 (.pure 7 <| .pure 8 <| .pure 9 <| .one 10 <| .one 11 <| .one 12 .nil) (.one 6 <| .pure 7 <| .pure 8 <| .pure 9 <| .one 11 <| .one 12 .nil)
def Rw : Tr := .pure 0 <| .pure 1 <| .pure 2 <| .pure 3 <| .pure 4 <| .pure 5 <| .pure 6 <| .pure 7 <| .pure 8 <| .pure 9 <| .pure 10 <| .pure 11 <| .pure 12 <| .pure 13 <| .pure 14 .nil
set_option maxHeartbeats 4000000 in
theorem c68s (D : AH) (rev : Int) (to : Av) (hr : D.revs.length ≤ 1048576) : PC 68 [D.enc, .imm 1 ([rev].map AA) false, to.enc] (AA (CR D rev to)) := by
 intro h n
 refine Da Tryz.func68 rfl fun ho => ?_
 have hHb := ho.lt
 obtain ⟨X, hX⟩ : ∃ X : SV, X = .iptr ([AG D.flow] ++ D.«end».flat ++ [Aj D.revs] ++ D.settings.flat) := ⟨_, rfl⟩
 obtain ⟨V, hV⟩ : ∃ V : SV, V = .iptr [AA to.id, .str to.author, AA to.time] := ⟨_, rfl⟩
 obtain ⟨I, hI⟩ : ∃ I : SV, I = .imm 1 ([rev].map AA) false := ⟨_, rfl⟩
 have kI := c52 [rev] (by simp) to.id
 rw [← hI] at kI
 refine AZ 1 [(1, I), (3, X), (5, V)] h n ?_ (fun m hm => ?_)
 · rw [hX, hV, hI]
   simp [go_sem, AH.enc, Av.enc, AF.flat, AI.flat, Jo]
   exact ⟨by omega, ⟨AW (ho.none (by omega)) (by simp [hset]), AW (ho.none (by omega)) (by simp [hset])⟩, fun j y e => by have := hHb j y e; simp only [hset]; grind⟩
 refine Bf 0 [(1, I), (3, X), (5, V)] h n (AK ?_) (fun m hm => ?_)
 · rw [hI]
   simp [go_sem, Jo, hm]
 refine CD 0 [(1, I), (3, X), (5, V)] h (fun m => n ≤ m ∧ (BG D.revs rev).2 = true) ?_ (fun m hm => ?_)
 · refine AZ 0 [(1, I), (3, X), (5, V), (7, AA 0)] h n ?_ (fun m hm => ?_)
   · simp [go_sem, Jo, hm]
   refine AX (BX 0 (α := Nat) (fun i => [(1, I), (3, X), (5, V), (7, AA i)]) (fun _ => h) (fun i m => i ≤ 1 ∧ n ≤ m ∧ (0 < i → (BG D.revs rev).2 = true)) (fun i => 1 - i) 0 ⟨by omega, hm, by omega⟩ ?_ AB ?_)
   · simp [go_sem, Am, Jo]
   rintro i m ⟨hi, hm, h0⟩
   have hi2 : i = 0 ∨ i = 1 := by omega
   rcases hi2 with rfl | rfl
   · refine CJ 0 [(1, I), (3, X), (5, V), (7, AA 0)] h m ?_ (fun m2 hm2 => ?_)
     · rw [hI]; simp [go_sem, Jo]
     subst hm2
     refine AV 0 (α := Unit) (fun _ => [(1, I), (3, X), (5, V), (7, AA 0)]) (fun _ => h) (fun _ m => n ≤ m ∧ (BG D.revs rev).2 = true) (AX ?_) (fun _ m hm => ?_)
     · refine AV 0 (α := Unit) (fun _ => [(1, I), (3, X), (5, V), (7, AA 0), (9, .bool (BG D.revs rev).2)]) (fun _ => h) (fun _ m => n ≤ m) (Bt T7 rfl (by kernel_rfl) (by kernel_rfl) ?_) (fun _ m hm => ?_)
       · have hHm : ∀ j y, h j = some y → j < m := fun j y e => by have := hHb j y e; omega
         rw [hX, hI]
         simp [go_sem, T7, AF.flat, AI.flat]
         refine ⟨?_, ?_⟩
         · refine Y4 (S5 D.revs hr rev) ?_
           simp [go_sem, Jo, Av.enc, AC, Ai]
           exact ⟨by omega, AJ hHm AB⟩
         · refine Y4 (S5 D.revs hr rev) ?_
           simp [go_sem, Jo, Av.enc, AC, Ai]
           exact ⟨by omega, AJ hHm AB⟩
       refine AX ?_
       refine AZ 0 [(1, I), (3, X), (5, V), (7, AA 0), (32, .bool (!(BG D.revs rev).2))] h n ?_ (fun m hm => ?_)
       · simp [go_sem, Jo, hm]
       cases e : (BG D.revs rev).2 with
       | false =>
        refine Ap (b := true) (by simp [go_sem]) (AK ?_)
        simp [go_sem]
        exact A3 ho rfl (by unfold CR; rw [e]; rfl)
       | true =>
        refine Ap (b := false) (by simp [go_sem]) ?_
        simp only [KC, if_false]
        refine AV 0 (α := Unit) (fun _ => [(1, I), (3, X), (5, V), (7, AA 0), (35, .bool false)]) (fun _ => h) (fun _ m => n ≤ m) (Bt Rw rfl (by kernel_rfl) (by kernel_rfl) ?_) (fun _ m hm => ?_)
        · simp [go_sem, Rw, Jo, hm]
        refine Ap (b := false) (by simp [go_sem]) ?_
        simp only [KC, if_false]
        refine AV 0 (α := Unit) (fun _ => [(1, I), (3, X), (5, V), (7, AA 0), (50, .bool false)]) (fun _ => h) (fun _ m => n ≤ m) (Bt Rw rfl (by kernel_rfl) (by kernel_rfl) ?_) (fun _ m hm => ?_)
        · simp [go_sem, Rw, Jo, hm]
        refine Ap (b := false) (by simp [go_sem]) (AK ?_)
        simp [go_sem, Jo, hm]
     · refine AK ?_
       have w1 : IntKind.i64.wrap 1 = 1 := by rw [DJ] <;> omega
       simp [go_sem, Jo]
       exact ⟨1, by omega, ⟨by omega, hm.1, fun _ => hm.2⟩, by rw [w1]; exact Jo⟩
   · refine AK ?_
     rw [hI]
     simp [go_sem, Jo]
     exact ⟨hm, h0 (by omega)⟩
 obtain ⟨hm, e1⟩ := hm
 refine CD 0 [(1, I), (3, X), (5, V)] h (fun m => n ≤ m ∧ CN to = 0) (AK ?_) (fun m hm => ?_)
 · rw [hV]
   simp [go_sem]
   refine Y4 (by simpa [Av.enc] using UM to) ?_
   by_cases e2 : CN to = 0
   · simp [go_sem, e2, Jo, hm]
   · simp [go_sem, e2]
     exact A3 ho rfl (by unfold CR; rw [e1, if_neg (by decide), if_pos e2])
 obtain ⟨hm, e2⟩ := hm
 refine CD 0 [] h (fun m => CR D rev to = 0) (AK ?_) (fun m hm => ?_)
 · have hHm : ∀ j y, h j = some y → j < m := fun j y e => by have := hHb j y e; omega
   rw [hX, hV]
   simp [go_sem, AF.flat, AI.flat]
   refine Y4 (S5 D.revs hr to.id) ?_
   cases e3 : (BG D.revs to.id).2 with
   | false =>
    simp [go_sem, Av.enc, AC, Ai]
    exact ⟨LT e1 e2 (by rw [e3]; simp), AJ hHm AB⟩
   | true =>
    simp [go_sem, Av.enc, AC, Ai]
    refine kI.use ?_
    by_cases e4 : to.id = rev
    · simp [go_sem, e4]
      exact ⟨LT e1 e2 fun _ => e4, AJ hHm AB⟩
    · simp [go_sem, e4]
      exact Ax ho (AJ hHm AB) (by unfold CR; rw [e1, if_neg (by decide), if_neg (by simpa using e2), if_pos ⟨e3, e4⟩]) rfl
 refine AK ?_
 simp [go_sem]
 exact A3 ho rfl (by rw [hm])
def EC (D : AH) (rev : Int) (to : Av) (R : AH) : AH := if CR D rev to = 0 then R else zD
def Te : Tr := .pure 0 <| .pure 1 <| .pure 2 <| .pure 5 <| .one 3 <| .one 4 <| .one 6 <| .pure 7 <| .pure 8 <| .pure 9 <| .one 10 <| .one 11 .nil
def trRw : Tr := .pure 0 <| .pure 1 <| .pure 3 <| .one 2 <| .one 4 <| .one 5 <| .one 6 .nil
def trLw : Tr := .pure 0 <| .pure 2 <| .pure 3 <| .one 1 <| .one 4 <| .one 5 <| .one 6 .nil
theorem PV {h' h : Hp} {k o : Nat} {x : Int} {full full' : Bool} (hn : h o = none) (hf : full' = true → full = true) (hh : h' o = some (.cells [AA x])) : Fz h' h (k + 1) (.sl o 0 1 1 full) (.imm 1 [AA x] full') := by
 have := DN (h' := h') (h := h) (k := k) (z := 1) (o := o) (full := full) (full' := full') (es := [AA x]) hn hf (by rw [hh]; simp [SV.cells]) (by simp [SV.storable, SV.cells])
 exact this
set_option maxHeartbeats 4000000 in
theorem c18 (D : AH) (rev : Int) (to : Av) (R : AH) (hr : D.revs.length ≤ 1048576) (ht : L7 D.revs)
 (k49 : CR D rev to = 0 → ∀ (H : Hp) (n : Nat), BN Tryz.prog 49 [.fn (.func 65) [] [.iptr [AA to.id, .str to.author, AA to.time], .iptr [AA rev]], D.enc, A9.enc, Aj (Ej D rev to)] H n (fun v h' n' => v = R.enc ∧ h' = H ∧ n' = n)) :
 PC 18 [D.enc, AA rev, to.enc] (.tup [(EC D rev to R).enc, AA (CR D rev to)]) := by
 intro h n
 refine Da Tryz.func18 rfl fun ho => ?_
 have hHb := ho.lt
 obtain ⟨X, hX⟩ : ∃ X : SV, X = .iptr ([AG D.flow] ++ D.«end».flat ++ [Aj D.revs] ++ D.settings.flat) := ⟨_, rfl⟩
 obtain ⟨V, hV⟩ : ∃ V : SV, V = .iptr [AA to.id, .str to.author, AA to.time] := ⟨_, rfl⟩
 obtain ⟨G, hG⟩ : ∃ G : Hp, G = hset h (n + 3) (some (.cells EG)) := ⟨_, rfl⟩
 have hGa : G (n + 3) = some (.cells EG) := by rw [hG, AC]
 have hGb : ∀ j y, G j = some y → j < n + 4 := fun j y e => by
  rw [hG] at e; simp only [hset] at e; split at e
  · omega
  · have := hHb j y e; omega
 have hGk : ∀ j y, h j = some y → G j = some y := fun j y e => by have := hHb j y e; rw [hG, AD _ _ (by omega)]; exact e
 have fin : ∀ (h' : Hp) (n' : Nat) (e : Int), (∀ j y, h j = some y → h' j = some y) → CR D rev to = e → e ≠ 0 → CE n h' n' (.tup [.agg EG, AA e]) (Is (.tup [(EC D rev to R).enc, AA (CR D rev to)]) h n) := fun h' n' e hh he hne => by
  rw [EC, he, if_neg hne]
  refine Db 3 ho hh (.inr ⟨.inr ?_, Jo, trivial⟩) (G0 n zD e)
  exact ⟨BR (by simp), BR (by simp), Jo, Jo, BR (by simp), BR (by simp), BR (by simp), BR (by simp), BR (by simp), BR (by simp), BR (by simp), trivial⟩
 have keep := AJ (m := n + 3) (y := some (.cells EG)) (h := h) (h' := G) (fun j z e => by have := hHb j z e; omega) hGk
 refine Bn 1 [(3, X), (4, .iptr [AA rev]), (5, V), (6, .ptr (n + 3) 0)] G (fun m => n + 4 ≤ m) ?_ (fun m hm => ?_)
 · rw [hX, hV, hG]
   simp [go_sem, AH.enc, Av.enc, AF.flat, AI.flat, Jo, Y6, EG]
   refine ⟨⟨AW (by simp [hset]; exact ho.none (by omega)) (by simp [hset]), AW (by simp [hset]; exact ho.none (by omega)) (by simp [hset]), AW (by simp [hset]; exact ho.none (by omega)) (by simp [hset])⟩, fun j y => ?_⟩
   have := hHb j y; simp only [hset]; grind
 refine FW ?_
 refine Bn 0 [(3, X), (4, .iptr [AA rev]), (5, V), (6, .ptr (n + 3) 0), (9, .bool (BG D.revs rev).2)] G (fun m => n + 4 ≤ m) ?_ (fun m hm => ?_)
 · rw [hX]
   simp [go_sem, AF.flat, AI.flat]
   refine Y4 (S5 D.revs hr rev) ?_
   simp [go_sem, Jo, Av.enc, AC, Ai]
   exact ⟨by omega, AJ (fun j z e => by have := hGb j z e; omega) AB⟩
 refine Bn 0 [(3, X), (4, .iptr [AA rev]), (5, V), (6, .ptr (n + 3) 0), (24, .bool (!(BG D.revs rev).2))] G (fun m => n + 4 ≤ m) ?_ (fun m hm => ?_)
 · simp [go_sem, Jo, hm]
 cases e1 : (BG D.revs rev).2 with
 | false =>
  refine Ap (b := true) (by simp [go_sem]) (AK ?_)
  simp [go_sem, hGa, EG, AC]
  exact fin _ _ _ keep (by unfold CR; rw [e1]; rfl) (by decide)
 | true =>
 refine Ap (b := false) (by simp [go_sem]) ?_
 simp only [KC, if_false]
 refine F8 ?_
 rw [Dv]
 refine FW ?_
 refine Bn 0 [(3, X), (4, .iptr [AA rev]), (5, V), (6, .ptr (n + 3) 0), (10, AA (CN to))] G (fun m => n + 4 ≤ m) ?_ (fun m hm => ?_)
 · rw [hV]
   simp [go_sem]
   refine Y4 (by simpa [Av.enc] using UM to) ?_
   simp [go_sem, Jo, hm]
 refine Bn 0 [(3, X), (4, .iptr [AA rev]), (5, V), (6, .ptr (n + 3) 0), (10, AA (CN to)), (29, .bool (CN to != 0))] G (fun m => n + 4 ≤ m) ?_ (fun m hm => ?_)
 · simp [go_sem, Jo, hm]
 by_cases e2 : CN to = 0
 rotate_left
 · refine Ap (b := true) (by simp [go_sem, e2]) (AK ?_)
   simp [go_sem, hGa, EG, AC]
   exact fin _ _ _ keep (by unfold CR; rw [e1, if_neg (by decide), if_pos e2]) e2
 refine Ap (b := false) (by simp [go_sem, e2]) ?_
 simp only [KC, if_false]
 refine F8 ?_
 rw [Dv]
 refine FW ?_
 refine Bn 0 [(3, X), (4, .iptr [AA rev]), (5, V), (6, .ptr (n + 3) 0), (12, .bool (BG D.revs to.id).2)] G (fun m => n + 4 ≤ m) ?_ (fun m hm => ?_)
 · rw [hX, hV]
   simp [go_sem, AF.flat, AI.flat]
   refine Y4 (S5 D.revs hr to.id) ?_
   simp [go_sem, Jo, Av.enc, AC, Ai]
   exact ⟨by omega, AJ (fun j z e => by have := hGb j z e; omega) AB⟩
 refine Bn 0 [(3, X), (4, .iptr [AA rev]), (5, V), (6, .ptr (n + 3) 0), (46, .bool (decide ((BG D.revs to.id).2 = true ∧ to.id ≠ rev)))] G (fun m => n + 4 ≤ m) ?_ (fun m hm => ?_)
 · rw [hV]
   cases e3 : (BG D.revs to.id).2 with
   | false => simp [go_sem, Jo, hm]
   | true =>
    by_cases e4 : to.id = rev
    · simp [go_sem, e4, Jo, hm]
    · have e5 : (to.id != rev) = true := by simpa using e4
      simp [go_sem, e4, e5, Jo, hm]
 by_cases e3 : (BG D.revs to.id).2 = true ∧ to.id ≠ rev
 · refine Ap (b := true) (by simp [go_sem, e3]) (AK ?_)
   simp [go_sem, hGa, EG, AC]
   exact fin _ _ _ keep (by unfold CR; rw [e1, if_neg (by decide), if_neg (by simpa using e2), if_pos e3]) (by decide)
 refine Ap (b := false) (by simp only [decide_eq_false e3]; simp [go_sem]) ?_
 simp only [KC, if_false]
 refine F8 ?_
 rw [Dv]
 have hE : CR D rev to = 0 := by unfold CR; rw [e1, if_neg (by decide), if_neg (by simpa using e2), if_neg e3]
 obtain ⟨t1, t2, t3, _, _⟩ := Hd ht hE
 have hrl : (G8 D.revs [rev]).length ≤ 1048576 := by omega
 refine AV 0 (α := Unit) (fun _ => [(3, X), (4, .iptr [AA rev]), (5, V), (6, .ptr (n + 3) 0), (13, Aj (Ej D rev to)), (14, AA 0)]) (fun _ => G) (fun _ m => n + 4 ≤ m) (Bt Te rfl (by kernel_rfl) (by kernel_rfl) ?_) (fun _ m hm => ?_)
 · have hGm : ∀ j y, G j = some y → j < m := fun j y e => by have := hGb j y e; omega
   rw [hX, hV]
   simp [go_sem, Te, AF.flat, AI.flat]
   refine ZQ (bs := [Aj D.revs, .imm 1 ([rev].map AA) false]) (h2 := G) 1 (AJ hGm AB) ⟨Jo, PV (Ad hGm (JO _)) (by simp) (AC _ _ _), trivial⟩ ((c64 D.revs hr [rev] (by simp)).use ?_)
   simp [go_sem]
   refine Y4 (by simpa [Av.enc] using c45a t2 t1 e2 t3) ?_
   simp [go_sem, Jo, Ej]
   omega
 refine FW ?_
 refine Bn 0 [(3, X), (4, .iptr [AA rev]), (5, V), (6, .ptr (n + 3) 0), (13, Aj (Ej D rev to)), (59, .bool false)] G (fun m => n + 4 ≤ m) ?_ (fun m hm => ?_)
 · simp [go_sem, Jo, hm]
 refine Ap (b := false) (by simp [go_sem]) ?_
 simp only [KC, if_false]
 refine F8 ?_
 rw [Dv]
 refine Bn 0 [(3, X), (6, .ptr (n + 3) 0), (13, Aj (Ej D rev to)), (15, .fn (.func 65) [] [V, .iptr [AA rev]])] G (fun m => n + 4 ≤ m) ?_ (fun m hm => ?_)
 · simp [go_sem, Jo, hm]
 refine AV 0 (α := Unit) (fun _ => [(6, .ptr (n + 3) 0), (7, AA 0)]) (fun _ => hset h (n + 3) (some (.cells ([AG R.flow] ++ R.«end».flat ++ [Aj R.revs] ++ R.settings.flat)))) (fun _ m => n + 4 ≤ m) (Bt trRw rfl (by kernel_rfl) (by kernel_rfl) ?_) (fun _ m hm => ?_)
 · rw [hX]
   simp [go_sem, trRw, AF.flat, AI.flat]
   refine c67.use ?_
   simp [go_sem]
   refine Y9 (by simpa [AH.enc, AF.flat, AI.flat, hV] using k49 hE G m) ?_
   rintro v H' n' ⟨rfl, rfl, rfl⟩
   simp [go_sem, hGa, EG, Jo, hm]
   rw [hG]; simp [Ai]
 refine AK ?_
 simp [go_sem, AF.flat, AI.flat, AC]
 rw [EC, hE, if_pos rfl]
 exact Ax ho (AJ (fun j z e => by have := hHb j z e; omega) AB) (by simp [AH.enc, AF.flat, AI.flat]) (G0 n R 0)
set_option maxHeartbeats 4000000 in
theorem c19 (D : AH) (rev : Int) (to : Av) (R : AH) (hr : D.revs.length ≤ 1048576) (ht : L7 D.revs)
 (k39 : CR D rev to = 0 → ∀ (H : Hp) (n : Nat), BN Tryz.prog 39 [D.enc, A9.enc, Aj (Ej D rev to), .fn (.func 70) [] [.iptr [AA rev], .iptr [AA to.id, .str to.author, AA to.time]]] H n (fun v h' n' => v = R.enc ∧ h' = H ∧ n' = n)) :
 PC 19 [D.enc, AA rev, to.enc] (.tup [(EC D rev to R).enc, AA (CR D rev to)]) := by
 intro h n
 refine Da Tryz.func19 rfl fun ho => ?_
 have hHb := ho.lt
 obtain ⟨X, hX⟩ : ∃ X : SV, X = .iptr ([AG D.flow] ++ D.«end».flat ++ [Aj D.revs] ++ D.settings.flat) := ⟨_, rfl⟩
 obtain ⟨V, hV⟩ : ∃ V : SV, V = .iptr [AA to.id, .str to.author, AA to.time] := ⟨_, rfl⟩
 obtain ⟨G, hG⟩ : ∃ G : Hp, G = hset h (n + 3) (some (.cells EG)) := ⟨_, rfl⟩
 have hGa : G (n + 3) = some (.cells EG) := by rw [hG, AC]
 have hGb : ∀ j y, G j = some y → j < n + 4 := fun j y e => by
  rw [hG] at e; simp only [hset] at e; split at e
  · omega
  · have := hHb j y e; omega
 have hGk : ∀ j y, h j = some y → G j = some y := fun j y e => by have := hHb j y e; rw [hG, AD _ _ (by omega)]; exact e
 have fin : ∀ (h' : Hp) (n' : Nat) (e : Int), (∀ j y, h j = some y → h' j = some y) → CR D rev to = e → e ≠ 0 → CE n h' n' (.tup [.agg EG, AA e]) (Is (.tup [(EC D rev to R).enc, AA (CR D rev to)]) h n) := fun h' n' e hh he hne => by
  rw [EC, he, if_neg hne]
  refine Db 3 ho hh (.inr ⟨.inr ?_, Jo, trivial⟩) (G0 n zD e)
  exact ⟨BR (by simp), BR (by simp), Jo, Jo, BR (by simp), BR (by simp), BR (by simp), BR (by simp), BR (by simp), BR (by simp), BR (by simp), trivial⟩
 have keep := AJ (m := n + 3) (y := some (.cells EG)) (h := h) (h' := G) (fun j z e => by have := hHb j z e; omega) hGk
 refine Bn 1 [(3, X), (4, .iptr [AA rev]), (5, V), (6, .ptr (n + 3) 0)] G (fun m => n + 4 ≤ m) ?_ (fun m hm => ?_)
 · rw [hX, hV, hG]
   simp [go_sem, AH.enc, Av.enc, AF.flat, AI.flat, Jo, Y6, EG]
   refine ⟨⟨AW (by simp [hset]; exact ho.none (by omega)) (by simp [hset]), AW (by simp [hset]; exact ho.none (by omega)) (by simp [hset]), AW (by simp [hset]; exact ho.none (by omega)) (by simp [hset])⟩, fun j y => ?_⟩
   have := hHb j y; simp only [hset]; grind
 refine FW ?_
 refine Bn 0 [(3, X), (4, .iptr [AA rev]), (5, V), (6, .ptr (n + 3) 0), (8, AA (CR D rev to))] G (fun m => n + 4 ≤ m) ?_ (fun m hm => ?_)
 · have hGm : ∀ j y, G j = some y → j < m := fun j y e => by have := hGb j y e; omega
   rw [hX, hV]
   simp [go_sem, AF.flat, AI.flat]
   refine ZQ (bs := [D.enc, .imm 1 ([rev].map AA) false, to.enc]) (h2 := G) 1 (AJ hGm AB) ⟨by simp [AH.enc, AF.flat, AI.flat, Jo], PV (Ad hGm (JO _)) (by simp) (AC _ _ _), by simp [Av.enc, Jo], trivial⟩ ((c68s D rev to hr).use ?_)
   simp [go_sem, Jo]
   omega
 refine Bn 0 [(3, X), (4, .iptr [AA rev]), (5, V), (6, .ptr (n + 3) 0), (8, AA (CR D rev to)), (17, .bool (CR D rev to != 0))] G (fun m => n + 4 ≤ m) ?_ (fun m hm => ?_)
 · simp [go_sem, Jo, hm]
 by_cases hE : CR D rev to = 0
 rotate_left
 · refine Ap (b := true) (by simp [go_sem, hE]) (AK ?_)
   simp [go_sem, hGa, EG, AC]
   exact fin _ _ _ keep rfl hE
 refine Ap (b := false) (by simp [go_sem, hE]) ?_
 simp only [KC, if_false]
 refine F8 ?_
 rw [Dv]
 obtain ⟨e1, e2, _⟩ := G7 hE
 obtain ⟨t1, t2, t3, _, _⟩ := Hd ht hE
 have hrl : (G8 D.revs [rev]).length ≤ 1048576 := by omega
 refine AV 0 (α := Unit) (fun _ => [(3, X), (4, .iptr [AA rev]), (5, V), (6, .ptr (n + 3) 0), (9, Aj (Ej D rev to))]) (fun _ => G) (fun _ m => n + 4 ≤ m) (Bt Te rfl (by kernel_rfl) (by kernel_rfl) ?_) (fun _ m hm => ?_)
 · have hGm : ∀ j y, G j = some y → j < m := fun j y e => by have := hGb j y e; omega
   rw [hX, hV]
   simp [go_sem, Te, AF.flat, AI.flat]
   refine ZQ (bs := [Aj D.revs, .imm 1 ([rev].map AA) false]) (h2 := G) 1 (AJ hGm AB) ⟨Jo, PV (Ad hGm (JO _)) (by simp) (AC _ _ _), trivial⟩ ((c64 D.revs hr [rev] (by simp)).use ?_)
   simp [go_sem]
   refine Y4 (by simpa [Av.enc] using c45a t2 t1 e2 t3) ?_
   simp [go_sem, Jo, Ej]
   omega
 refine AV 0 (α := Unit) (fun _ => [(6, .ptr (n + 3) 0), (7, AA 0)]) (fun _ => hset h (n + 3) (some (.cells ([AG R.flow] ++ R.«end».flat ++ [Aj R.revs] ++ R.settings.flat)))) (fun _ m => n + 4 ≤ m) (Bt trLw rfl (by kernel_rfl) (by kernel_rfl) ?_) (fun _ m hm => ?_)
 · rw [hX]
   simp [go_sem, trLw, AF.flat, AI.flat]
   refine c69.use ?_
   simp [go_sem]
   refine Y9 (by simpa [AH.enc, AF.flat, AI.flat, hV] using k39 hE G m) ?_
   rintro v H' n' ⟨rfl, rfl, rfl⟩
   simp [go_sem, hGa, EG, Jo, hm]
   rw [hG]; simp [Ai]
 refine AK ?_
 simp [go_sem, AF.flat, AI.flat, AC]
 rw [EC, hE, if_pos rfl]
 exact Ax ho (AJ (fun j z e => by have := hHb j z e; omega) AB) (by simp [AH.enc, AF.flat, AI.flat]) (G0 n R 0)
theorem fo42 : (CO Tryz.prog 42).map (fun f => (f.name == "_", f.type, f.offset)) = [(false, 3, 0), (false, 9, 1), (false, 3, 2)] := by kernel_rfl
theorem eq42s (x : Av) : Cz Tryz.prog [AA x.id, .str x.author, AA x.time] [AA x.id, .str x.author, AA x.time] (CO Tryz.prog 42) = some true := by
 rw [C0, fo42]
 cases x; simp [DY, E9, go_sem]
theorem fo115 : (CO Tryz.prog 115).map (fun f => (f.name == "_", f.type, f.offset)) = [(false, 3, 0), (false, 3, 1), (false, 9, 2), (false, 3, 3), (false, 9, 4), (false, 4, 5)] := by kernel_rfl
theorem US (x : Aw) : Cz Tryz.prog [AA x.id, AA x.parent, .str x.author, AA x.time, .str x.text, .bool x.done] [AA x.id, AA x.parent, .str x.author, AA x.time, .str x.text, .bool x.done] (CO Tryz.prog 115) = some true := by
 rw [C0, fo115]
 cases x; simp [DY, E9, go_sem]
theorem fo118 : (CO Tryz.prog 118).map (fun f => (f.name == "_", f.type, f.offset)) = [(false, 9, 0), (false, 9, 1)] := by kernel_rfl
theorem UT (x : FX) : Cz Tryz.prog [.str x.name, .str x.value] [.str x.name, .str x.value] (CO Tryz.prog 118) = some true := by
 rw [C0, fo118]
 cases x; simp [DY, E9, go_sem]
theorem fo106 : (CO Tryz.prog 106).map (fun f => (f.name == "_", f.type, f.offset)) = [(false, 3, 0), (false, 3, 1), (false, 9, 2), (false, 3, 3)] := by kernel_rfl
theorem UR (x : CZ) : Cz Tryz.prog [AA x.format, AA x.start, .str x.template, AA x.restart] [AA x.format, AA x.start, .str x.template, AA x.restart] (CO Tryz.prog 106) = some true := by
 rw [C0, fo106]
 cases x; simp [DY, E9, go_sem]
theorem q59 (l : List Av) (hl : l.length ≤ 1048576) : PC 59 [.imm 3 (l.map Av.enc) false, .imm 3 (l.map Av.enc) false] (.bool true) := by
 intro h n
 refine gq Tryz.func59 rfl fun ho => ?_
 simp [go_sem]
 refine Aq 1 (α := Nat) (fun k => [(0, .imm 3 (l.map Av.enc) false), (1, .imm 3 (l.map Av.enc) false), (12, AA l.length), (13, AA k)]) (fun _ => h) (fun k m => k ≤ l.length ∧ n ≤ m) (fun k => l.length - k) 0 ?_ ?_ AB ?_
 · simp
 · simp [Am]
 rintro k m ⟨hk, hnm⟩
 by_cases hlt : k < l.length
 · have w1 := wS k (by omega)
   obtain ⟨x, hx⟩ : ∃ x, l[k] = x := ⟨_, rfl⟩
   simp [go_sem, hlt, hx, Av.enc]
   repeat first | refine nq ?_ | refine sq ?_ | refine aq ?_
   refine ⟨_, DU rfl (.inr rfl) (by kernel_rfl) (by kernel_rfl) (by kernel_rfl) rfl rfl (eq42s x), ?_⟩
   simp [go_sem]
   repeat first | refine nq ?_ | refine sq ?_ | refine aq ?_
   simp [go_sem, w1, -Int.natCast_add]
   exact ⟨k + 1, by omega, ⟨by omega, hnm⟩, Jo⟩
 · simp [go_sem, hlt]
   exact A3 ho rfl rfl
theorem q62 (l : List Aw) (hl : l.length ≤ 1048576) : PC 62 [.imm 6 (l.map Aw.enc) false, .imm 6 (l.map Aw.enc) false] (.bool true) := by
 intro h n
 refine gq Tryz.func62 rfl fun ho => ?_
 simp [go_sem]
 refine Aq 1 (α := Nat) (fun k => [(0, .imm 6 (l.map Aw.enc) false), (1, .imm 6 (l.map Aw.enc) false), (12, AA l.length), (13, AA k)]) (fun _ => h) (fun k m => k ≤ l.length ∧ n ≤ m) (fun k => l.length - k) 0 ?_ ?_ AB ?_
 · simp
 · simp [Am]
 rintro k m ⟨hk, hnm⟩
 by_cases hlt : k < l.length
 · have w1 := wS k (by omega)
   obtain ⟨x, hx⟩ : ∃ x, l[k] = x := ⟨_, rfl⟩
   simp [go_sem, hlt, hx, Aw.enc]
   repeat first | refine nq ?_ | refine sq ?_ | refine aq ?_
   refine ⟨_, DU rfl (.inr rfl) (by kernel_rfl) (by kernel_rfl) (by kernel_rfl) rfl rfl (US x), ?_⟩
   simp [go_sem]
   repeat first | refine nq ?_ | refine sq ?_ | refine aq ?_
   simp [go_sem, w1, -Int.natCast_add]
   exact ⟨k + 1, by omega, ⟨by omega, hnm⟩, Jo⟩
 · simp [go_sem, hlt]
   exact A3 ho rfl rfl
theorem q63 (l : List FX) (hl : l.length ≤ 1048576) : PC 63 [.imm 2 (l.map FX.enc) false, .imm 2 (l.map FX.enc) false] (.bool true) := by
 intro h n
 refine gq Tryz.func63 rfl fun ho => ?_
 simp [go_sem]
 refine Aq 1 (α := Nat) (fun k => [(0, .imm 2 (l.map FX.enc) false), (1, .imm 2 (l.map FX.enc) false), (12, AA l.length), (13, AA k)]) (fun _ => h) (fun k m => k ≤ l.length ∧ n ≤ m) (fun k => l.length - k) 0 ?_ ?_ AB ?_
 · simp
 · simp [Am]
 rintro k m ⟨hk, hnm⟩
 by_cases hlt : k < l.length
 · have w1 := wS k (by omega)
   obtain ⟨x, hx⟩ : ∃ x, l[k] = x := ⟨_, rfl⟩
   simp [go_sem, hlt, hx, FX.enc]
   repeat first | refine nq ?_ | refine sq ?_ | refine aq ?_
   refine ⟨_, DU rfl (.inr rfl) (by kernel_rfl) (by kernel_rfl) (by kernel_rfl) rfl rfl (UT x), ?_⟩
   simp [go_sem]
   repeat first | refine nq ?_ | refine sq ?_ | refine aq ?_
   simp [go_sem, w1, -Int.natCast_add]
   exact ⟨k + 1, by omega, ⟨by omega, hnm⟩, Jo⟩
 · simp [go_sem, hlt]
   exact A3 ho rfl rfl
theorem q56 (l : List CZ) (hl : l.length ≤ 1048576) : PC 56 [.imm 4 (l.map CZ.enc) false, .imm 4 (l.map CZ.enc) false] (.bool true) := by
 intro h n
 refine gq Tryz.func56 rfl fun ho => ?_
 simp [go_sem]
 refine Aq 1 (α := Nat) (fun k => [(0, .imm 4 (l.map CZ.enc) false), (1, .imm 4 (l.map CZ.enc) false), (12, AA l.length), (13, AA k)]) (fun _ => h) (fun k m => k ≤ l.length ∧ n ≤ m) (fun k => l.length - k) 0 ?_ ?_ AB ?_
 · simp
 · simp [Am]
 rintro k m ⟨hk, hnm⟩
 by_cases hlt : k < l.length
 · have w1 := wS k (by omega)
   obtain ⟨x, hx⟩ : ∃ x, l[k] = x := ⟨_, rfl⟩
   simp [go_sem, hlt, hx, CZ.enc]
   repeat first | refine nq ?_ | refine sq ?_ | refine aq ?_
   refine ⟨_, DU rfl (.inr rfl) (by kernel_rfl) (by kernel_rfl) (by kernel_rfl) rfl rfl (UR x), ?_⟩
   simp [go_sem]
   repeat first | refine nq ?_ | refine sq ?_ | refine aq ?_
   simp [go_sem, w1, -Int.natCast_add]
   exact ⟨k + 1, by omega, ⟨by omega, hnm⟩, Jo⟩
 · simp [go_sem, hlt]
   exact A3 ho rfl rfl
theorem q61 (l : List FL) (hl : l.length ≤ 1048576) (g : FuncId) (hg : ∀ x ∈ l, PC g [x.enc, x.enc] (.bool true)) : PC 61 [.imm 2 (l.map FL.enc) false, .imm 2 (l.map FL.enc) false, .fn (.func g) [] []] (.bool true) := by
 intro h n
 refine gq Tryz.func61 rfl fun ho => ?_
 simp [go_sem]
 refine Aq 1 (α := Nat) (fun k => [(1, .imm 2 (l.map FL.enc) false), (2, .fn (.func g) [] []), (15, .imm 2 (l.map FL.enc) false), (16, AA l.length), (17, AA k)]) (fun _ => h) (fun k m => k ≤ l.length ∧ n ≤ m) (fun k => l.length - k) 0 ?_ ?_ AB ?_
 · simp
 · simp [Am]
 rintro k m ⟨hk, hnm⟩
 by_cases hlt : k < l.length
 · have w1 := wS k (by omega)
   obtain ⟨x, hx⟩ : ∃ x, l[k] = x := ⟨_, rfl⟩
   have H := hg x (by rw [← hx]; exact Kn hlt)
   rw [FL.enc] at H
   simp [go_sem, hlt, hx, FL.enc, AC, AD]
   refine Y4 H ?_
   simp [go_sem, w1, -Int.natCast_add]
   exact ⟨k + 1, by omega, ⟨by omega, by omega⟩, Jo, by repeat (first | exact AB | refine AN ho (by omega) ?_)⟩
 · simp [go_sem, hlt]
   exact A3 ho rfl rfl
theorem q128 (l : List A7) (hl : l.length ≤ 1048576) (g : FuncId) (hg : ∀ x ∈ l, PC g [x.enc, x.enc] (.bool true)) : PC 128 [.imm 6 (l.map A7.enc) false, .imm 6 (l.map A7.enc) false, .fn (.func g) [] []] (.bool true) := by
 intro h n
 refine gq Tryz.func128 rfl fun ho => ?_
 simp [go_sem]
 refine Aq 1 (α := Nat) (fun k => [(1, .imm 6 (l.map A7.enc) false), (2, .fn (.func g) [] []), (15, .imm 6 (l.map A7.enc) false), (16, AA l.length), (17, AA k)]) (fun _ => h) (fun k m => k ≤ l.length ∧ n ≤ m) (fun k => l.length - k) 0 ?_ ?_ AB ?_
 · simp
 · simp [Am]
 rintro k m ⟨hk, hnm⟩
 by_cases hlt : k < l.length
 · have w1 := wS k (by omega)
   obtain ⟨x, hx⟩ : ∃ x, l[k] = x := ⟨_, rfl⟩
   have H := hg x (by rw [← hx]; exact Kn hlt)
   rw [A7.enc] at H
   simp [go_sem, hlt, hx, A7.enc, AC, AD]
   refine Y4 H ?_
   simp [go_sem, w1, -Int.natCast_add]
   exact ⟨k + 1, by omega, ⟨by omega, by omega⟩, Jo, by repeat (first | exact AB | refine AN ho (by omega) ?_)⟩
 · simp [go_sem, hlt]
   exact A3 ho rfl rfl
theorem q123 (l : List AE) (hl : l.length ≤ 1048576) (g : FuncId) (hg : ∀ x ∈ l, PC g [x.enc, x.enc] (.bool true)) : PC 123 [.imm 11 (l.map AE.enc) false, .imm 11 (l.map AE.enc) false, .fn (.func g) [] []] (.bool true) := by
 intro h n
 refine gq Tryz.func123 rfl fun ho => ?_
 simp [go_sem]
 refine Aq 1 (α := Nat) (fun k => [(1, .imm 11 (l.map AE.enc) false), (2, .fn (.func g) [] []), (15, .imm 11 (l.map AE.enc) false), (16, AA l.length), (17, AA k)]) (fun _ => h) (fun k m => k ≤ l.length ∧ n ≤ m) (fun k => l.length - k) 0 ?_ ?_ AB ?_
 · simp
 · simp [Am]
 rintro k m ⟨hk, hnm⟩
 by_cases hlt : k < l.length
 · have w1 := wS k (by omega)
   obtain ⟨x, hx⟩ : ∃ x, l[k] = x := ⟨_, rfl⟩
   have H := hg x (by rw [← hx]; exact Kn hlt)
   rw [KW] at H
   simp [go_sem, hlt, hx, KW, AC, AD]
   refine Y4 H ?_
   simp [go_sem, w1, -Int.natCast_add]
   exact ⟨k + 1, by omega, ⟨by omega, by omega⟩, Jo, by repeat (first | exact AB | refine AN ho (by omega) ?_)⟩
 · simp [go_sem, hlt]
   exact A3 ho rfl rfl
theorem q191 (l : List AR) (hl : l.length ≤ 1048576) (g : FuncId) (hg : ∀ x ∈ l, PC g [x.enc, x.enc] (.bool true)) : PC 191 [.imm 6 (l.map AR.enc) false, .imm 6 (l.map AR.enc) false, .fn (.func g) [] []] (.bool true) := by
 intro h n
 refine gq Tryz.func191 rfl fun ho => ?_
 simp [go_sem]
 refine Aq 1 (α := Nat) (fun k => [(1, .imm 6 (l.map AR.enc) false), (2, .fn (.func g) [] []), (15, .imm 6 (l.map AR.enc) false), (16, AA l.length), (17, AA k)]) (fun _ => h) (fun k m => k ≤ l.length ∧ n ≤ m) (fun k => l.length - k) 0 ?_ ?_ AB ?_
 · simp
 · simp [Am]
 rintro k m ⟨hk, hnm⟩
 by_cases hlt : k < l.length
 · have w1 := wS k (by omega)
   obtain ⟨x, hx⟩ : ∃ x, l[k] = x := ⟨_, rfl⟩
   have H := hg x (by rw [← hx]; exact Kn hlt)
   rw [Yj] at H
   simp [go_sem, hlt, hx, Yj, AC, AD]
   refine Y4 H ?_
   simp [go_sem, w1, -Int.natCast_add]
   exact ⟨k + 1, by omega, ⟨by omega, by omega⟩, Jo, by repeat (first | exact AB | refine AN ho (by omega) ?_)⟩
 · simp [go_sem, hlt]
   exact A3 ho rfl rfl
theorem q258 (l : List AL) (hl : l.length ≤ 1048576) (g : FuncId) (hg : ∀ x ∈ l, PC g [x.enc, x.enc] (.bool true)) : PC 258 [.imm 7 (l.map AL.enc) false, .imm 7 (l.map AL.enc) false, .fn (.func g) [] []] (.bool true) := by
 intro h n
 refine gq Tryz.func258 rfl fun ho => ?_
 simp [go_sem]
 refine Aq 1 (α := Nat) (fun k => [(1, .imm 7 (l.map AL.enc) false), (2, .fn (.func g) [] []), (15, .imm 7 (l.map AL.enc) false), (16, AA l.length), (17, AA k)]) (fun _ => h) (fun k m => k ≤ l.length ∧ n ≤ m) (fun k => l.length - k) 0 ?_ ?_ AB ?_
 · simp
 · simp [Am]
 rintro k m ⟨hk, hnm⟩
 by_cases hlt : k < l.length
 · have w1 := wS k (by omega)
   obtain ⟨x, hx⟩ : ∃ x, l[k] = x := ⟨_, rfl⟩
   have H := hg x (by rw [← hx]; exact Kn hlt)
   rw [YP] at H
   simp [go_sem, hlt, hx, YP, AC, AD]
   refine Y4 H ?_
   simp [go_sem, w1, -Int.natCast_add]
   exact ⟨k + 1, by omega, ⟨by omega, by omega⟩, Jo, by repeat (first | exact AB | refine AN ho (by omega) ?_)⟩
 · simp [go_sem, hlt]
   exact A3 ho rfl rfl
theorem q58 (x : AF) (hx : x.sized) : PC 58 [x.enc, x.enc] (.bool true) := by simpa using c58 x x hx hx
theorem q125 (l : List Eu) (hl : l.length ≤ 1048576) : PC 125 [Ag l, Ag l] (.bool true) := by simpa using c125 l l hl hl
theorem q130 (l : List Eu) (hl : l.length ≤ 1048576) : PC 130 [Ag l, Ag l] (.bool true) := by
 intro h n
 refine gq Tryz.func130 rfl fun ho => ?_
 simp [go_sem]
 refine (q125 l hl).use ?_
 simp [go_sem]
 exact A3 ho rfl rfl
theorem q55 (x : FL) (hx : x.levels.length ≤ 1048576) : PC 55 [x.enc, x.enc] (.bool true) := by
 intro h n
 refine gq Tryz.func55 rfl fun ho => ?_
 have hh : ∀ y z, ∀ o x, h o = some x → hset (hset h n y) (n + 1) z o = some x := fun y z => by repeat (first | exact AB | refine AN ho (by omega) ?_)
 simp [go_sem, FL.enc, AC, AD]
 refine (q56 _ hx).use ?_
 simp [go_sem]
 exact Ax ho (hh _ _) rfl rfl
theorem q129 (x : A7) (hx : x.props.length ≤ 1048576) : PC 129 [x.enc, x.enc] (.bool true) := by
 intro h n
 refine gq Tryz.func129 rfl fun ho => ?_
 have hh : ∀ y z, ∀ o x, h o = some x → hset (hset h n y) (n + 1) z o = some x := fun y z => by repeat (first | exact AB | refine AN ho (by omega) ?_)
 simp [go_sem, A7.enc, AC, AD]
 refine (q130 _ hx).use ?_
 simp [go_sem]
 exact Ax ho (hh _ _) rfl rfl
theorem q60 (l : List A7) (hl : l.length ≤ 1048576) (hp : ∀ x ∈ l, x.props.length ≤ 1048576) : PC 60 [Ac l, Ac l] (.bool true) := by
 intro h n
 refine gq Tryz.func60 rfl fun ho => ?_
 simp [go_sem]
 refine (q128 l hl 129 fun x hx => q129 x (hp x hx)).use ?_
 simp [go_sem]
 exact A3 ho rfl rfl
theorem q259 (x : AL) (hx : x.head.sized) (hf : PC 57 [AG x.flow, AG x.flow] (.bool true)) : PC 259 [x.enc, x.enc] (.bool true) := by
 intro h n
 refine gq Tryz.func259 rfl fun ho => ?_
 have hh : ∀ y z, ∀ o x, h o = some x → hset (hset h n y) (n + 1) z o = some x := fun y z => by repeat (first | exact AB | refine AN ho (by omega) ?_)
 have e := q58 _ hx
 rw [AF.enc, AF.flat] at e
 simp [go_sem, YP, AC, AD]
 refine e.use ?_
 simp [go_sem, AC, AD]
 refine hf.use ?_
 simp [go_sem]
 exact Ax ho (hh _ _) rfl rfl
theorem q192 (x : AR) (hx : x.head.sized) (hl : x.cells.length ≤ 1048576) (hf : ∀ c ∈ x.cells, PC 259 [c.enc, c.enc] (.bool true)) : PC 192 [x.enc, x.enc] (.bool true) := by
 intro h n
 refine gq Tryz.func192 rfl fun ho => ?_
 have hh : ∀ y z, ∀ o x, h o = some x → hset (hset h n y) (n + 1) z o = some x := fun y z => by repeat (first | exact AB | refine AN ho (by omega) ?_)
 have e := q58 _ hx
 rw [AF.enc, AF.flat] at e
 simp [go_sem, Yj, AC, AD]
 refine e.use ?_
 simp [go_sem, AC, AD]
 refine (q258 _ hl 259 hf).use ?_
 simp [go_sem]
 exact Ax ho (hh _ _) rfl rfl
theorem q124 (x : AE) (hx : x.head.sized) (hf : PC 57 [AG x.flow, AG x.flow] (.bool true)) (hl : x.rows.length ≤ 1048576) (hr : ∀ r ∈ x.rows, PC 192 [r.enc, r.enc] (.bool true)) : PC 124 [x.enc, x.enc] (.bool true) := by
 intro h n
 refine gq Tryz.func124 rfl fun ho => ?_
 have hh : ∀ y z, ∀ o x, h o = some x → hset (hset h n y) (n + 1) z o = some x := fun y z => by repeat (first | exact AB | refine AN ho (by omega) ?_)
 have e := q58 _ hx
 rw [AF.enc, AF.flat] at e
 simp [go_sem, KW, AC, AD]
 refine e.use ?_
 simp [go_sem, AC, AD]
 refine hf.use ?_
 simp [go_sem, AC, AD]
 refine (q191 _ hl 192 hr).use ?_
 simp [go_sem]
 exact Ax ho (hh _ _) rfl rfl
theorem q57 {hp : AF → Prop} (hh : ∀ x, hp x → x.sized) {K : Nat} (hK : K ≤ 1048576) : ∀ (N : Nat) (l : List AE), Ex hp K N l → PC 57 [AG l, AG l] (.bool true)
 | 0, _, H => H.elim
 | N + 1, l, H => by
  obtain ⟨h1, h2, h3⟩ := Ds.1 H
  have hi : ∀ x ∈ l, PC 124 [x.enc, x.enc] (.bool true) := fun x hx => by
   obtain ⟨a, b, c, d⟩ := h3 x hx
   exact q124 x (hh _ a) (q57 hh hK N _ b) (by omega) fun r hr => q192 r (hh _ (d r hr).1) (by have := (d r hr).2.1; omega) fun e he => q259 e (hh _ ((d r hr).2.2 e he).1) (q57 hh hK N _ ((d r hr).2.2 e he).2)
  intro h n
  refine gq Tryz.func57 rfl fun ho => ?_
  simp [go_sem]
  refine (q123 l (by omega) 124 hi).use ?_
  simp [go_sem]
  exact A3 ho rfl rfl
theorem q61' (l : List FL) (hl : l.length ≤ 1048576) (hp : ∀ x ∈ l, x.levels.length ≤ 1048576) : PC 61 [DS l, DS l, .fn (.func 55) [] []] (.bool true) := q61 l hl 55 fun x hx => q55 x (hp x hx)
def T6 : Tr := .pure 0 <| .pure 1 <| .pure 2 <| .pure 3 <| .two 4 5 (.one 5 (.one 6 (.one 7 .nil))) (.one 4 (.one 6 (.one 7 .nil)))
theorem q17 {hp : AF → Prop} (hh : ∀ x, hp x → x.sized) {K : Nat} (hK : K ≤ 1048576) (N : Nat) (d : AH) (hl : Ex hp K N d.flow) (he : d.«end».sized) (hr : d.revs.length ≤ 1048576) (hs : d.settings.sized) : PC 17 [d.enc, d.enc] (.bool true) := by
 intro h n
 refine Da Tryz.func17 rfl fun ho => ?_
 have hHb := ho.lt
 obtain ⟨X, hX⟩ : ∃ X : SV, X = .iptr ([AG d.flow] ++ d.«end».flat ++ [Aj d.revs] ++ d.settings.flat) := ⟨_, rfl⟩
 refine AZ 1 [(2, X), (3, X)] h n ?_ (fun m hm => ?_)
 · rw [hX]
   simp [go_sem, AH.enc, AF.flat, AI.flat]
   exact ⟨by omega, ⟨AW (ho.none (by omega)) (by simp [hset]), AW (ho.none (by omega)) (by simp [hset])⟩, fun j y e => by have := hHb j y e; simp only [hset]; grind⟩
 have hHm : ∀ j y, h j = some y → j < m := fun j y e => by have := hHb j y e; omega
 refine AV 1 (α := Unit) (fun _ => [(2, X), (3, X), (5, .iptr d.settings.flat), (6, .iptr d.settings.flat)]) (fun _ => h) (fun _ m => n ≤ m) (Bt T6 rfl (by kernel_rfl) (by kernel_rfl) ?_) (fun _ m hm => ?_)
 · rw [hX]
   simp [go_sem, T6, AF.flat, AI.flat, AC, AD]
   have k0 : ∀ q, m ≤ q → h q = none := fun q hq => by cases e : h q with | none => rfl | some y => (have := hHm q y e; omega)
   refine ⟨⟨by omega, ⟨AW (k0 _ (by omega)) (by simp [hset]), AW (k0 _ (by omega)) (by simp [hset])⟩, fun j y e => ?_⟩, by omega, ⟨AW (k0 _ (by omega)) (by simp [hset]), AW (k0 _ (by omega)) (by simp [hset])⟩, fun j y e => ?_⟩ <;>
   · have := hHm j y e
     simp only [hset]; grind
 have e := q58 _ he
 rw [AF.enc, AF.flat] at e
 refine AK ?_
 rw [hX]
 simp [go_sem, AF.flat, AI.flat]
 refine (q57 hh hK N _ hl).use ?_
 simp [go_sem]
 refine e.use ?_
 simp [go_sem]
 refine (q59 _ hr).use ?_
 simp [go_sem]
 refine (q60 _ hs.styles hs.props).use ?_
 simp [go_sem]
 refine (q61' _ hs.lists hs.levels).use ?_
 simp [go_sem]
 refine (q62 _ hs.comments).use ?_
 simp [go_sem]
 refine (q63 _ hs.vars).use ?_
 simp [go_sem]
 exact A3 ho rfl rfl
theorem q17z {hp : AF → Prop} {K N : Nat} {l : List AE} (h : Ex hp K N l) : PC 17 [zD.enc, zD.enc] (.bool true) := by
 cases N with
 | zero => exact h.elim
 | succ N =>
  have l0 : Ex AF.sized 0 (N + 1) zD.flow := Ds.2 ⟨by simp [zD], by simp [zD, An], fun x hx => by cases hx⟩
  exact q17 (hp := AF.sized) (fun _ g => g) (K := 0) (by omega) (N + 1) zD l0 ⟨by simp [zD, z0], by simp [zD, z0], by simp [zD, z0]⟩ (by simp [zD]) ⟨by simp [zD, Ew], by simp [zD, Ew], by simp [zD, Ew], by simp [zD, Ew], by simp [zD, Ew], by simp [zD, Ew]⟩
set_option maxHeartbeats 1000000 in
theorem Qk {B N : Nat} (_hB : B ≤ 1048576) {d : AH} (hl : Ex AF.sized B N d.flow) (he : d.«end».sized) (hs : d.settings.sized) (hd : GT N d) (hf : Lo N d.flow) (rev : Int) (to : Av) :
 ∃ R : AH, PC 18 [d.enc, AA rev, to.enc] (.tup [(EC d rev to R).enc, AA (CR d rev to)]) ∧ PC 19 [d.enc, AA rev, to.enc] (.tup [(EC d rev to R).enc, AA (CR d rev to)]) ∧
  PC 17 [(EC d rev to R).enc, (EC d rev to R).enc] (.bool true) ∧ (EC d rev to R).revs.length ≤ 1048576 ∧
  (CR d rev to = 0 → (BG (EC d rev to R).revs to.id).2 = true → PC 18 [(EC d rev to R).enc, AA to.id, (BG d.revs rev).1.enc] (.tup [d.normal.enc, AA 0])) ∧
  PC 21 [d.enc] d.normal.enc ∧ PC 17 [d.normal.enc, d.normal.enc] (.bool true) ∧ d.revs.length ≤ 1048576 := by
 obtain ⟨m2, hm2⟩ : ∃ m2, m2 = Bb [] (d.revs.map (·.id)) := ⟨_, rfl⟩
 have hrl := KN hd.revs
 have hm : m2.length ≤ 998 := by
  have := Nm (d.revs.map (·.id)) []
  rw [hm2]; simp at this; omega
 have h1 : Ex (KH m2) 150000 N d.flow := NA hl hf (hm2 ▸ hd.flow)
 have h2 : KH m2 d.«end» := ⟨he, hm2 ▸ hd.end.toP5⟩
 have ht := Jt hd
 have w0 := K3 (W := d) (m2 := m2) (K := 150000) (by omega) (by omega) h1 h2 (by omega) hs
 have n0 := EN h1
 have k21 := c21 d w0.1 w0.2.1 w0.2.2
 have kq : PC 17 [d.normal.enc, d.normal.enc] (.bool true) := q17 (hp := KH m2) (fun x g => g.1) (K := 150000) (by omega) N d.normal n0 h2.1 (Yv (YH _ _) (by omega)) hs
 by_cases hE : CR d rev to = 0
 rotate_left
 · have e : EC d rev to zD = zD := by unfold EC; split <;> rfl
   refine ⟨zD, c18 d rev to zD (by omega) ht fun g => absurd g hE, c19 d rev to zD (by omega) ht fun g => absurd g hE, ?_, ?_, fun g => absurd g hE, k21, kq, by omega⟩
   · rw [e]; exact q17z h1
   · rw [e]; simp [zD]
 have eR : EC d rev to (Cc N d rev to).normal = (Cc N d rev to).normal := by rw [EC, if_pos hE]
 obtain ⟨_, _, _, tT, _⟩ := Hd ht hE
 have lW : Ex (KH (to.id :: m2)) 150000 N (Cc N d rev to).flow := by rw [LU hm2 hd h1]; exact U9 (fun h g => ST g) h1
 have eW : KH (to.id :: m2) (Cc N d rev to).«end» := ST h2
 have rW : (Cc N d rev to).revs.length ≤ 256 := tT.1
 have w3 := K3 (W := Cc N d rev to) (m2 := to.id :: m2) (K := 150000) (by simp; omega) (by omega) lW eW (by omega) hs
 have lA : Ex (KH (to.id :: m2)) 150000 N (Cc N d rev to).normal.flow := EN lW
 have rA : (Cc N d rev to).normal.revs.length ≤ 256 := Yv (YH _ _) rW
 have sA : (Cc N d rev to).normal.settings.sized := hs
 have eA : KH (to.id :: m2) (Cc N d rev to).normal.«end» := eW
 refine ⟨(Cc N d rev to).normal, c18 d rev to _ (by omega) ht fun _ H n => ?_, c19 d rev to _ (by omega) ht fun _ H n => ?_, ?_, ?_, fun _ hu => ?_, k21, kq, by omega⟩
 · have := d49 (sc := A9) (v65 0 to rev) (KH m2) 150000 (by omega) (fun h g => ⟨⟨g.1, by have := g.2.dlen; omega⟩, g.1⟩) N d (Ej d rev to) () h1 h2 w3.1 w3.2.1 w3.2.2 (H := H) (n := n) (K2 _) (by rintro o y ⟨⟩)
   rw [Tg] at this
   exact this
 · have e := SR hm2 hd h1 hE
   have := d39R (sc := A9) (v70 0 to rev) (KH m2) 150000 (by omega) (fun h g => ⟨g.1, g.1⟩) N d (Ej d rev to) () h1 h2 (by rw [e]; exact w3.1) (by rw [e]; exact w3.2.1) (by rw [e]; exact w3.2.2) (H := H) (n := n) (K2 _) (by rintro o y ⟨⟩)
   rw [Tg, e] at this
   exact this
 · rw [eR]
   exact q17 (hp := KH (to.id :: m2)) (fun x g => g.1) (K := 150000) (by omega) N _ lA eA.1 (by omega) sA
 · rw [eR]; omega
 · rw [eR] at hu ⊢
   obtain ⟨At, E2, hback, Cf, Ce, u4⟩ := Qj hm2 hd h1 hE hu
   have w4 := K3 (W := Cc N (Cc N d rev to).normal to.id (BG d.revs rev).1) (m2 := m2) (K := 150000) (by omega) (by omega) (by rw [Cf]; exact n0) (by rw [Ce]; exact h2) (by have := u4.1; exact Yv this (by omega)) sA
   have := c18 (Cc N d rev to).normal to.id (BG d.revs rev).1 d.normal (by omega) At fun _ H n => by
    have := d49 (sc := A9) (v65 0 (BG d.revs rev).1 to.id) (KH (to.id :: m2)) 150000 (by omega) (fun h g => ⟨⟨g.1, by have := g.2.dlen; omega⟩, g.1⟩) N (Cc N d rev to).normal (Ej (Cc N d rev to).normal to.id (BG d.revs rev).1) () lA eA w4.1 w4.2.1 w4.2.2 (H := H) (n := n) (K2 _) (by rintro o y ⟨⟩)
    rw [Tg] at this
    rw [← hback]; exact this
   rw [EC, E2, if_pos rfl] at this
   exact this
def trZ6 : Tr := .pure 0 <| .pure 1 <| .pure 2 <| .pure 3 <| .pure 4 <| .one 5 <| .one 6 <| .one 7 <| .one 8 .nil
def AH.flat (d : AH) : List SV := [AG d.flow] ++ d.«end».flat ++ [Aj d.revs] ++ d.settings.flat
set_option maxHeartbeats 4000000 in
theorem splitReassigns (d : AH) (rev : Int) (to : Av) {B N : Nat} (hB : B ≤ 1048576) (hd : d.sizedT B N) : PC 6 [d.enc, AA rev, to.enc] (.bool true) := by
 intro h n
 refine Da Tryz.func6 rfl fun ho => ?_
 have hHb := ho.lt
 obtain ⟨X, hX⟩ : ∃ X : SV, X = .iptr ([AG d.flow] ++ d.«end».flat ++ [Aj d.revs] ++ d.settings.flat) := ⟨_, rfl⟩
 obtain ⟨V, hV⟩ : ∃ V : SV, V = .iptr [AA to.id, .str to.author, AA to.time] := ⟨_, rfl⟩
 refine AZ 1 [(1, AA rev), (3, X), (5, V)] h n ?_ (fun m hm => ?_)
 · rw [hX, hV]
   simp [go_sem, AH.enc, Av.enc, AF.flat, AI.flat, Jo]
   exact ⟨by omega, ⟨AW (ho.none (by omega)) (by simp [hset]), AW (ho.none (by omega)) (by simp [hset])⟩, fun j y e => by have := hHb j y e; simp only [hset]; grind⟩
 refine AV 0 (α := Unit) (fun _ => [(1, AA rev), (3, X), (5, V)]) (fun _ => h) (fun b m => n ≤ m ∧ GT N d ∧ Lo N d.flow) ?_ (fun _ m hm => ?_)
 · refine BO 0 (α := Bx) (fun b => [(1, AA rev), (3, X), (5, V), (29, .bool b.b)]) (fun _ => h) (fun b m => n ≤ m ∧ (b.b = false → GT N d ∧ Lo N d.flow)) ?_ (fun b m hm => ?_)
   · rw [hX, hV]
     simp [go_sem, AF.flat, AI.flat]
     refine Y4 k11 ?_
     simp [go_sem]
     refine ZY (by simpa [AH.enc, AF.flat, AI.flat] using t12s d hB hd) ?_
     rintro v ⟨b, rfl, hb⟩
     cases b with
     | false => simp [go_sem, Jo, hm]; exact ⟨⟨true⟩, by simp, rfl⟩
     | true => simp [go_sem, Jo, hm]; exact ⟨⟨_⟩, fun _ => hb rfl, rfl⟩
   obtain ⟨b⟩ := b
   obtain ⟨hm, hb⟩ := hm
   dsimp only at hb ⊢
   cases b with
   | true =>
    refine AK ?_
    simp [go_sem]
    refine Y4 k11 ?_
    simp [go_sem]
    exact A3 ho rfl rfl
   | false =>
    refine AK ?_
    simp [go_sem, Jo, hm]
    exact hb rfl
 obtain ⟨hm, h1, h2⟩ := hm
 obtain ⟨R, k18, k19, kq, hAr, kback, k21, kqn, hdr⟩ := Qk hB hd.flow hd.end hd.settings.tosized h1 h2 rev to
 obtain ⟨A, hA⟩ : ∃ A, A = EC d rev to R := ⟨_, rfl⟩
 obtain ⟨e, he⟩ : ∃ e, e = CR d rev to := ⟨_, rfl⟩
 rw [← hA, ← he] at k18 k19 kback
 rw [← hA] at kq hAr
 refine AZ 1 [(1, AA rev), (3, X), (5, V), (7, .iptr A.flat), (8, AA e)] h n ?_ (fun m hm => ?_)
 · have hHm : ∀ j y, h j = some y → j < m := fun j y e => by have := hHb j y e; omega
   rw [hX, hV]
   simp [go_sem, AF.flat, AI.flat]
   refine Y4 (by simpa [AH.enc, Av.enc, AF.flat, AI.flat] using k18) ?_
   simp [go_sem, AH.flat, AF.flat, AI.flat, Jo, AC, Ai]
   exact ⟨by omega, AW (Ad hHm (JO _)) (AC _ _ _), AJ hHm AB⟩
 refine AZ 1 [(1, AA rev), (3, X), (5, V), (7, .iptr A.flat), (8, AA e), (9, .iptr A.flat), (10, AA e)] h n ?_ (fun m hm => ?_)
 · have hHm : ∀ j y, h j = some y → j < m := fun j y e => by have := hHb j y e; omega
   rw [hX, hV]
   simp [go_sem, AF.flat, AI.flat]
   refine Y4 (by simpa [AH.enc, Av.enc, AF.flat, AI.flat] using k19) ?_
   simp [go_sem, AH.flat, AF.flat, AI.flat, Jo, AC, Ai]
   exact ⟨by omega, AW (Ad hHm (JO _)) (AC _ _ _), AJ hHm AB⟩
 refine Bf 0 [(1, AA rev), (3, X), (5, V), (7, .iptr A.flat), (8, AA e)] h n (AK ?_) (fun m hm => ?_)
 · simp [go_sem, AH.flat, AF.flat, AI.flat]
   refine Y4 (by simpa [AH.enc, AF.flat, AI.flat] using kq) ?_
   simp [go_sem, Jo, hm]
 obtain ⟨old, hold'⟩ : ∃ old, old = (BG d.revs rev).1 := ⟨_, rfl⟩
 rw [← hold'] at kback
 refine AZ 1 [(3, X), (5, V), (7, .iptr A.flat), (8, AA e), (11, .iptr [AA old.id, .str old.author, AA old.time])] h n ?_ (fun m hm => ?_)
 · have hHm : ∀ j y, h j = some y → j < m := fun j y e => by have := hHb j y e; omega
   rw [hX]
   simp [go_sem, AF.flat, AI.flat]
   refine Y4 (S5 d.revs hdr rev) ?_
   rw [← hold']
   simp [go_sem, Av.enc, Jo, AC, Ai]
   exact ⟨by omega, AW (Ad hHm (JO _)) (AC _ _ _), AJ hHm AB⟩
 refine CD 0 [(3, X), (5, V), (7, .iptr A.flat), (11, .iptr [AA old.id, .str old.author, AA old.time])] h (fun m => n ≤ m ∧ e = 0 ∧ (BG A.revs to.id).2 = true) (AK ?_) (fun m hm => ?_)
 · have hHm : ∀ j y, h j = some y → j < m := fun j y e => by have := hHb j y e; omega
   rw [hV]
   simp [go_sem, AH.flat, AF.flat, AI.flat]
   refine Y4 (S5 A.revs hAr to.id) ?_
   by_cases e0 : e = 0
   · cases u : (BG A.revs to.id).2 with
     | false =>
      simp [go_sem, e0, Av.enc, AC, Ai]
      exact Ax ho (AJ hHm AB) rfl rfl
     | true =>
      simp [go_sem, e0, Av.enc, AC, Ai, Jo]
      exact ⟨by omega, AJ hHm AB⟩
   · have e1 : (e != 0) = true := by simpa using e0
     simp [go_sem, e0, e1, Av.enc, AC, Ai]
     exact Ax ho (AJ hHm AB) rfl rfl
 obtain ⟨hm, e0, u⟩ := hm
 have kb := kback e0 u
 refine AZ 1 [(3, X), (15, .iptr d.normal.flat), (16, AA 0)] h n ?_ (fun m hm => ?_)
 · have hHm : ∀ j y, h j = some y → j < m := fun j y e => by have := hHb j y e; omega
   rw [hV]
   simp [go_sem, AH.flat, AF.flat, AI.flat]
   refine Y4 (by simpa [AH.enc, Av.enc, AF.flat, AI.flat] using kb) ?_
   simp [go_sem, Jo, AC, Ai]
   exact ⟨by omega, AW (Ad hHm (JO _)) (AC _ _ _), AJ hHm AB⟩
 refine AV 0 (α := Unit) (fun _ => [(6, .bool true)]) (fun _ => h) (fun _ m => n ≤ m) (Bt trZ6 rfl (by kernel_rfl) (by kernel_rfl) ?_) (fun _ m hm => ?_)
 · rw [hX]
   simp [go_sem, trZ6, AH.flat, AF.flat, AI.flat]
   refine Y4 (by simpa [AH.enc, AF.flat, AI.flat] using k21) ?_
   simp [go_sem]
   refine Y4 (by simpa [AH.enc, AF.flat, AI.flat] using kqn) ?_
   simp [go_sem, Jo, hm]
 refine AK ?_
 simp [go_sem]
 exact A3 ho rfl rfl
end Go.Proofs.YtgakninlhfkkmaaGreat.Sh
namespace Go.Proofs.YtgakninlhfkkmaaGreat.splitReassigns
open Go.ChangeShapes Go.WideShapes Go.ChangeAt Go.RowKit
open Go.Proofs.YtgakninlhfkkmaaGreat.Sh
set_option maxRecDepth 10000
theorem own : ownKnob Tryz.prog.godebug = none := by kernel_rfl
theorem contract (H : Type) (enc : TypeId × Value → H) (W : World) (base : Nat) (args : Array Value) (ds gs : List (DataW H)) (before : List MemPlace)
 (hval : ∀ (j : Nat) t v, Tryz.f6.params[j]? = some t → args[j]? = some v → Value.okWide Tryz.prog W .any base t v)
 (hW : DataW.Whole enc Tryz.prog Tryz.f6.params.toList Rows.splitReassignsSpec.vars false W args.toList ds gs before) (hk : Rows.uptoSmall H (ds ++ gs) = true) :
 Calls Tryz.prog 6 args W fun e W' => ∃ v, e = .returned v ∧ Rows.splitReassignsSpec.post enc Tryz.prog Tryz.f6 false true false false W args v W' := by
 have hW' := hW
 obtain ⟨p, q, hA, hV, rfl, hfz, hnd⟩ := hW
 rw [Tryz.params6] at hA hval
 obtain ⟨v0, vs0, d0, ds0, p0, q0, hargs, rfl, rfl, ⟨n0, h0⟩, r0⟩ := trodAll_cons hA
 obtain ⟨v1, vs1, d1, ds1, p1, q1, rfl, rfl, rfl, ⟨n1, h1⟩, r1⟩ := trodAll_cons r0
 obtain ⟨v2, vs2, d2, ds2, p2, q2, rfl, rfl, rfl, ⟨n2, h2⟩, r2⟩ := trodAll_cons r1
 obtain ⟨rfl, rfl, rfl⟩ := trodAll_nil r2
 obtain rfl : args = #[v0, v1, v2] := by cases args; simp_all
 obtain ⟨rfl, rfl⟩ := trodVars_none hV
 rw [Zf] at hk
 have hb : Rows.uptoBulkAll [d0, d1, d2] ≤ 1048576 := of_decide_eq_true hk
 simp only [Rows.uptoBulkAll] at hb
 obtain ⟨d, a1, a2⟩ := (Qh n0).arg Tryz.underlying38 (hval 0 38 v0 rfl rfl) h0 (by unfold BB; dsimp only; omega)
 obtain ⟨r, b1⟩ : ∃ r : Int, V (RV W) (AA r) v1 := by
  have hv := hval 1 3 v1 rfl rfl
  obtain ⟨r, hc, _⟩ := DataW.trod_int Tryz.underlying3 h1
  refine ⟨r, ?_⟩
  rw [V]
  cases v1 <;> simp [Value.okWide, Go.Cell.okWide, Go.Cell.ok, Tryz.underlying3] at hv <;> simpa [Value.cells] using hc
 obtain ⟨c, c1, c2⟩ := (rRev n2).arg Tryz.underlying42 (hval 2 42 v2 rfl rfl) h2 (by unfold BB; dsimp only; omega)
 have hBB : BB ≤ 1048576 := by unfold BB; exact JO _
 have hc := PC.calls (Sh.splitReassigns d r c hBB a2) (W := W) (vs := [v0, v1, v2]) ⟨a1, b1, c1, trivial⟩
 refine Calls.mono hc ?_
 rintro e W' ⟨u, c', rfl, rfl, hV, hE⟩
 have hu : u = .bool true := by rw [V] at hV; exact hV
 subst hu
 refine ⟨_, rfl, PW (x := .lit (.bool true)) hW' rfl (by rw [Tryz.params6]; exact of_decide_eq_true (by kernel_rfl)) hE.os hE.out (fun b hb => QT hE hb) rfl (fun _ _ _ => trodAll_cons_mk (shut_bool Tryz.underlying4 _) trodAll_mk0) (ok_one (by kernel_rfl) rfl (okWide_bool_mk Tryz.underlying4 _))⟩
def zi : Value := .int .i64 0
def zl : Value := .slice none 0 0
def witD : Value := .agg #[zl, zl, zi, zi, zl, zl, zl, zl, zl, zl, zl]
def witC : Value := .agg #[zi, .string .empty, zi]
def li {H : Type} : DataW H := .lit (.int .i64 0)
set_option maxRecDepth 100000 in
theorem lifted (os : Os) (started : os.Started) (H : Type) (enc : TypeId × Value → H) (F : Stop.Interp) :
 ReturnsInHanded {} Tryz.checked os 6 .any ((Rows.OpenSpec.upto Rows.splitReassignsSpec).pre6 enc Tryz.prog Tryz.f6 Rows.splitReassignsUptoRow.domain false) (((Rows.OpenSpec.upto Rows.splitReassignsSpec).at F).post enc Tryz.prog Tryz.f6 false true false false) := by
 refine returnsInHanded_of_cond (C := Tryz.checked) (s := Rows.OpenSpec.upto Rows.splitReassignsSpec) (k := Rows.uptoSmall) rfl own started (by kernel_rfl) Tryz.func6
  (OpenSpec.witness (enc := enc) (C := Tryz.checked) (s := Rows.OpenSpec.upto Rows.splitReassignsSpec) (k := Rows.uptoSmall) rfl false ⟨#[], #[witD, zi, witC], []⟩ 12 (by kernel_rfl) (by kernel_rfl) (by kernel_rfl)
    (x := ([.agg [.nil, .agg [.nil, .agg [li, li, .nil, .nil]], .nil, .agg [.nil, .nil, .nil, .nil]], li, .agg [li, .lit (.string []), li]], [], [])) (by kernel_rfl) rfl (by kernel_rfl)) ?_
 intro W base args ds gs before hval hW _ hk _
 exact contract H enc W base args ds gs before hval hW hk
theorem named : Tryz.checked.prog.funcNamed Rows.splitReassignsUptoRow.func = some 6 := by kernel_rfl
theorem inst : Tryz.f6.isInstance Tryz.checked.prog Rows.splitReassignsUptoRow.origin Rows.splitReassignsUptoRow.targs := of_decide_eq_true (by kernel_rfl)
theorem wrap : Tryz.f6.isWrapper Tryz.checked.prog Rows.splitReassignsUptoRow.wrapper Rows.splitReassignsUptoRow.mainSum := by unfold Func.isWrapper; first | (rw [if_pos (by decide +kernel)]; kernel_rfl) | (rw [if_neg (by decide +kernel)]; exact ⟨rfl, rfl⟩)
theorem proved : Rows.SplitReassignsUptoSaid :=
 OpenClaim.holds_of_cond 6 Tryz.f6 rfl rfl rfl rfl rfl rfl rfl ⟨rfl, rfl, rfl, rfl, rfl⟩ rfl rfl rfl rfl rfl named Tryz.func6 facts inst wrap
  (fun os started H enc _ F => lifted os started H enc F)
#print axioms proved
end Go.Proofs.YtgakninlhfkkmaaGreat.splitReassigns
