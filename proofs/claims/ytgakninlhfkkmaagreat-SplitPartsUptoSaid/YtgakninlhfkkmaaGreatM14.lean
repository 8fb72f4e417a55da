/- SplitParts of obeluslaw28 returns true and leaves its arguments as they were, for every document and every cut whose readings are together of bulk at most 1048576; no other condition. -/
import Derived.Test.YtgakninlhfkkmaaGreatM13
import Derived.Test.YtgakninlhfkkmaaGreatMF
namespace Go.Proofs.YtgakninlhfkkmaaGreat.Sh
open Proofs
set_option maxRecDepth 10000
def zD : AI := ⟨[], z0, [], GH⟩
def FD (rev : Int) (e : (Int × Int) × (Bool × Bool)) : Bool := e.1.1 == rev && (e.2.1 && e.2.2)
def HK (d : AI) (r : BF) : Nat := (A7 (Hq d.revs r.id) d.revs.length).1
def DM (d : AI) (rev : Int) (r : BF) (c : Int × Int × Int) (S : Eb) (R : AI) : AI × Int :=
 if c.2.2 ≠ 0 then (zD, c.2.2) else if Cc r ≠ 0 then (zD, Cc r) else if (B8 d.revs r.id).2 = true then (zD, 7) else if 256 ≤ d.revs.length then (zD, 9)
 else if c.1 = 0 ∨ c.2.1 = 0 then (zD, 11) else if S.any (FD rev) = true then (zD, 24) else (R, 0)
theorem LA (n : Nat) (E : AI) (e : Int) : closed n (.tup [E.enc, AA e]) = true := by
 simp [AI.enc, AF.flat, AM.flat, closed, closedL, AE.E.closedL, FH.E.closedL, CF.E.closedL, BD.E.closedL, BF.E.closedL, A6.E.closedL, GY.E.closedL, Aw.E.closedL, GV.E.closedL]
theorem Sy {a b : Int × Int} (h : Fg a = Fg b) : a = b := by
 simp only [Fg, SV.agg.injEq, List.cons.injEq, SV.int.injEq, true_and, and_true] at h
 exact Prod.ext h.1 h.2
theorem SY {a b : Bool × Bool} (h : KW a = KW b) : a = b := by
 simp only [KW, SV.agg.injEq, List.cons.injEq, SV.bool.injEq, and_true] at h
 exact Prod.ext h.1 h.2
theorem KZ {α : Type} {l : List α} {i : Nat} {x : α} (hi : i < l.length) (h : x ∈ l) (hne : x ≠ l[i]) : x ∈ l.eraseIdx i := by
 rw [List.eraseIdx_eq_take_drop_succ]
 have h1 : l = l.take i ++ l[i] :: l.drop (i + 1) := by rw [List.getElem_cons_drop, List.take_append_drop]
 rw [h1] at h
 simp only [List.mem_append, List.mem_cons] at h ⊢
 rcases h with h | h | h
 · exact .inl h
 · exact absurd h hne
 · exact .inr h
def Lf (S : Eb) (rev : Int) (left : List (SV × SV)) : Prop := (∀ p ∈ left, ∃ e ∈ S, p = (Fg e.1, KW e.2)) ∧ ∀ e ∈ S, FD rev e = true → (Fg e.1, KW e.2) ∈ left
theorem Lf.start (S : Eb) (rev : Int) : Lf S rev (B9 S) := ⟨fun p hp => by obtain ⟨e, he, rfl⟩ := List.mem_map.1 hp; exact ⟨e, he, rfl⟩, fun e he _ => List.mem_map.2 ⟨e, he, rfl⟩⟩
theorem Lf.erase {S : Eb} {rev : Int} {left : List (SV × SV)} (H : Lf S rev left) {i : Nat} {e : (Int × Int) × (Bool × Bool)} (hw : left[i]? = some (Fg e.1, KW e.2)) (hb : FD rev e = false) : Lf S rev (left.eraseIdx i) := by
 obtain ⟨hil, hie⟩ := List.getElem?_eq_some_iff.1 hw
 refine ⟨fun p hp => H.1 p (List.mem_of_mem_eraseIdx hp), fun e' he' hb' => KZ hil (H.2 e' he' hb') fun h => ?_⟩
 rw [hie] at h
 have h1 := Sy (congrArg Prod.fst h)
 have h2 := SY (congrArg Prod.snd h)
 have : e' = e := Prod.ext h1 h2
 rw [this, hb] at hb'; cases hb'
theorem Qi {G : Hp} {n : Nat} (q : Nat) {y : Option BV} (hb : ∀ j z, G j = some z → j < n) (hq : n ≤ q) : ∀ j z, G j = some z → hset G q y j = some z := fun j z e => by
 have := hb j z e
 rw [AD _ _ (by omega)]; exact e
set_option maxHeartbeats 8000000 in
theorem c15g (d : AI) (rev : Int) (sc : BG) (r : BF) (c : Int × Int × Int) (S : Eb) (R : AI) (Sr : PC 13 [d.enc, AA rev, sc.enc] (.tup [AA c.1, AA c.2.1, AA c.2.2])) (hr : d.revs.length ≤ 1048576)
 (k36 : ∀ (k : Nat) (H : Hp) (n : Nat), k + 2 ≤ n → (∀ o y, Nq k [] o = some y → H o = some y) → BO Tryz.prog 36 [d.enc, sc.enc, .fn (.func 43) [] [.ptr (k + 1) 0]] H n (fun v h' n' => v = .tup [] ∧ h' = Az (Nq k) S H ∧ n' = n))
 (hv : Cs d.revs = 0) (hne : c.2.2 = 0 → d.revs ≠ [])
 (k49 : ∀ (H : Hp) (n : Nat), BO Tryz.prog 49 [.fn (.func 46) [] [.iptr [AA r.id, .str r.author, AA r.time], .iptr [AA rev]], d.enc, sc.enc, A3 (Ex d.revs (HK d r) r)] H n (fun v h' n' => v = R.enc ∧ h' = H ∧ n' = n)) :
 PC 15 [d.enc, AA rev, sc.enc, r.enc] (.tup [(DM d rev r c S R).1.enc, AA (DM d rev r c S R).2]) := by
 intro h n
 refine ED Tryz.func15 rfl fun ho => ?_
 have hHb := ho.lt
 obtain ⟨X, hX⟩ : ∃ X : SV, X = .iptr ([AG d.flow] ++ d.«end».flat ++ [A3 d.revs] ++ d.settings.flat) := ⟨_, rfl⟩
 obtain ⟨C, hC⟩ : ∃ C : SV, C = .iptr [AA sc.id, AA sc.a, AA sc.b] := ⟨_, rfl⟩
 obtain ⟨V, hV⟩ : ∃ V : SV, V = .iptr [AA r.id, .str r.author, AA r.time] := ⟨_, rfl⟩
 obtain ⟨G, hG⟩ : ∃ G : Hp, G = hset h (n + 4) (some (.cells FX)) := ⟨_, rfl⟩
 have hGa : G (n + 4) = some (.cells FX) := by rw [hG, AC]
 have hGb : ∀ j y, G j = some y → j < n + 5 := fun j y e => by
  rw [hG] at e; simp only [hset] at e; split at e
  · omega
  · have := hHb j y e; omega
 have hGk : ∀ j y, h j = some y → G j = some y := fun j y e => by have := hHb j y e; rw [hG, AD _ _ (by omega)]; exact e
 have fin : ∀ (h' : Hp) (n' : Nat) (e : Int), (∀ j y, h j = some y → h' j = some y) → DM d rev r c S R = (zD, e) → CG n h' n' (.tup [.agg FX, AA e]) (Is (.tup [(DM d rev r c S R).1.enc, AA (DM d rev r c S R).2]) h n) := fun h' n' e hh he => by
  rw [he]
  refine Dp 3 ho hh (.inr ⟨.inr ?_, Fz.same, trivial⟩) (LA n zD e)
  exact ⟨Ba (by simp), Ba (by simp), Fz.same, Fz.same, Ba (by simp), Ba (by simp), Ba (by simp), Ba (by simp), Ba (by simp), Ba (by simp), Ba (by simp), trivial⟩
 have hz : hset G (n + 4) (some (.cells FX)) = G := by funext j; simp only [hset]; split; subst_vars; exact hGa.symm; rfl
 refine Bn 1 [(4, X), (5, .iptr [AA rev]), (6, C), (7, V), (8, .ptr (n + 4) 0)] G (fun m => n + 5 ≤ m) ?_ (fun m hm => ?_)
 · rw [hX, hC, hV, hG]
   simp [go_sem, BG.enc, AI.enc, BF.enc, AF.flat, AM.flat, Fz.same, Nat.add_assoc, FX]
   refine ⟨⟨Ac (by simp [hset]; exact ho.none (by omega)) (by simp [hset]), Ac (by simp [hset]; exact ho.none (by omega)) (by simp [hset]), Ac (by simp [hset]; exact ho.none (by omega)) (by simp [hset]), Ac (by simp [hset]; exact ho.none (by omega)) (by simp [hset])⟩, fun j y => ?_⟩
   have := hHb j y; simp only [hset]; grind
 refine Bn 0 [(4, X), (5, .iptr [AA rev]), (6, C), (7, V), (8, .ptr (n + 4) 0), (10, AA c.1), (11, AA c.2.1), (12, AA c.2.2)] G (fun m => n + 5 ≤ m) ?_ (fun m hm => ?_)
 · rw [hX, hC]
   simp [go_sem, AF.flat, AM.flat]
   refine PC.use (by simpa [BG.enc, AI.enc, AF.flat, AM.flat] using Sr) ?_
   simp [go_sem, Fz.same, hm]
 have keep := AL (m := n + 4) (y := some (.cells FX)) (h := h) (h' := G) (fun j z e => by have := hHb j z e; omega) hGk
 refine Gt ?_
 refine Bn 0 [(4, X), (5, .iptr [AA rev]), (6, C), (7, V), (8, .ptr (n + 4) 0), (10, AA c.1), (11, AA c.2.1), (12, AA c.2.2), (30, .bool (c.2.2 != 0))] G (fun m => n + 5 ≤ m) ?_ (fun m hm => ?_)
 · simp [go_sem, Fz.same, hm]
 by_cases a1 : c.2.2 = 0
 rotate_left
 · refine Ak (b := true) (by simp [go_sem, a1]) (AH ?_)
   simp [go_sem, hGa, FX, AC]
   exact fin _ _ _ keep (by simp [DM, a1])
 refine Ak (b := false) (by simp [go_sem, a1]) ?_
 simp only [Bool.false_eq_true, if_false]
 refine GZ ?_
 rw [Eo]
 refine Gt ?_
 refine Bn 0 [(4, X), (5, .iptr [AA rev]), (6, C), (7, V), (8, .ptr (n + 4) 0), (10, AA c.1), (11, AA c.2.1), (13, AA (Cc r))] G (fun m => n + 5 ≤ m) ?_ (fun m hm => ?_)
 · rw [hV]
   simp [go_sem]
   refine PC.use (by simpa [BF.enc] using c42 r) ?_
   simp [go_sem, Fz.same, hm]
 refine Bn 0 [(4, X), (5, .iptr [AA rev]), (6, C), (7, V), (8, .ptr (n + 4) 0), (10, AA c.1), (11, AA c.2.1), (13, AA (Cc r)), (36, .bool (Cc r != 0))] G (fun m => n + 5 ≤ m) ?_ (fun m hm => ?_)
 · simp [go_sem, Fz.same, hm]
 by_cases a2 : Cc r = 0
 rotate_left
 · refine Ak (b := true) (by simp [go_sem, a2]) (AH ?_)
   simp [go_sem, hGa, FX, AC]
   exact fin _ _ _ keep (by simp [DM, a1, a2])
 refine Ak (b := false) (by simp [go_sem, a2]) ?_
 simp only [Bool.false_eq_true, if_false]
 refine GZ ?_
 rw [Eo]
 refine Gt ?_
 refine Bn 0 [(4, X), (5, .iptr [AA rev]), (6, C), (7, V), (8, .ptr (n + 4) 0), (10, AA c.1), (11, AA c.2.1), (15, .bool (B8 d.revs r.id).2)] G (fun m => n + 5 ≤ m) ?_ (fun m hm => ?_)
 · rw [hX, hV]
   simp [go_sem, AF.flat, AM.flat]
   refine PC.use (c20 d.revs hr r.id) ?_
   simp [go_sem, Fz.same, BF.enc, AC, Aq]
   exact ⟨by omega, AL (fun j z e => by have := hGb j z e; omega) AB⟩
 refine Bn 0 [(4, X), (5, .iptr [AA rev]), (6, C), (7, V), (8, .ptr (n + 4) 0), (10, AA c.1), (11, AA c.2.1), (47, .bool (B8 d.revs r.id).2)] G (fun m => n + 5 ≤ m) ?_ (fun m hm => ?_)
 · simp [go_sem, Fz.same, hm]
 cases a3 : (B8 d.revs r.id).2 with
 | true =>
  refine Ak (b := true) (by simp [go_sem]) (AH ?_)
  simp [go_sem, hGa, FX, AC]
  exact fin _ _ _ keep (by simp [DM, a1, a2, a3])
 | false =>
 refine Ak (b := false) (by simp [go_sem]) ?_
 simp only [Bool.false_eq_true, if_false]
 refine GZ ?_
 rw [Eo]
 refine Gt (Ab ?_)
 refine Bn 0 [(4, X), (5, .iptr [AA rev]), (6, C), (7, V), (8, .ptr (n + 4) 0), (10, AA c.1), (11, AA c.2.1), (49, .bool (decide ((256 : Int) ≤ d.revs.length)))] G (fun m => n + 5 ≤ m) ?_ (fun m hm => ?_)
 · rw [hX]
   simp [go_sem, AF.flat, AM.flat, Fz.same, hm]
 by_cases a4 : 256 ≤ d.revs.length
 · have a4' : (256 : Int) ≤ d.revs.length := by omega
   refine Ak (b := true) (by simp [go_sem, a4']) (AH ?_)
   simp [go_sem, hGa, FX, AC]
   exact fin _ _ _ keep (by simp [DM, a1, a2, a3, a4])
 have a4' : ¬ (256 : Int) ≤ d.revs.length := by omega
 refine Ak (b := false) (by simp [go_sem, a4']) ?_
 simp only [Bool.false_eq_true, if_false]
 refine Bn 0 [(4, X), (5, .iptr [AA rev]), (6, C), (7, V), (8, .ptr (n + 4) 0), (55, .bool (decide (c.1 = 0 ∨ c.2.1 = 0)))] G (fun m => n + 5 ≤ m) ?_ (fun m hm => ?_)
 · by_cases b1 : c.1 = 0
   · simp [go_sem, b1, Fz.same, hm]
   · by_cases b2 : c.2.1 = 0
     · simp [go_sem, b1, b2, Fz.same, hm]
     · have e2 : (c.2.1 == 0) = false := by simpa using b2
       simp [go_sem, b1, b2, e2, Fz.same, hm]
 by_cases a5 : c.1 = 0 ∨ c.2.1 = 0
 · refine Ak (b := true) (by simp [go_sem, a5]) (AH ?_)
   simp [go_sem, hGa, FX, AC]
   exact fin _ _ _ keep (by simp [DM, a1, a2, a3, a4, a5])
 refine Ak (b := false) (by simp [go_sem, a5]) ?_
 simp only [Bool.false_eq_true, if_false]
 refine GZ ?_
 rw [L4, Eo]
 refine BM 0 (α := Nat) (fun k => [(4, X), (5, .iptr [AA rev]), (6, C), (7, V), (8, .ptr (n + 4) 0), (16, .ptr (k + 1) 0)]) (fun k => hset (hset G k (some (.map []))) (k + 1) (some (.cells [.map k]))) (fun k m => n + 5 ≤ k ∧ k + 1 < m) ?_ (fun k m hm => ?_)
 · simp [go_sem, Fz.same, Aq, AC]
   exact ⟨m, ⟨by omega, by omega⟩, rfl, AB⟩
 obtain ⟨hk1, hk2⟩ := hm
 have hst0 : ∀ o y, Nq k [] o = some y → hset (hset G k (some (.map []))) (k + 1) (some (.cells [.map k])) o = some y := fun o y e => by
  simp only [Nq, B9, List.map_nil] at e
  simp only [hset]; grind
 have hup : Az (Nq k) S (hset (hset G k (some (.map []))) (k + 1) (some (.cells [.map k]))) = hset (hset G k (some (.map (B9 S)))) (k + 1) (some (.cells [.map k])) := by
  rw [Pk _ _ _ (AC _ _ _)]; funext j; simp only [hset]; grind
 refine Bn 0 [(4, X), (5, .iptr [AA rev]), (6, C), (7, V), (8, .ptr (n + 4) 0), (16, .ptr (k + 1) 0)] (hset (hset G k (some (.map (B9 S)))) (k + 1) (some (.cells [.map k]))) (fun m => k + 1 < m) ?_ (fun m hm => ?_)
 · rw [hX, hC]
   have c36 := k36 k _ m (by omega) hst0
   rw [hup] at c36
   simp [go_sem, AF.flat, AM.flat]
   refine SC.use (by simpa [BG.enc, AI.enc, AF.flat, AM.flat] using c36) ?_
   rintro v H' n' ⟨rfl, rfl, rfl⟩
   simp [go_sem, Fz.same, hk2]
 refine B5 0 [(4, X), (5, .iptr [AA rev]), (6, C), (7, V), (8, .ptr (n + 4) 0)] G (fun m => S.any (FD rev) = false ∧ n + 5 ≤ m) ?_ (fun m hm => ?_)
 · refine BM 0 (α := Nat) (fun q => [(69, .ptr q 0), (4, X), (5, .iptr [AA rev]), (6, C), (7, V), (8, .ptr (n + 4) 0)]) (fun q => hset G q (some (.iter (B9 S) none))) (fun q m => n + 5 ≤ q ∧ q < m) ?_ (fun q m hm => ?_)
   · simp [go_sem, AC]
     refine Jz (m := k) (es := B9 S) rfl (by simp [go_sem]) (by simp [go_sem]) (by simp [hset]) ?_
     simp [go_sem, Fz.same]
     refine ⟨m, ⟨by omega, by omega⟩, Fz.same, fun j y e => ?_⟩
     have := hGb j y
     simp only [hset] at e ⊢; grind
   obtain ⟨hq1, hq2⟩ := hm
   refine Ab (Bf 0 (α := List (SV × SV) × Option (SV × SV)) (fun w => [(69, .ptr q 0), (4, X), (5, .iptr [AA rev]), (6, C), (7, V), (8, .ptr (n + 4) 0)]) (fun w => hset G q (some (.iter w.1 w.2)))
    (fun w m => q < m ∧ Lf S rev w.1) (fun w => w.1.length) (B9 S, none) ⟨hq2, Lf.start S rev⟩ ?_ AB ?_)
   · simp [Ai, Fz.same]
   rintro ⟨left, last⟩ m2 ⟨hm2, hinv⟩
   dsimp only at hinv ⊢
   have hGq : ∀ y, hset G q y (n + 4) = some (.cells FX) := fun y => by rw [AD _ _ (by omega)]; exact hGa
   refine AX 0 (α := Option (Nat × (SV × SV))) (fun w => [(69, .ptr q 0), (4, X), (5, .iptr [AA rev]), (6, C), (7, V), (8, .ptr (n + 4) 0), (71, .bool w.isSome)]) (fun w => hset G q (some (match w with | none => .iter left last | some w => .iter (left.eraseIdx w.1) (some w.2))))
    (fun w m => q < m ∧ match w with | none => left = [] | some w => left[w.1]? = some w.2) (AH ?_) (fun w m3 hm3 => ?_)
   · simp [go_sem]
     refine Lg (q := q) (left := left) (last := last) rfl (by simp [go_sem]) (AC _ _ _) (fun i hi => ?_) fun h0 => ?_
     · simp [go_sem, Aq]
       exact ⟨some (i, left[i]), ⟨hm2, by simp [hi]⟩, Fz.same, AB⟩
     · simp [go_sem]
       exact ⟨none, ⟨hm2, h0⟩, Fz.same, AB⟩
   obtain ⟨hm3, hw⟩ := hm3
   cases w with
   | none =>
    dsimp only at hw
    have hS : S.any (FD rev) = false := by
     rw [List.any_eq_false]
     intro e he hb
     have := hinv.2 _ he hb
     rw [hw] at this; cases this
    refine AH ?_
    simp only [Option.isSome_none]
    rw [hS]
    simp [go_sem, Fz.same]
    exact ⟨by omega, Qi q hGb hq1⟩
   | some w =>
    obtain ⟨i, p⟩ := w
    dsimp only at hw ⊢
    obtain ⟨e, he, rfl⟩ := hinv.1 p (List.mem_of_getElem? hw)
    have hb : ∀ j y, hset G q (some (.iter (left.eraseIdx i) (some (Fg e.1, KW e.2)))) j = some y → j < m3 := fun j y e => by
     simp only [hset] at e; split at e
     · omega
     · have := hGb j y e; omega
    obtain ⟨B, hB⟩ : ∃ B, B = hset G q (some (.iter (left.eraseIdx i) (some (Fg e.1, KW e.2)))) := ⟨_, rfl⟩
    rw [← hB] at hb ⊢
    have hBq : B q = some (.iter (left.eraseIdx i) (some (Fg e.1, KW e.2))) := by rw [hB, AC]
    have hBz : B (n + 4) = some (.cells FX) := by rw [hB]; exact hGq _
    have hBk : ∀ j y, h j = some y → B j = some y := fun j y e => by rw [hB]; have := hHb j y e; rw [AD _ _ (by omega)]; exact hGk j y e
    have q4 : m3 ≠ m3 + 1 := by omega
    have q5 : m3 + 1 ≠ m3 := by omega
    refine DA 0 [(69, .ptr q 0), (4, X), (5, .iptr [AA rev]), (6, C), (7, V), (8, .ptr (n + 4) 0)] B m3 ?_ (fun m4 hm4 => ?_)
    · simp [go_sem, Fz.same]
    subst hm4
    refine Ab ?_
    refine B5 1 [(69, .ptr q 0), (4, X), (5, .iptr [AA rev]), (6, C), (7, V), (8, .ptr (n + 4) 0), (17, .iptr [AA e.1.1, AA e.1.2]), (18, .iptr [.bool e.2.1, .bool e.2.2])] B (fun m => q < m) (AH ?_) (fun m5 hm5 => ?_)
    · simp [go_sem]
      refine Mp (q := q) (left := left.eraseIdx i) (p := (Fg e.1, KW e.2)) rfl (by simp [go_sem]) hBq ?_
      simp [go_sem, Fg, KW, AC, AD _ _ q4, AD _ _ q5, Fz.same]
      refine ⟨by omega, ⟨Ac (Af hb (by omega)) (by simp only [hset]; grind), Ac (Af hb (by omega)) (by simp only [hset]; grind)⟩, fun j y e => ?_⟩
      have := hb j y e; simp only [hset]; grind
    refine Bn 0 [(69, .ptr q 0), (4, X), (5, .iptr [AA rev]), (6, C), (7, V), (8, .ptr (n + 4) 0), (86, .bool (FD rev e))] B (fun m => q < m) ?_ (fun m6 hm6 => ?_)
    · obtain ⟨⟨e1, e2⟩, e3, e4⟩ := e
      cases hE : (e1 == rev) <;> cases e3 <;> cases e4 <;> simp [go_sem, hE, FD, Fz.same, hm5]
    cases hbd : FD rev e with
    | true =>
     have hS : S.any (FD rev) = true := List.any_eq_true.2 ⟨e, he, hbd⟩
     refine Ak (b := true) (by simp [go_sem]) (AH ?_)
     simp [go_sem, hBz, FX, AC]
     exact fin _ _ _ (AL (fun j z e => by have := hHb j z e; omega) hBk) (by simp only [DM, a2, a3]; simp [a1, a4, a5, hS])
    | false =>
     refine Ak (b := false) (by simp [go_sem]) (AH ?_)
     simp [go_sem, Fz.same]
     have hil := (List.getElem?_eq_some_iff.1 hw).1
     refine ⟨left.eraseIdx i, ?_, ⟨hm6, hinv.erase hw hbd⟩, some (Fg e.1, KW e.2), by rw [hB]; exact AB⟩
     rw [List.length_eraseIdx_of_lt hil]; omega
 obtain ⟨a6, hm⟩ := hm
 have IB : (A7 (Hq d.revs r.id) d.revs.length).2 = false := by
  cases e : (A7 (Hq d.revs r.id) d.revs.length).2 with
  | false => rfl
  | true => simp [B8, hv, e] at a3
 have k45 := c45g d.revs (hne a1) (by omega) r hv a2 (HK d r) (by have := NA (Hq d.revs r.id) 0 d.revs.length (Nat.zero_le _); exact this.2) (Prod.ext rfl IB)
 have hres : DM d rev r c S R = (R, 0) := by simp only [DM, a2, a3]; simp only [a6]; simp [a1, a4, a5]
 rw [hres]
 refine Bn 0 [(4, X), (5, .iptr [AA rev]), (6, C), (7, V), (8, .ptr (n + 4) 0), (19, A3 (Ex d.revs (HK d r) r)), (12, AA 0)] G (fun m => n + 5 ≤ m) ?_ (fun m hm => ?_)
 · rw [hX, hV]
   simp [go_sem, AF.flat, AM.flat]
   refine PC.use (by simpa [BF.enc] using k45) ?_
   simp [go_sem, Fz.same, hm]
 refine B5 0 [(4, X), (5, .iptr [AA rev]), (6, C), (7, V), (8, .ptr (n + 4) 0), (19, A3 (Ex d.revs (HK d r) r))] G (fun m => n + 5 ≤ m) (AH ?_) (fun m hm => ?_)
 · simp [go_sem, Fz.same, hm]
 refine Bn 0 [(4, X), (6, C), (8, .ptr (n + 4) 0), (19, A3 (Ex d.revs (HK d r) r)), (20, .fn (.func 46) [] [V, .iptr [AA rev]])] G (fun m => n + 5 ≤ m) ?_ (fun m hm => ?_)
 · simp [go_sem, Fz.same, hm]
 refine AH ?_
 rw [hX, hC, hV]
 simp [go_sem, AF.flat, AM.flat]
 refine SC.use (by simpa [BG.enc, AI.enc, AF.flat, AM.flat] using k49 G m) ?_
 rintro v H' n' ⟨rfl, rfl, rfl⟩
 simp [go_sem, hGa, FX, AI.enc, AF.flat, AM.flat, AC]
 exact Av ho (AL (fun j z e => by have := hHb j z e; omega) hGk) rfl (LA n R 0)
section
variable (u : AF → Bool) (w : Bool) (sc : BG)
theorem JS {α : Type} (f : α → Nat) : ∀ l : List α, (∀ x ∈ l, f x = 0) → (l.map f).sum = 0
 | [], _ => rfl
 | x :: l, h => by rw [List.map_cons, List.sum_cons, h x (by simp), JS f l fun y hy => h y (by simp [hy])]
def PU : Nat → List AE → Prop
 | 0, _ => True
 | N + 1, l => ∀ x ∈ l, u x.head = false ∧ (x.kind = 6 → PU N x.flow) ∧ (x.kind = 7 → ∀ r ∈ x.rows, u r.head = false ∧ ∀ c ∈ r.cells, u c.head = false ∧ PU N c.flow)
def S3 (N : Nat) (x : AE) : Prop := u x.head = false ∧ (x.kind = 6 → PU u N x.flow) ∧ (x.kind = 7 → ∀ r ∈ x.rows, u r.head = false ∧ ∀ c ∈ r.cells, u c.head = false ∧ PU u N c.flow)
theorem Mi {N : Nat} (x : AE) (t : ByteArray) (H : S3 u N x) : S3 u N (.mk x.kind x.code x.id t x.head x.flow x.rows) := by cases x; exact H
theorem Ig : ∀ {N : Nat} {l : List AE}, PU u N l → PU u N (AU l)
 | 0, _, _ => trivial
 | N + 1, l, H => by
  unfold AU Cz
  rw [AE.nrmL_eq]
  refine Ft (p := S3 u N) (Mi u) _ _ (fun y hy => by cases hy) fun y hy => ?_
  obtain ⟨x, hx, rfl⟩ := List.mem_map.1 hy
  obtain ⟨a, b, c⟩ := H x hx
  obtain ⟨e0, _, _, _, e1, e2, e3⟩ := AE.nrm_fields x
  refine ⟨by rw [e1]; exact a, fun k => by rw [e0] at k; rw [e2]; exact Ig (b k), fun k => ?_⟩
  rw [e0] at k
  rw [e3]; intro r hr
  obtain ⟨r0, h0, rfl⟩ := List.mem_map.1 (List.mem_filter.1 hr).1
  obtain ⟨c1, c2⟩ := c k r0 h0
  rw [(AS.nrm_cells r0).1, (AS.nrm_cells r0).2]
  refine ⟨c1, fun c hc => ?_⟩
  obtain ⟨c0, h1, rfl⟩ := List.mem_map.1 hc
  rw [(AK.nrm_all c0).1, (AK.nrm_all c0).2.2]
  exact ⟨(c2 c0 h1).1, Ig (c2 c0 h1).2⟩
theorem Js {N : Nat} {l : List AE} (a b : Int) (H : PU u (N + 1) l) : PU u (N + 1) (AR l a b).1 := by
 have d : ∀ {l : List AE} (cu : Int), PU u (N + 1) l → PU u (N + 1) (Am l cu).1 ∧ PU u (N + 1) (Am l cu).2 := fun cu H => Ga (p := S3 u N) (Mi u) _ cu H _ (Nat.le_refl _)
 unfold AR
 split
 · exact Ig u (d a (d b H).1).2
 · intro x hx; cases hx
theorem I1 : ∀ (N : Nat) (id : Int) (l : List AE) (mid : Bool), PU u N l → cw u w sc N id l mid = 0
 | 0, _, _, _, _ => rfl
 | N + 1, id, l, mid, H => by
  have P : ∀ mid l, PU u (N + 1) l → E8 u w (cw u w sc N) mid l = 0 := fun mid l H => by
   have o : ∀ k, Fh w mid (0 * k) = 0 := fun k => by unfold Fh; split <;> simp
   have o1 : Fh w mid 0 = 0 := by unfold Fh; split <;> simp
   refine JS _ l fun x hx => ?_
   obtain ⟨a, b, d⟩ := H x hx
   unfold Ss LP
   rw [show DK (u x.head) = 0 by simp [DK, a], o, Nat.zero_add]
   split
   · rename_i k; exact I1 N _ _ _ (b k)
   · split
     · rename_i k
       refine JS _ _ fun r hr => ?_
       obtain ⟨r1, r3⟩ := d k r hr
       unfold QV
       rw [show DK (u r.head) = 0 by simp [DK, r1], o1, Nat.zero_add]
       refine JS _ _ fun c hc => ?_
       obtain ⟨c1, c2⟩ := r3 c hc
       unfold QT
       rw [show DK (u c.head) = 0 by simp [DK, c1], o1, Nat.zero_add]
       exact I1 N _ _ _ c2
     · rfl
  rw [cw]
  split
  · rw [P false _ (Js u 0 sc.a H), P true _ (Js u sc.a sc.b H), P false _ (Js u sc.b (Ap l).1 H)]
  · exact P mid l H
end
theorem Iu {h : AF} {x : Int} (hx : x ∉ h.all) : h.uses x = false := by
 simp only [AF.uses, decide_eq_false_iff_not, JG]
 simp only [AF.all, List.mem_cons, List.mem_append, List.mem_map, not_or, not_exists, not_and] at hx
 rintro (⟨_, h2⟩ | ⟨d, h1, h2⟩ | ⟨d, h1, h2⟩)
 · exact hx.1 h2.symm
 · exact hx.2.1 d h1 h2
 · exact hx.2.2 d h1 h2
theorem SI : ∀ l : List AE, AE.usL l = l.flatMap AE.us
 | [] => by rw [AE.usL]; rfl
 | x :: l => by rw [AE.usL, SI l]; rfl
theorem QD : ∀ l : List AS, AS.usL l = l.flatMap AS.us
 | [] => by rw [AS.usL]; rfl
 | x :: l => by rw [AS.usL, QD l]; rfl
theorem QC : ∀ l : List AK, AK.usL l = l.flatMap AK.us
 | [] => by rw [AK.usL]; rfl
 | x :: l => by rw [AK.usL, QC l]; rfl
theorem QE (v : Int) : ∀ (N : Nat) {l : List AE}, v ∉ AE.usL l → PU (fun h => h.uses v) N l
 | 0, _, _ => trivial
 | N + 1, l, H => fun x hx => by
  rw [SI, List.mem_flatMap] at H
  have h1 : v ∉ AE.us x := fun h => H ⟨x, hx, h⟩
  cases x with
  | mk k c i t h f r =>
   rw [AE.us, List.mem_append, not_or] at h1
   obtain ⟨h1, h2⟩ := h1
   refine ⟨Iu h1, fun k6 => ?_, fun k7 r0 hr => ?_⟩
   · have k6 : k = 6 := k6
     rw [if_pos k6] at h2
     exact QE v N h2
   · have k7 : k = 7 := k7
     rw [if_neg (by omega), if_pos k7, QD, List.mem_flatMap] at h2
     have h3 : v ∉ AS.us r0 := fun h => h2 ⟨r0, hr, h⟩
     cases r0 with
     | mk rh rc =>
      rw [AS.us, List.mem_append, not_or, QC, List.mem_flatMap] at h3
      refine ⟨Iu h3.1, fun c0 hc => ?_⟩
      have h4 : v ∉ AK.us c0 := fun h => h3.2 ⟨c0, hc, h⟩
      cases c0 with
      | mk ci ch cf =>
       rw [AK.us, List.mem_append, not_or] at h4
       exact ⟨Iu h4.1, QE v N h4.2⟩
theorem Ou (sc : BG) (N : Nat) (d : AI) (revs : List BF) (v : Int) : (BP (Bz (Dj v)) sc N d revs (0, 0)).2 = (wr (cw (fun h => h.uses v) true sc N 0 d.flow false), wr (cw (fun h => h.uses v) false sc N 0 d.flow false + DK (d.«end».uses v) : Nat)) := by
 have h := OO v sc N 0 d.flow false (0, 0)
 have e := PE v (AN (Bz (Dj v)) sc N 0 d.flow false (0, 0)).2 d.«end» false 1 (by omega)
 have t := h.trans e
 obtain ⟨t1, t2, t3, t4⟩ := t
 have z : (BP (Bz (Dj v)) sc N d revs (0, 0)).2 = Dj v (AN (Bz (Dj v)) sc N 0 d.flow false (0, 0)).2 ⟨d.«end», false, 1⟩ := rfl
 rw [z]
 refine Prod.ext ?_ ?_
 · rw [← t3 rfl, t1]; simp [Fh]
 · rw [← t4 rfl, t2]; simp [Fh]
def gR (rev nx : Int) (mid : Bool) (h : AF) : AF := if mid then Hj (fun y => y == rev) nx h else h
theorem JN (rev nx : Int) : KL rev nx = gF (gR rev nx) := by funext s p; rfl
theorem Jr : ∀ (N : Nat) (l : List AE), PU (fun _ => false) N l
 | 0, _ => trivial
 | N + 1, _l => fun _x _ => ⟨rfl, fun _ => Jr N _, fun _ _r _ => ⟨rfl, fun _c _ => ⟨rfl, Jr N _⟩⟩⟩
def CN (N : Nat) (d : AI) (rev : Int) (sc : BG) (nx : BF) : AI := (BP (KL rev nx.id) sc N d (Ex d.revs (HK d nx) nx) ()).1
theorem Ry {r : BF} (h : Cc r = 0) : 1 ≤ r.id := by
 unfold Cc at h
 split at h
 · cases h
 · omega
set_option maxHeartbeats 1000000 in
theorem SB {N : Nat} {d : AI} {K : Nat} (hd : JK N d) (hl : EZ (LK (BU [] (d.revs.map (·.id)))) K N d.flow) (he : LK (BU [] (d.revs.map (·.id))) d.«end») (rev : Int) (sc : BG) (nx : BF) (h1 : Cc nx = 0) (h2 : (B8 d.revs nx.id).2 = false)
 (c0 : (A9 N d rev sc).2.2 = 0) (c1 : (A9 N d rev sc).1 ≠ 0) (c2 : (A9 N d rev sc).2.1 ≠ 0) :
 A9 N (CN N d rev sc nx).normal nx.id sc = ((A9 N d rev sc).1, 0, 0) ∧ A9 N (CN N d rev sc nx).normal rev sc = (0, (A9 N d rev sc).2.1, 0) := by
 obtain ⟨m2, hm2⟩ : ∃ m2, m2 = BU [] (d.revs.map (·.id)) := ⟨_, rfl⟩
 rw [← hm2] at hl he
 have hk := hd.flow
 rw [← hm2] at hk
 have hn : nx.id ∉ m2 := fun h => by
  rw [hm2, HS] at h
  rcases h with h | h
  · cases h
  · obtain ⟨r, hr, e⟩ := List.mem_map.1 h
    rw [Le ⟨r, hr, e⟩] at h2; cases h2
 have n0 : nx.id ≠ 0 := by have := Ry h1; omega
 have hS : A9 N d rev sc = A9 N d rev sc := rfl
 rw [A9] at c0 c1 c2
 by_cases g1 : (CW d sc.id).isSome = false
 · rw [if_pos g1] at c0; cases c0
 by_cases g2 : C5 sc (((CW d sc.id).map Fl.items).getD [])
 · rw [if_neg g1, if_pos g2] at c0; cases c0
 by_cases g3 : (B8 d.revs rev).2 = false
 · rw [if_neg g1, if_neg g2, if_pos g3] at c0; cases c0
 rw [if_neg g1, if_neg g2, if_neg g3] at c1 c2
 have eD : A9 N d rev sc = ((BP (Bz (Dj rev)) sc N d d.revs (0, 0)).2.1, (BP (Bz (Dj rev)) sc N d d.revs (0, 0)).2.2, 0) := by rw [A9, if_neg g1, if_neg g2, if_neg g3]
 obtain ⟨r0, hr0, er0⟩ := Qd (by simpa using g3 : (B8 d.revs rev).2 = true)
 have rv0 : rev ≠ 0 := by have := OY hd.revs r0 hr0; omega
 have hne : nx.id ≠ rev := fun e => hn (by rw [e, ← er0, hm2, HS]; exact .inr (List.mem_map_of_mem hr0))
 obtain ⟨fl, hfl⟩ := Option.ne_none_iff_exists'.1 (by simpa using g1 : CW d sc.id ≠ none)
 rw [hfl] at g2
 have hflm := List.mem_of_find?_eq_some hfl
 have hfli : fl.id = sc.id := by have := List.find?_some hfl; simpa using this
 have hids : ((DN d).map Fl.id).Nodup := by
  have s1 := PN DO hl
  have : ((DN d).map Fl.id).Sublist (0 :: FK N d.flow) := s1.cons_cons _
  refine this.nodup (List.nodup_cons.2 ⟨fun h => ?_, hd.nodup⟩)
  have := (hd.ids _ h).1
  omega
 have hrange : ∀ f ∈ CA 0 d.flow DO, f.id = sc.id → ¬ C5 sc f.items := fun f hf e => by
  have : f = fl := Mj hids f hf fl hflm (by rw [e, hfli])
  rw [this]; exact g2
 have h0 : (0 : Int) ∉ FK N d.flow := fun h => by have := (hd.ids _ h).1; omega
 obtain ⟨L, hL⟩ : ∃ L, L = AU (AN (gF (gR rev nx.id)) sc N 0 d.flow false ()).1 := ⟨_, rfl⟩
 have C := fun (u v : AF → Bool) (w : Bool) (hw : ∀ h, LK m2 h → ∀ mid, Fh w mid (DK (u (gR rev nx.id mid h))) = Fh w mid (DK (v h))) => PG (gR rev nx.id) sc u v w hw N 0 d.flow DO hk hl h0 hd.nodup hrange
 rw [← hL] at C
 have z := fun w => I1 (fun _ => false) w sc N 0 d.flow false (Jr N d.flow)
 have C1 := C (fun h => h.uses nx.id) (fun h => h.uses rev) true fun h hh mid => by
  cases mid
  · rfl
  · simp only [gR, if_true]; rw [SK hh.2 n0 hn]
 have C2 := C (fun h => h.uses nx.id) (fun _ => false) false fun h hh mid => by
  cases mid
  · simp only [gR, Bool.false_eq_true, if_false]; rw [QF hh.2 n0 hn]
  · rfl
 have C3 := C (fun h => h.uses rev) (fun _ => false) true fun h hh mid => by
  cases mid
  · rfl
  · simp only [gR, if_true]; rw [SJ hne]
 have C4 := C (fun h => h.uses rev) (fun h => h.uses rev) false fun h hh mid => by
  cases mid
  · rfl
  · rfl
 rw [z] at C2 C3
 have FL := Jk (gR rev nx.id) sc N 0 d.flow DO DO hk hl h0 hd.nodup
 rw [← hL] at FL
 obtain ⟨W, hW⟩ : ∃ W, W = CN N d rev sc nx := ⟨_, rfl⟩
 have W1 : W.normal.flow = L := by rw [hW, hL]; unfold CN AI.normal BP; rw [JN]
 have W2 : W.normal.«end» = d.«end» := by rw [hW]; unfold CN AI.normal BP; rw [JN]; rfl
 have W3 : W.revs = Ex d.revs (HK d nx) nx := by rw [hW]; rfl
 have W4 : W.norm1.flow = L ∧ W.norm1.«end» = d.«end» := ⟨W1, W2⟩
 have found : ∀ (r : BF), r ∈ W.revs → r.id ≠ 0 → r.id ∈ AE.usL L ++ d.«end».all → (B8 W.normal.revs r.id).2 = true := fun r hr hr0 hu => by
  refine Le ⟨r, ?_, rfl⟩
  show r ∈ W.revs.filter _
  rw [List.mem_filter]
  refine ⟨hr, Oq hr0 ?_⟩
  rw [W4.1, W4.2]; exact hu
 have cD := Ou sc N d d.revs rev
 rw [cD] at c1 c2
 dsimp only at c1 c2
 have iNe : cw (fun h => h.uses rev) true sc N 0 d.flow false ≠ 0 := fun e => by rw [e] at c1; exact c1 rfl
 have flR : ∃ f', CW W.normal sc.id = some f' ∧ ¬ C5 sc f'.items := by
  cases hf : CW W.normal sc.id with
  | none =>
   exfalso
   have := NF sc (fun h => h.uses nx.id) N 0 L DO fun f hf' e => by
    have hno := List.find?_eq_none.1 hf f (by show f ∈ CA 0 W.normal.flow DO; rw [W1]; exact hf')
    simp [e] at hno
   rw [this] at C1; exact iNe C1.symm
  | some f' =>
   refine ⟨f', rfl, ?_⟩
   have m1 := List.mem_of_find?_eq_some hf
   have m2 : f'.id = sc.id := by have := List.find?_some hf; simpa using this
   obtain ⟨f, q1, q2, q3, M, q4⟩ := FL f' (by have : f' ∈ CA 0 W.normal.flow DO := m1; rw [W1] at this; exact this) m2
   have hb := hrange f q1 q2
   unfold C5 at hb ⊢
   rw [Co q4, q3]
   have hu : 0 ≤ Au f.items := by rw [← FG (fun _ => false)]; omega
   have hr : (Ap f.items).1 ≤ Au f.items := by unfold Ap; split <;> dsimp only <;> omega
   dsimp only
   omega
 obtain ⟨f', hf', hrb⟩ := flR
 have cnt : ∀ v, (B8 W.normal.revs v).2 = true → A9 N W.normal v sc = (wr (cw (fun h => h.uses v) true sc N 0 L false), wr (cw (fun h => h.uses v) false sc N 0 L false + DK (d.«end».uses v) : Nat), 0) := fun v hv => by
  rw [A9, if_neg (by rw [hf']; simp), if_neg (by rw [hf']; exact hrb), if_neg (by rw [hv]; simp), Ou, W1, W2]
 rw [← hW, eD, cD]
 dsimp only
 constructor
 · rw [cnt nx.id (found nx (by rw [W3]; simp [Ex]) n0 (List.mem_append_left _ (Classical.byContradiction fun h => by
    have := I1 (fun h => h.uses nx.id) true sc N 0 L false (QE nx.id N h)
    rw [this] at C1; exact iNe C1.symm))), C1, C2, QF he.2 n0 hn]
   rfl
 · have hrev : rev ∈ AE.usL L ++ d.«end».all := Classical.byContradiction fun h => by
    rw [List.mem_append, not_or] at h
    have e1 := I1 (fun h => h.uses rev) false sc N 0 L false (QE rev N h.1)
    rw [e1] at C4
    rw [← C4, Iu h.2] at c2
    exact c2 rfl
   have := found r0 (by rw [W3]; unfold Ex; rcases List.mem_append.1 (by rw [List.take_append_drop]; exact hr0 : r0 ∈ d.revs.take (HK d nx) ++ d.revs.drop (HK d nx)) with h | h <;> simp [h]) (by rw [er0]; exact rv0) (by rw [er0]; exact hrev)
   rw [er0] at this
   rw [cnt rev this, C3, C4]
   rfl
theorem Pr {F : Nat → Int} : ∀ {n : Nat}, (∀ i, i < n → F i = 0) → Ev F n = 0
 | 0, _ => rfl
 | n + 1, h => by rw [Ev, if_pos (Pr fun i hi => h i (by omega))]; exact h n (by omega)
theorem Sp {F : Nat → Int} {i : Nat} (h : GO F i = 0) : 1 ≤ F i ∧ F i ≤ 1073741824 ∧ (0 < i → F (i - 1) < F i) := by
 unfold GO at h
 by_cases c1 : 1 ≤ F i ∧ F i ≤ 1073741824
 · refine ⟨c1.1, c1.2, fun hi => ?_⟩
   rw [if_neg (by simpa using c1)] at h
   by_cases c2 : F i = F (i - 1)
   · rw [if_pos ⟨hi, c2⟩] at h; cases h
   · rw [if_neg fun g => c2 g.2] at h
     by_cases c3 : F i < F (i - 1)
     · rw [if_pos ⟨hi, c3⟩] at h; cases h
     · omega
 · rw [if_pos c1] at h; cases h
theorem Pe {l : List BF} (h : DT l = 0) : Cs l = 0 := by
 have hlen := KM h
 have h2 : Ev (G6 l) (min l.length 256) = 0 := by
  have h9 := h
  unfold DT at h9
  have hl : ¬ (256 : Int) < l.length := by omega
  simp [Bo, hl] at h9
  exact Classical.byContradiction fun g => g (h9 g)
 rw [Cs, if_neg (by omega)]
 refine Pr fun i hi => ?_
 have h3 := Jd h2 i (by omega)
 unfold G6 at h3
 unfold FW
 rw [List.getElem?_eq_getElem hi] at h3 ⊢
 dsimp only at h3 ⊢
 have e1 := Cn h3
 rw [Bo, if_pos e1] at h3
 have e2 := Cn h3
 rw [Bo, if_pos e2] at h3
 have e3 := Cn h3
 obtain ⟨p1, p2, p3⟩ := Sp e1
 try dsimp only at p1 p2 p3
 rw [List.getElem?_eq_getElem hi] at p1 p2 p3
 try dsimp only at p1 p2 p3
 have ha : D6 l[i].author = true := by
  cases hA : D6 l[i].author with
  | true => rfl
  | false => rw [hA] at e2; simp at e2
 have ht : 0 ≤ l[i].time ∧ l[i].time ≤ 1099511627776 := by
  by_cases c : 0 ≤ l[i].time ∧ l[i].time ≤ 1099511627776
  · exact c
  · simp [c] at e3
 simp only [D6, Bool.and_eq_true, decide_eq_true_eq] at ha
 have hr : Cc l[i] = 0 := by
  unfold Cc
  rw [if_neg (by omega), if_neg (by omega), if_neg (by omega), if_neg (by rw [ha.2]; decide), if_neg (by omega)]
 rw [if_pos hr]
 by_cases c : i = 0
 · rw [if_pos c]
 · rw [if_neg c]
   have hi1 : i - 1 < l.length := by omega
   have p3 := p3 (by omega)
   rw [List.getElem?_eq_getElem hi1] at p3 ⊢
   try dsimp only at p3 ⊢
   unfold HU
   rw [if_neg (by omega), if_pos p3]; simp; omega
theorem PL {m2 : List Int} {B : Nat} : ∀ {N : Nat} {l : List AE}, EZ AF.sized B N l → Lz N l → Oy m2 N l → LT (LK m2) 150 150000 N l
 | 0, _, h, _, _ => h.elim
 | N + 1, l, hl, hf, hk => by
  obtain ⟨_, _, h3⟩ := Dl.1 hl
  obtain ⟨f1, f2⟩ := hf
  refine PT.2 ⟨f1, ?_, fun x hx => ?_⟩
  · have := J5 l fun x hx => (f2 x hx).1.1
    omega
  · obtain ⟨a1, a2, a3, a4⟩ := h3 x hx
    obtain ⟨⟨b1, b2⟩, b3, b4⟩ := f2 x hx
    obtain ⟨c1, c2, c3, _, c4⟩ := hk x hx
    refine ⟨⟨a1, c2⟩, PL a2 b3 c3, by omega, fun r hr => ?_⟩
    obtain ⟨u1, u2, u3⟩ := a4 r hr
    obtain ⟨v1, v2⟩ := b4 r hr
    obtain ⟨w1, w2⟩ := c4 r hr
    exact ⟨⟨u1, w1.1⟩, by omega, fun c hc => ⟨⟨(u3 c hc).1, (w2 c hc).1⟩, PL (u3 c hc).2 (v2 c hc) (w2 c hc).2⟩⟩
theorem Sq (l : List BF) (i : Nat) (r : BF) : (Ex l i r).length ≤ l.length + 1 := by unfold Ex; simp; omega
theorem UQ {B N : Nat} (_hB : B ≤ 1048576) {d : AI} (hl : EZ AF.sized B N d.flow) (he : d.«end».sized) (hs : d.settings.sized) (hd : JK N d) (hf : Lz N d.flow) (rev : Int) (sc : BG) (nx : BF) :
 PC 13 [d.enc, AA rev, sc.enc] (.tup [AA (A9 N d rev sc).1, AA (A9 N d rev sc).2.1, AA (A9 N d rev sc).2.2]) ∧
 (∃ S, PC 15 [d.enc, AA rev, sc.enc, nx.enc] (.tup [(DM d rev nx (A9 N d rev sc) S (CN N d rev sc nx).normal).1.enc, AA (DM d rev nx (A9 N d rev sc) S (CN N d rev sc nx).normal).2])) ∧
 (∀ v, PC 13 [(CN N d rev sc nx).normal.enc, AA v, sc.enc] (.tup [AA (A9 N (CN N d rev sc nx).normal v sc).1, AA (A9 N (CN N d rev sc nx).normal v sc).2.1, AA (A9 N (CN N d rev sc nx).normal v sc).2.2])) ∧
 (Cc nx = 0 → (B8 d.revs nx.id).2 = false → (A9 N d rev sc).2.2 = 0 → (A9 N d rev sc).1 ≠ 0 → (A9 N d rev sc).2.1 ≠ 0 →
   A9 N (CN N d rev sc nx).normal nx.id sc = ((A9 N d rev sc).1, 0, 0) ∧ A9 N (CN N d rev sc nx).normal rev sc = (0, (A9 N d rev sc).2.1, 0)) := by
 obtain ⟨m2, hm2⟩ : ∃ m2, m2 = BU [] (d.revs.map (·.id)) := ⟨_, rfl⟩
 have hrl := KM hd.revs
 have hm : m2.length ≤ 999 := by
  have := Nx (d.revs.map (·.id)) []
  rw [hm2]; simp at this; omega
 have h1 : EZ (LK m2) 150000 N d.flow := NL hl hf (hm2 ▸ hd.flow)
 have h1' : LT (LK m2) 150 150000 N d.flow := PL hl hf (hm2 ▸ hd.flow)
 have h2 : LK m2 d.«end» := ⟨he, hm2 ▸ hd.end⟩
 have hsz := h1.sized (fun x g => g.1) (by omega)
 have hdp : DG N d.flow := Hf (hm2 ▸ hd.flow) h1
 have hfl : ∀ {D : AI}, D.flow.length ≤ 1048576 → AE.sizedL D.flow → ∀ fl, CW D sc.id = some fl → fl.items.length ≤ 1048576 ∧ ∀ x ∈ fl.items, x.text.size ≤ 1048576 := fun a b fl e => by
  have o := IX a b fl (List.mem_of_find?_eq_some e)
  exact ⟨o.1, AE.sizedL_text o.2⟩
 have w1 := I2 (W := (BP (Bz (Dj rev)) sc N d d.revs (0, 0)).1) (by omega) (by omega) (F6 (fun s p g => g) N 0 d.flow false (0, 0) h1).1 h2 (by show d.revs.length ≤ _; omega) hs
 have Sr := c13 (LK m2) 150000 (by omega) (fun h g => ⟨⟨g.1, OL g⟩, g.1⟩) N d rev sc h1 h2 (by omega) (hfl hsz.1 hsz.2) w1.1 w1.2.1 w1.2.2
 have w2 := I2 (W := (BP (Bz sdF) sc N d d.revs []).1) (by omega) (by omega) (F6 (fun s p g => g) N 0 d.flow false [] h1).1 h2 (by show d.revs.length ≤ _; omega) hs
 have lW : LT (LK (nx.id :: m2)) (3 * 150) (2 * 150000) N (CN N d rev sc nx).flow := by
  unfold CN BP
  rw [JN]
  refine LO (gR rev nx.id) sc (fun h mid g => ?_) (fun h g => HZ g) N 0 d.flow false hdp h1'
  cases mid
  · exact HZ g
  · exact UM g
 have eW : (CN N d rev sc nx).«end» = d.«end» := by unfold CN BP; rw [JN]; rfl
 have rW : (CN N d rev sc nx).revs.length ≤ 1048576 := by
  have := Sq d.revs (HK d nx) nx
  show (Ex d.revs (HK d nx) nx).length ≤ _
  omega
 have w3 := I2 (W := CN N d rev sc nx) (m2 := nx.id :: m2) (K := 300000) (by simp; omega) (by omega) (NQ (by omega) (by omega) lW) (by rw [eW]; exact HZ h2) rW hs
 refine ⟨Sr, ⟨(BP (Bz sdF) sc N d d.revs []).2, ?_⟩, fun v => ?_, SB hd (hm2 ▸ h1) (hm2 ▸ h2) rev sc nx⟩
 · refine c15g d rev sc nx (A9 N d rev sc) _ _ Sr (by omega) (fun k H n hn hh => d36 (v43g k) (LK m2) 150000 (by omega) (fun h g => ⟨g.1, g.1⟩) N d [] h1 h2 w2.1 w2.2.1 w2.2.2 hn hh) (Pe hd.revs) (fun e c => ?_) (fun H n => ?_)
   · have : (B8 d.revs rev).2 = false := by rw [c]; rfl
     unfold A9 at e
     split at e
     · cases e
     · split at e
       · cases e
       · first | cases e | (rw [if_pos this] at e; cases e)
   · have := d49 (sc := sc) (v46g 0 nx rev) (LK m2) 150000 (by omega) (fun h g => ⟨⟨g.1, by have := g.2.dlen; omega⟩, g.1⟩) N d (Ex d.revs (HK d nx) nx) () h1 h2 w3.1 w3.2.1 w3.2.2 (H := H) (n := n) (Nat.zero_le _) (by rintro o y ⟨⟩)
     rw [up0] at this
     exact this
 · have hR := NQ (K := 300000) (by omega) (by omega) (ID lW)
   have hRs := hR.sized (fun x g => g.1) (by omega)
   have hRr : (CN N d rev sc nx).normal.revs.length ≤ 1048576 := Nat.le_trans (List.length_filter_le _ _) rW
   have w4 := I2 (W := (BP (Bz (Dj v)) sc N (CN N d rev sc nx).normal (CN N d rev sc nx).normal.revs (0, 0)).1) (m2 := nx.id :: m2) (K := 900000) (by simp; omega) (by omega) (F6 (fun s p g => g) N 0 (CN N d rev sc nx).normal.flow false (0, 0) hR).1 (by show LK _ (CN N d rev sc nx).«end»; rw [eW]; exact HZ h2) hRr hs
   exact c13 (LK (nx.id :: m2)) 300000 (by omega) (fun h g => ⟨⟨g.1, OL g⟩, g.1⟩) N _ v sc hR (by show LK _ (CN N d rev sc nx).«end»; rw [eW]; exact HZ h2) hRr (hfl hRs.1 hRs.2) w4.1 w4.2.1 w4.2.2
theorem Qu {d : AI} {rev : Int} {r : BF} {c : Int × Int × Int} {S : Eb} {R : AI} (h : (DM d rev r c S R).2 = 0) : (DM d rev r c S R).1 = R ∧ c.2.2 = 0 ∧ Cc r = 0 ∧ (B8 d.revs r.id).2 = false ∧ c.1 ≠ 0 ∧ c.2.1 ≠ 0 := by
 unfold DM at h ⊢
 by_cases a1 : c.2.2 = 0
 · rw [if_neg (by simpa using a1)] at h ⊢
   by_cases a2 : Cc r = 0
   · rw [if_neg (by simpa using a2)] at h ⊢
     cases a3 : (B8 d.revs r.id).2 with
     | true => rw [a3, if_pos rfl] at h; cases h
     | false =>
      rw [a3] at h
      rw [if_neg (by decide)] at h ⊢
      by_cases a4 : 256 ≤ d.revs.length
      · rw [if_pos a4] at h; cases h
      · rw [if_neg a4] at h ⊢
        by_cases a5 : c.1 = 0 ∨ c.2.1 = 0
        · rw [if_pos a5] at h; cases h
        · rw [if_neg a5] at h ⊢
          by_cases a6 : S.any (FD rev) = true
          · rw [if_pos a6] at h; cases h
          · rw [if_neg a6]
            exact ⟨rfl, a1, a2, rfl, fun e => a5 (.inl e), fun e => a5 (.inr e)⟩
   · rw [if_pos (by simpa using a2)] at h; exact absurd h a2
 · rw [if_pos (by simpa using a1)] at h; exact absurd h a1
set_option maxHeartbeats 4000000 in
theorem splitParts (d : AI) (c : TM) {B N : Nat} (hB : B ≤ 1048576) (hd : d.sizedT B N) : PC 4 [d.enc, c.enc] (.bool true) := by
 intro h n
 refine ED Tryz.func4 rfl fun ho => ?_
 have hHb := ho.lt
 obtain ⟨X, hX⟩ : ∃ X : SV, X = .iptr ([AG d.flow] ++ d.«end».flat ++ [A3 d.revs] ++ d.settings.flat) := ⟨_, rfl⟩
 obtain ⟨Y, hY⟩ : ∃ Y : SV, Y = .iptr [AA c.rev, AA c.sc.id, AA c.sc.a, AA c.sc.b, AA c.next.id, .str c.next.author, AA c.next.time] := ⟨_, rfl⟩
 refine Ae 1 [(2, X), (3, Y)] h n ?_ (fun m hm => ?_)
 · rw [hX, hY]
   simp [go_sem, AI.enc, TM.enc, AF.flat, AM.flat]
   exact ⟨by omega, ⟨Ac (ho.none (by omega)) (by simp [hset]), Ac (ho.none (by omega)) (by simp [hset])⟩, fun j y e => by have := hHb j y e; simp only [hset]; grind⟩
 refine AX 0 (α := Unit) (fun _ => [(2, X), (3, Y)]) (fun _ => h) (fun b m => n ≤ m ∧ JK N d ∧ Lz N d.flow) ?_ (fun _ m hm => ?_)
 · refine BM 0 (α := Bx) (fun b => [(2, X), (3, Y), (29, .bool b.b)]) (fun _ => h) (fun b m => n ≤ m ∧ (b.b = false → JK N d ∧ Lz N d.flow)) ?_ (fun b m hm => ?_)
   · rw [hX, hY]
     simp [go_sem, AF.flat, AM.flat]
     refine PC.use k11 ?_
     simp [go_sem]
     refine TC.use (by simpa [AI.enc, AF.flat, AM.flat] using t12s d hB hd) ?_
     rintro v ⟨b, rfl, hb⟩
     cases b with
     | false => simp [go_sem, Fz.same, hm]; exact ⟨⟨true⟩, by simp, rfl⟩
     | true => simp [go_sem, Fz.same, hm]; exact ⟨⟨_⟩, fun _ => hb rfl, rfl⟩
   obtain ⟨b⟩ := b
   obtain ⟨hm, hb⟩ := hm
   dsimp only at hb ⊢
   cases b with
   | true =>
    refine AH ?_
    simp [go_sem]
    refine PC.use k11 ?_
    simp [go_sem]
    exact BC ho rfl rfl
   | false =>
    refine AH ?_
    simp [go_sem, Fz.same, hm]
    exact hb rfl
 obtain ⟨hm, h1, h2⟩ := hm
 obtain ⟨Sr, ⟨S, k15⟩, kR, hlaw⟩ := UQ hB hd.flow hd.end hd.settings.tosized h1 h2 c.rev c.sc c.next
 obtain ⟨q, hq⟩ : ∃ q, q = A9 N d c.rev c.sc := ⟨_, rfl⟩
 rw [← hq] at Sr k15 hlaw
 obtain ⟨R, hR⟩ : ∃ R, R = (CN N d c.rev c.sc c.next).normal := ⟨_, rfl⟩
 rw [← hR] at k15 kR hlaw
 have ok := fun h => Qu (d := d) (rev := c.rev) (r := c.next) (c := q) (S := S) (R := R) h
 obtain ⟨z, hz⟩ : ∃ z, z = DM d c.rev c.next q S R := ⟨_, rfl⟩
 rw [← hz] at k15 ok
 refine Ae 0 [(2, X), (3, Y), (5, AA q.1), (6, AA q.2.1), (7, AA q.2.2)] h n ?_ (fun m hm => ?_)
 · rw [hX, hY]
   simp [go_sem, AF.flat, AM.flat]
   refine PC.use (by simpa [AI.enc, BG.enc, AF.flat, AM.flat] using Sr) ?_
   simp [go_sem, Fz.same, hm]
 have hHm : ∀ j y, h j = some y → j < m := fun j y e => by have := hHb j y e; omega
 refine Ae 1 [(2, X), (3, Y), (5, AA q.1), (6, AA q.2.1), (7, AA q.2.2), (8, .iptr ([AG z.1.flow] ++ z.1.«end».flat ++ [A3 z.1.revs] ++ z.1.settings.flat)), (9, AA z.2)] h n ?_ (fun m hm => ?_)
 · rw [hX, hY]
   simp [go_sem, AF.flat, AM.flat]
   refine PC.use (by simpa [AI.enc, BG.enc, BF.enc, AF.flat, AM.flat] using k15) ?_
   simp [go_sem, Fz.same, AC, Aq]
   exact ⟨by omega, Ac (Af hHm (Nat.le_refl _)) (AC _ _ _), AL hHm AB⟩
 refine B5 0 [(2, X), (3, Y), (5, AA q.1), (6, AA q.2.1), (7, AA q.2.2), (8, .iptr ([AG z.1.flow] ++ z.1.«end».flat ++ [A3 z.1.revs] ++ z.1.settings.flat))] h (fun m => n ≤ m ∧ z.2 = 0) (AH ?_) (fun m hm => ?_)
 · by_cases e : z.2 = 0
   · simp [go_sem, e, Fz.same, hm]
   · simp [go_sem, e]
     exact BC ho rfl rfl
 obtain ⟨hm, e0⟩ := hm
 obtain ⟨z1, q0, r0, f0, q1, q2⟩ := ok e0
 obtain ⟨l1, l2⟩ := hlaw r0 f0 q0 q1 q2
 have kA := kR c.next.id
 have kB := kR c.rev
 rw [l1] at kA
 rw [l2] at kB
 rw [z1]
 refine AH ?_
 rw [hX, hY]
 simp [go_sem, AF.flat, AM.flat]
 refine PC.use (by simpa [AI.enc, BG.enc, AF.flat, AM.flat] using kA) ?_
 simp [go_sem]
 refine PC.use (by simpa [AI.enc, BG.enc, AF.flat, AM.flat] using kB) ?_
 simp [go_sem, q0]
 exact BC ho rfl rfl
end Go.Proofs.YtgakninlhfkkmaaGreat.Sh
namespace Go.Proofs.YtgakninlhfkkmaaGreat.splitParts
open Go.ChangeShapes Go.WideShapes Go.ChangeAt Go.RowKit
open Go.Proofs.YtgakninlhfkkmaaGreat.Sh
set_option maxRecDepth 10000
theorem own : ownKnob Tryz.prog.godebug = none := by kernel_rfl
theorem contract (H : Type) (enc : TypeId × Value → H) (W : World) (base : Nat) (args : Array Value) (ds gs : List (DataW H)) (before : List MemPlace)
 (hval : ∀ (j : Nat) t v, Tryz.f4.params[j]? = some t → args[j]? = some v → Value.okWide Tryz.prog W .any base t v)
 (hW : DataW.Whole enc Tryz.prog Tryz.f4.params.toList Rows.splitPartsSpec.vars false W args.toList ds gs before) (hk : Rows.uptoSmall H (ds ++ gs) = true) :
 Calls Tryz.prog 4 args W fun e W' => ∃ v, e = .returned v ∧ Rows.splitPartsSpec.post enc Tryz.prog Tryz.f4 false true false false W args v W' := by
 have hW' := hW
 obtain ⟨p, q, hA, hV, rfl, hfz, hnd⟩ := hW
 rw [Tryz.params4] at hA hval
 obtain ⟨v0, vs0, d0, ds0, p0, q0, hargs, rfl, rfl, ⟨n0, h0⟩, r0⟩ := trodAll_cons hA
 obtain ⟨v1, vs1, d1, ds1, p1, q1, rfl, rfl, rfl, ⟨n1, h1⟩, r1⟩ := trodAll_cons r0
 obtain ⟨rfl, rfl, rfl⟩ := trodAll_nil r1
 obtain rfl : args = #[v0, v1] := by cases args; simp_all
 obtain ⟨rfl, rfl⟩ := trodVars_none hV
 rw [List.append_nil] at hk
 have hb : Rows.uptoBulkAll [d0, d1] ≤ 1048576 := of_decide_eq_true hk
 simp only [Rows.uptoBulkAll] at hb
 obtain ⟨d, a1, a2⟩ := (Qa n0).arg Tryz.underlying38 (hval 0 38 v0 rfl rfl) h0 (by unfold BB; dsimp only; omega)
 obtain ⟨c, b1, b2⟩ := (rCut n1).arg Tryz.underlying44 (hval 1 44 v1 rfl rfl) h1 (by unfold BB; dsimp only; omega)
 have hBB : BB ≤ 1048576 := by unfold BB; exact Nat.le_refl _
 have hc := PC.calls (Sh.splitParts d c hBB a2) (W := W) (vs := [v0, v1]) ⟨a1, b1, trivial⟩
 refine Calls.mono hc ?_
 rintro e W' ⟨u, c', rfl, rfl, hV, hE⟩
 have hu : u = .bool true := by rw [V] at hV; exact hV
 subst hu
 refine ⟨_, rfl, PX (x := .lit (.bool true)) hW' rfl (by rw [Tryz.params4]; exact of_decide_eq_true (by kernel_rfl)) hE.os hE.out (fun b hb => QP hE hb) rfl (fun _ _ _ => trodAll_cons_mk (shut_bool Tryz.underlying4 _) trodAll_mk0) (ok_one (by kernel_rfl) rfl (okWide_bool_mk Tryz.underlying4 _))⟩
def zi : Value := .int .i64 0
def zl : Value := .slice none 0 0
def witD : Value := .agg #[zl, zl, zi, zi, zl, zl, zl, zl, zl, zl, zl]
def witC : Value := .agg #[zi, zi, zi, zi, zi, .string .empty, zi]
def li {H : Type} : DataW H := .lit (.int .i64 0)
set_option maxRecDepth 100000 in
theorem lifted (os : Os) (started : os.Started) (H : Type) (enc : TypeId × Value → H) (F : Stop.Interp) :
 ReturnsInHanded {} Tryz.checked os 4 .any ((Rows.OpenSpec.upto Rows.splitPartsSpec).pre6 enc Tryz.prog Tryz.f4 Rows.splitPartsUptoRow.domain false) (((Rows.OpenSpec.upto Rows.splitPartsSpec).at F).post enc Tryz.prog Tryz.f4 false true false false) := by
 refine returnsInHanded_of_cond (C := Tryz.checked) (s := Rows.OpenSpec.upto Rows.splitPartsSpec) (k := Rows.uptoSmall) rfl own started (by kernel_rfl) Tryz.func4
  (OpenSpec.witness (enc := enc) (C := Tryz.checked) (s := Rows.OpenSpec.upto Rows.splitPartsSpec) (k := Rows.uptoSmall) rfl false ⟨#[], #[witD, witC], []⟩ 12 (by kernel_rfl) (by kernel_rfl) (by kernel_rfl)
    (x := ([.agg [.nil, .agg [.nil, .agg [li, li, .nil, .nil]], .nil, .agg [.nil, .nil, .nil, .nil]], .agg [li, .agg [li, li, li], .agg [li, .lit (.string []), li]]], [], [])) (by kernel_rfl) rfl (by kernel_rfl)) ?_
 intro W base args ds gs before hval hW _ hk _
 exact contract H enc W base args ds gs before hval hW hk
theorem named : Tryz.checked.prog.funcNamed Rows.splitPartsUptoRow.func = some 4 := by kernel_rfl
theorem inst : Tryz.f4.isInstance Tryz.checked.prog Rows.splitPartsUptoRow.origin Rows.splitPartsUptoRow.targs := of_decide_eq_true (by kernel_rfl)
theorem wrap : Tryz.f4.isWrapper Tryz.checked.prog Rows.splitPartsUptoRow.wrapper Rows.splitPartsUptoRow.mainSum := by unfold Func.isWrapper; first | (rw [if_pos (by decide +kernel)]; kernel_rfl) | (rw [if_neg (by decide +kernel)]; exact ⟨rfl, rfl⟩)
theorem proved : Rows.SplitPartsUptoSaid :=
 OpenClaim.holds_of_cond 4 Tryz.f4 rfl rfl rfl rfl rfl rfl rfl ⟨rfl, rfl, rfl, rfl, rfl⟩ rfl rfl rfl rfl rfl named Tryz.func4 facts inst wrap
  (fun os started H enc _ F => lifted os started H enc F)
#print axioms proved
end Go.Proofs.YtgakninlhfkkmaaGreat.splitParts
