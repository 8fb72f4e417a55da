/- SplitPartsUptoSaid: a part of its proof (part 5 of 14). -/
import Derived.Test.YtgakninlhfkkmaaGreatM4
import Derived.OrdersHeld
import Derived.OrdersIn
import Derived.Shelf.SortM.Plain
import Derived.Shelf.SortM.SortNone
import Derived.Test.YtgakninlhfkkmaaGreatProg
namespace Go.Proofs.YtgakninlhfkkmaaGreat.Sh
open Proofs
set_option maxRecDepth 10000
theorem Ha {p : Nat → Bool} {n k : Nat} (e : BK p n k = -1) : ∀ i, k ≤ i → i < n → p i = false := by
 intro i hk hi
 rw [BK] at e
 rw [dif_pos (by omega)] at e
 by_cases hp : p k = true
 · rw [if_pos hp] at e; omega
 · rw [if_neg hp] at e
   by_cases h : i = k
   · subst h; simpa using hp
   · exact Ha e i (by omega) hi
termination_by n - k
theorem Hb {p : Nat → Bool} {n k i0 : Nat} (e : BK p n k = i0) : ∀ i, k ≤ i → i < i0 → p i = false := by
 intro i hk hi
 rw [BK] at e
 split at e
 · by_cases hp : p k = true
   · rw [if_pos hp] at e; omega
   · rw [if_neg hp] at e
     by_cases h : i = k
     · subst h; simpa using hp
     · exact Hb e i (by omega) hi
 · omega
termination_by n - k
def Bd {α : Type} (p : α → Bool) (l : List α) (i : Nat) : List α := ((l.take i).filter fun x => !p x) ++ l.drop ((l.take i).filter fun x => !p x).length
theorem d133 (l : List AS) (hl : l.length ≤ 1048576) (g : FuncId) (a b : List SV) (p : AS → Bool) (hp : ∀ x ∈ l, PC g (a ++ [x.enc] ++ b) (.bool (p x))) {H : Hp} {n o : Nat} {full : Bool} (hH : H o = some (.cells ((l.map AS.enc).flatMap SV.cells))) :
 BO Tryz.prog 133 [.sl o 0 6 l.length full, .fn (.func g) a b] H n (fun v h' n' => v = .imm 6 ((l.filter fun x => !p x).map AS.enc) false ∧ h' = hset H o none ∧ n' = n) := by
 refine gq Tryz.func133 rfl fun ho => ?_
 have hon : o < n := (ho o _ hH).1
 have hI := c193 l hl g a b (fun i => match l[i]? with | some x => p x | none => false) (fun i hi => by simpa [hi] using hp l[i] (List.getElem_mem hi))
 have fin : ∀ (kp : List AS) (h' : Hp) (n' : Nat) (cs : List SV) (f2 : Bool), (l.filter fun x => !p x) = kp → (∀ j y, j ≠ o → H j = some y → h' j = some y) → h' o = some (.cells cs) → kp.length * 6 ≤ cs.length → cs.take (kp.length * 6) = (kp.map AS.enc).flatMap SV.cells →
  CG n h' n' (.sl o 0 6 kp.length f2) (fun v h' n' => v = .imm 6 ((l.filter fun x => !p x).map AS.enc) false ∧ h' = hset H o none ∧ n' = n) := fun kp h' n' cs f2 hk hh hc h1 h2 => by
  refine .inr ⟨1, .imm 6 (kp.map AS.enc) false, hset H o none, .inr ⟨AC _ _ _, by simp, by simp, rfl, cs, (kp.map AS.enc).flatMap SV.cells, hc, by simp [Bi, h1, h2], AS.E.size kp, ?_⟩, AS.E.imm _ _ _ _, fun j y e => ?_, by rw [hk], rfl, rfl⟩
  · have : ∀ l : List SV, AQ (Fz h' (hset H o none) 0) l l := by
     intro l; induction l with
     | nil => trivial
     | cons a l ih => exact ⟨Fz.same, ih⟩
    exact this _
  · by_cases e1 : j = o
    · subst e1; rw [AC] at e; cases e
    · rw [AD _ _ e1] at e; exact ⟨hh j y e1 e, ho j y e⟩
 simp [go_sem]
 refine hI.lend 2 rfl ⟨?_, Fz.same, trivial⟩ ?_
 · have := Dq (h' := H) (h := fun _ => none) (k := 1) (z := 6) (es := l.map AS.enc) (full := full) (full' := false) (o := o) rfl (by simp) hH (AS.E.size l)
   rw [List.length_map] at this; exact this
 rcases Fe (fun i => match l[i]? with | some x => p x | none => false) l.length 0 with e | ⟨i0, _, hi0, e, hpi⟩
 · simp [go_sem, e]
   have hall : (l.filter fun x => !p x) = l := List.filter_eq_self.2 fun x hx => by
    obtain ⟨i, hi, rfl⟩ := List.getElem_of_mem hx
    have := Ha e i (Nat.zero_le _) hi
    simpa [hi] using this
   exact fin l H n _ full hall (fun j y _ e => e) hH (by rw [BH (AS.E.size l), List.length_map]; exact Nat.le_refl _) (List.take_of_length_le (by rw [BH (AS.E.size l), List.length_map]; exact Nat.le_refl _))
 · have w0 := wS i0 (by omega)
   have ne1 : ¬ ((i0 : Int) = -1) := by omega
   simp [go_sem, e, w0, ne1, -Int.natCast_add]
   have hpi' : p l[i0] = true := by simpa [hi0] using hpi
   have hbefore : (l.take i0).filter (fun x => !p x) = l.take i0 := List.filter_eq_self.2 fun x hx => by
    obtain ⟨i, hi, rfl⟩ := List.getElem_of_mem hx
    have hi2 : i < i0 := by simp at hi; omega
    have := Hb e i (Nat.zero_le _) hi2
    simpa [show i < l.length by omega] using this
   refine An 1 (α := Nat) (fun i => [(0, .sl o 0 6 l.length full), (1, .fn (.func g) a b), (5, AA ((l.take i).filter fun x => !p x).length), (6, AA i)]) (fun i => hset H o (some (.cells (((Bd p l i).map AS.enc).flatMap SV.cells))))
    (fun i m => i0 < i ∧ i ≤ l.length ∧ n ≤ m) (fun i => l.length - i) (i0 + 1) ?_ ?_ ?_ ?_
   · exact ⟨Nat.lt_succ_self _, hi0, Nat.le_refl _⟩
   · have : ((l.take (i0 + 1)).filter fun x => !p x).length = i0 := by
      rw [List.take_succ_eq_append_getElem hi0, List.filter_append, hbefore]; simp [hpi']; omega
     simp [Ai, this, -Int.natCast_add]
   · have : Bd p l (i0 + 1) = l := by
      unfold Bd
      rw [List.take_succ_eq_append_getElem hi0, List.filter_append, hbefore]; simp [hpi', Nat.min_eq_left (Nat.le_of_lt hi0)]
     rw [this]
     intro j y e
     simp only [hset] at e
     split at e
     · rename_i h; subst h; rw [hH]; exact e
     · exact e
   rintro i m ⟨hi1, hi2, hnm⟩
   have hkl : ((l.take i).filter fun x => !p x).length < i := by
    have h1 : l.take i = l.take (i0 + 1) ++ (l.drop (i0 + 1)).take (i - (i0 + 1)) := by
     rw [← List.take_add]; congr 1; omega
    have h2 : ((l.take (i0 + 1)).filter fun x => !p x).length = i0 := by
     rw [List.take_succ_eq_append_getElem hi0, List.filter_append, hbefore]; simp [hpi']; omega
    rw [h1, List.filter_append, List.length_append, h2]
    have := List.length_filter_le (fun x => !p x) ((l.drop (i0 + 1)).take (i - (i0 + 1)))
    simp at this ⊢; omega
   have hkeep : (Bd p l i).length = l.length := by unfold Bd; simp; omega
   generalize hkp : (l.take i).filter (fun x => !p x) = kp at hkl ⊢
   have hne : o ≠ m := by omega
   have hsz := AS.E.size (Bd p l i)
   by_cases hlt : i < l.length
   · have w1 := wS i (by omega)
     have w2 : IntKind.i64.wrap ((kp.length : Int) + 1) = ((kp.length + 1 : Nat) : Int) := by rw [C8] <;> omega
     obtain ⟨x, hx⟩ : ∃ x, l[i] = x := ⟨_, rfl⟩
     have hget : (Bd p l i)[i]? = some x := by
      unfold Bd; rw [hkp, List.getElem?_append_right (by omega), List.getElem?_drop]
      have : kp.length + (i - kp.length) = i := by omega
      rw [this, List.getElem?_eq_getElem hlt, hx]
     obtain ⟨g1, g2⟩ := LG hsz (i := i) (e := x.enc) (by simp [hget])
     have hset' := OH hsz (j := kp.length) (e := x.enc) (by simp [hkeep]; omega)
     have g3 : kp.length * 6 + 6 ≤ (((Bd p l i).map AS.enc).flatMap SV.cells).length := by
      rw [BH hsz, List.length_map, hkeep]; omega
     have hcl := AS.E.len x
     generalize hF : ((Bd p l i).map AS.enc).flatMap SV.cells = F at g1 g2 g3 hset' ⊢
     have H1 := hp x (by rw [← hx]; exact List.getElem_mem hlt)
     simp only [List.append_assoc, List.cons_append, List.nil_append] at H1
     have hpre := AS.E.st x
     simp [AS.enc_eq, SV.cells] at g2
     simp [go_sem, hlt, AC, g1, g2]
     refine PC.use (by simpa [AS.enc_eq] using H1) ?_
     by_cases hpx : p x = true
     · simp [go_sem, hpx, w1, -Int.natCast_add]
       have hk1 : (l.take (i + 1)).filter (fun x => !p x) = kp := by rw [List.take_succ_eq_append_getElem hlt, List.filter_append, hkp, hx]; simp [hpx]
       have hk2 : Bd p l (i + 1) = Bd p l i := by unfold Bd; rw [hk1, hkp]
       refine ⟨i + 1, by omega, ⟨by omega, by omega, by omega⟩, ⟨by rw [hk1]; exact Fz.same, Fz.same⟩, fun j y e => ?_⟩
       rw [hk2, hF] at e
       by_cases e1 : j = o
       · subst e1; rw [AC] at e; rw [AD _ _ hne, AD _ _ hne, AC]; exact e
       · rw [AD _ _ e1] at e; have := (ho j y e).1; rw [AD _ _ (by omega), AD _ _ (by omega), AD _ _ e1]; exact e
     · have hpx' : p x = false := by simpa using hpx
       have hkl' : (kp.length : Int) < l.length := by omega
       simp [AS.enc_eq, SV.cells] at hset'
       simp [go_sem, hpx', AC, AD, hne, hkl', g3, hset', w1, w2, -Int.natCast_add]
       have hk1 : (l.take (i + 1)).filter (fun x => !p x) = kp ++ [x] := by rw [List.take_succ_eq_append_getElem hlt, List.filter_append, hkp, hx]; simp [hpx']
       have hk2 : (Bd p l (i + 1)).map AS.enc = ((Bd p l i).map AS.enc).set kp.length x.enc := by
        have : Bd p l (i + 1) = (Bd p l i).set kp.length x := by
         unfold Bd; rw [hk1, hkp, List.set_append_right _ _ (Nat.le_refl _), Nat.sub_self]
         simp
         rw [List.drop_eq_getElem_cons (show kp.length < l.length by omega), List.set_cons_zero]
        rw [this, List.map_set]
       rw [AS.enc_eq] at hk2
       refine ⟨i + 1, by omega, ⟨by omega, by omega, by omega⟩, ⟨by rw [hk1, List.length_append]; exact Fz.same, Fz.same⟩, fun j y e => ?_⟩
       rw [hk2] at e
       by_cases e1 : j = o
       · subst e1; rw [AC] at e ⊢; exact e
       · rw [AD _ _ e1] at e ⊢; have := (ho j y e).1; rw [AD _ _ (by omega), AD _ _ (by omega), AD _ _ e1]; exact e
   · have : i = l.length := by omega
     subst this
     have q1 : kp.length ≤ l.length := by omega
     have q2 : ¬ ((kp.length : Int) = l.length) := by omega
     have q3 : ¬ (l.length - kp.length = 0) := by omega
     rw [List.take_length] at hkp
     have hF : ((Bd p l l.length).map AS.enc).flatMap SV.cells = (kp.map AS.enc).flatMap SV.cells ++ ((l.drop kp.length).map AS.enc).flatMap SV.cells := by unfold Bd; rw [List.take_length, hkp]; simp
     have hlk : ((kp.map AS.enc).flatMap SV.cells).length = kp.length * 6 := by rw [BH (AS.E.size kp), List.length_map]
     have hFl : (((Bd p l l.length).map AS.enc).flatMap SV.cells).length = l.length * 6 := by rw [BH hsz, List.length_map, hkeep]
     have q4 : kp.length * 6 + (l.length - kp.length) * 6 ≤ (((Bd p l l.length).map AS.enc).flatMap SV.cells).length := by rw [hFl, ← Nat.add_mul]; apply Nat.mul_le_mul_right; omega
     have htk : (((Bd p l l.length).map AS.enc).flatMap SV.cells).take (kp.length * 6) = (kp.map AS.enc).flatMap SV.cells := by rw [hF, ← hlk, List.take_left]
     generalize ((Bd p l l.length).map AS.enc).flatMap SV.cells = F at q4 htk ⊢
     simp [go_sem, AC, q1, q2, q3, q4]
     refine fin kp _ _ _ _ hkp (fun j y hj e => by rw [AD _ _ hj, AD _ _ hj]; exact e) (AC _ _ _) ?_ ?_
     · rw [htk, List.length_append, hlk]; omega
     · rw [htk, ← hlk, List.take_left]
theorem d75 (l : List BF) (hl : l.length ≤ 1048576) (g : FuncId) (a b : List SV) (p : BF → Bool) (hp : ∀ x ∈ l, PC g (a ++ [x.enc] ++ b) (.bool (p x))) {H : Hp} {n o : Nat} {full : Bool} (hH : H o = some (.cells ((l.map BF.enc).flatMap SV.cells))) :
 BO Tryz.prog 75 [.sl o 0 3 l.length full, .fn (.func g) a b] H n (fun v h' n' => v = .imm 3 ((l.filter fun x => !p x).map BF.enc) false ∧ h' = hset H o none ∧ n' = n) := by
 refine gq Tryz.func75 rfl fun ho => ?_
 have hon : o < n := (ho o _ hH).1
 have hI := c141 l hl g a b (fun i => match l[i]? with | some x => p x | none => false) (fun i hi => by simpa [hi] using hp l[i] (List.getElem_mem hi))
 have fin : ∀ (kp : List BF) (h' : Hp) (n' : Nat) (cs : List SV) (f2 : Bool), (l.filter fun x => !p x) = kp → (∀ j y, j ≠ o → H j = some y → h' j = some y) → h' o = some (.cells cs) → kp.length * 3 ≤ cs.length → cs.take (kp.length * 3) = (kp.map BF.enc).flatMap SV.cells →
  CG n h' n' (.sl o 0 3 kp.length f2) (fun v h' n' => v = .imm 3 ((l.filter fun x => !p x).map BF.enc) false ∧ h' = hset H o none ∧ n' = n) := fun kp h' n' cs f2 hk hh hc h1 h2 => by
  refine .inr ⟨1, .imm 3 (kp.map BF.enc) false, hset H o none, .inr ⟨AC _ _ _, by simp, by simp, rfl, cs, (kp.map BF.enc).flatMap SV.cells, hc, by simp [Bi, h1, h2], BF.E.size kp, ?_⟩, BF.E.imm _ _ _ _, fun j y e => ?_, by rw [hk], rfl, rfl⟩
  · have : ∀ l : List SV, AQ (Fz h' (hset H o none) 0) l l := by
     intro l; induction l with
     | nil => trivial
     | cons a l ih => exact ⟨Fz.same, ih⟩
    exact this _
  · by_cases e1 : j = o
    · subst e1; rw [AC] at e; cases e
    · rw [AD _ _ e1] at e; exact ⟨hh j y e1 e, ho j y e⟩
 simp [go_sem]
 refine hI.lend 2 rfl ⟨?_, Fz.same, trivial⟩ ?_
 · have := Dq (h' := H) (h := fun _ => none) (k := 1) (z := 3) (es := l.map BF.enc) (full := full) (full' := false) (o := o) rfl (by simp) hH (BF.E.size l)
   rw [List.length_map] at this; exact this
 rcases Fe (fun i => match l[i]? with | some x => p x | none => false) l.length 0 with e | ⟨i0, _, hi0, e, hpi⟩
 · simp [go_sem, e]
   have hall : (l.filter fun x => !p x) = l := List.filter_eq_self.2 fun x hx => by
    obtain ⟨i, hi, rfl⟩ := List.getElem_of_mem hx
    have := Ha e i (Nat.zero_le _) hi
    simpa [hi] using this
   exact fin l H n _ full hall (fun j y _ e => e) hH (by rw [BH (BF.E.size l), List.length_map]; exact Nat.le_refl _) (List.take_of_length_le (by rw [BH (BF.E.size l), List.length_map]; exact Nat.le_refl _))
 · have w0 := wS i0 (by omega)
   have ne1 : ¬ ((i0 : Int) = -1) := by omega
   simp [go_sem, e, w0, ne1, -Int.natCast_add]
   have hpi' : p l[i0] = true := by simpa [hi0] using hpi
   have hbefore : (l.take i0).filter (fun x => !p x) = l.take i0 := List.filter_eq_self.2 fun x hx => by
    obtain ⟨i, hi, rfl⟩ := List.getElem_of_mem hx
    have hi2 : i < i0 := by simp at hi; omega
    have := Hb e i (Nat.zero_le _) hi2
    simpa [show i < l.length by omega] using this
   refine An 1 (α := Nat) (fun i => [(0, .sl o 0 3 l.length full), (1, .fn (.func g) a b), (5, AA ((l.take i).filter fun x => !p x).length), (6, AA i)]) (fun i => hset H o (some (.cells (((Bd p l i).map BF.enc).flatMap SV.cells))))
    (fun i m => i0 < i ∧ i ≤ l.length ∧ n ≤ m) (fun i => l.length - i) (i0 + 1) ?_ ?_ ?_ ?_
   · exact ⟨Nat.lt_succ_self _, hi0, Nat.le_refl _⟩
   · have : ((l.take (i0 + 1)).filter fun x => !p x).length = i0 := by
      rw [List.take_succ_eq_append_getElem hi0, List.filter_append, hbefore]; simp [hpi']; omega
     simp [Ai, this, -Int.natCast_add]
   · have : Bd p l (i0 + 1) = l := by
      unfold Bd
      rw [List.take_succ_eq_append_getElem hi0, List.filter_append, hbefore]; simp [hpi', Nat.min_eq_left (Nat.le_of_lt hi0)]
     rw [this]
     intro j y e
     simp only [hset] at e
     split at e
     · rename_i h; subst h; rw [hH]; exact e
     · exact e
   rintro i m ⟨hi1, hi2, hnm⟩
   have hkl : ((l.take i).filter fun x => !p x).length < i := by
    have h1 : l.take i = l.take (i0 + 1) ++ (l.drop (i0 + 1)).take (i - (i0 + 1)) := by
     rw [← List.take_add]; congr 1; omega
    have h2 : ((l.take (i0 + 1)).filter fun x => !p x).length = i0 := by
     rw [List.take_succ_eq_append_getElem hi0, List.filter_append, hbefore]; simp [hpi']; omega
    rw [h1, List.filter_append, List.length_append, h2]
    have := List.length_filter_le (fun x => !p x) ((l.drop (i0 + 1)).take (i - (i0 + 1)))
    simp at this ⊢; omega
   have hkeep : (Bd p l i).length = l.length := by unfold Bd; simp; omega
   generalize hkp : (l.take i).filter (fun x => !p x) = kp at hkl ⊢
   have hne : o ≠ m := by omega
   have hsz := BF.E.size (Bd p l i)
   by_cases hlt : i < l.length
   · have w1 := wS i (by omega)
     have w2 : IntKind.i64.wrap ((kp.length : Int) + 1) = ((kp.length + 1 : Nat) : Int) := by rw [C8] <;> omega
     obtain ⟨x, hx⟩ : ∃ x, l[i] = x := ⟨_, rfl⟩
     have hget : (Bd p l i)[i]? = some x := by
      unfold Bd; rw [hkp, List.getElem?_append_right (by omega), List.getElem?_drop]
      have : kp.length + (i - kp.length) = i := by omega
      rw [this, List.getElem?_eq_getElem hlt, hx]
     obtain ⟨g1, g2⟩ := LG hsz (i := i) (e := x.enc) (by simp [hget])
     have hset' := OH hsz (j := kp.length) (e := x.enc) (by simp [hkeep]; omega)
     have g3 : kp.length * 3 + 3 ≤ (((Bd p l i).map BF.enc).flatMap SV.cells).length := by
      rw [BH hsz, List.length_map, hkeep]; omega
     have hcl := BF.E.len x
     generalize hF : ((Bd p l i).map BF.enc).flatMap SV.cells = F at g1 g2 g3 hset' ⊢
     have H1 := hp x (by rw [← hx]; exact List.getElem_mem hlt)
     simp only [List.append_assoc, List.cons_append, List.nil_append] at H1
     have hpre := BF.E.st x
     simp [BF.enc, SV.cells] at g2
     simp [go_sem, hlt, AC, g1, g2]
     refine PC.use (by simpa [BF.enc] using H1) ?_
     by_cases hpx : p x = true
     · simp [go_sem, hpx, w1, -Int.natCast_add]
       have hk1 : (l.take (i + 1)).filter (fun x => !p x) = kp := by rw [List.take_succ_eq_append_getElem hlt, List.filter_append, hkp, hx]; simp [hpx]
       have hk2 : Bd p l (i + 1) = Bd p l i := by unfold Bd; rw [hk1, hkp]
       refine ⟨i + 1, by omega, ⟨by omega, by omega, by omega⟩, ⟨by rw [hk1]; exact Fz.same, Fz.same⟩, fun j y e => ?_⟩
       rw [hk2, hF] at e
       by_cases e1 : j = o
       · subst e1; rw [AC] at e; rw [AD _ _ hne, AD _ _ hne, AC]; exact e
       · rw [AD _ _ e1] at e; have := (ho j y e).1; rw [AD _ _ (by omega), AD _ _ (by omega), AD _ _ e1]; exact e
     · have hpx' : p x = false := by simpa using hpx
       have hkl' : (kp.length : Int) < l.length := by omega
       simp [BF.enc, SV.cells] at hset'
       simp [go_sem, hpx', AC, AD, hne, hkl', g3, hset', w1, w2, -Int.natCast_add]
       have hk1 : (l.take (i + 1)).filter (fun x => !p x) = kp ++ [x] := by rw [List.take_succ_eq_append_getElem hlt, List.filter_append, hkp, hx]; simp [hpx']
       have hk2 : (Bd p l (i + 1)).map BF.enc = ((Bd p l i).map BF.enc).set kp.length x.enc := by
        have : Bd p l (i + 1) = (Bd p l i).set kp.length x := by
         unfold Bd; rw [hk1, hkp, List.set_append_right _ _ (Nat.le_refl _), Nat.sub_self]
         simp
         rw [List.drop_eq_getElem_cons (show kp.length < l.length by omega), List.set_cons_zero]
        rw [this, List.map_set]
       rw [BF.enc] at hk2
       refine ⟨i + 1, by omega, ⟨by omega, by omega, by omega⟩, ⟨by rw [hk1, List.length_append]; exact Fz.same, Fz.same⟩, fun j y e => ?_⟩
       rw [hk2] at e
       by_cases e1 : j = o
       · subst e1; rw [AC] at e ⊢; exact e
       · rw [AD _ _ e1] at e ⊢; have := (ho j y e).1; rw [AD _ _ (by omega), AD _ _ (by omega), AD _ _ e1]; exact e
   · have : i = l.length := by omega
     subst this
     have q1 : kp.length ≤ l.length := by omega
     have q2 : ¬ ((kp.length : Int) = l.length) := by omega
     have q3 : ¬ (l.length - kp.length = 0) := by omega
     rw [List.take_length] at hkp
     have hF : ((Bd p l l.length).map BF.enc).flatMap SV.cells = (kp.map BF.enc).flatMap SV.cells ++ ((l.drop kp.length).map BF.enc).flatMap SV.cells := by unfold Bd; rw [List.take_length, hkp]; simp
     have hlk : ((kp.map BF.enc).flatMap SV.cells).length = kp.length * 3 := by rw [BH (BF.E.size kp), List.length_map]
     have hFl : (((Bd p l l.length).map BF.enc).flatMap SV.cells).length = l.length * 3 := by rw [BH hsz, List.length_map, hkeep]
     have q4 : kp.length * 3 + (l.length - kp.length) * 3 ≤ (((Bd p l l.length).map BF.enc).flatMap SV.cells).length := by rw [hFl, ← Nat.add_mul]; apply Nat.mul_le_mul_right; omega
     have htk : (((Bd p l l.length).map BF.enc).flatMap SV.cells).take (kp.length * 3) = (kp.map BF.enc).flatMap SV.cells := by rw [hF, ← hlk, List.take_left]
     generalize ((Bd p l l.length).map BF.enc).flatMap SV.cells = F at q4 htk ⊢
     simp [go_sem, AC, q1, q2, q3, q4]
     refine fin kp _ _ _ _ hkp (fun j y hj e => by rw [AD _ _ hj, AD _ _ hj]; exact e) (AC _ _ _) ?_ ?_
     · rw [htk, List.length_append, hlk]; omega
     · rw [htk, ← hlk, List.take_left]
def AE.addText (y : AE) (t : ByteArray) : AE := .mk y.kind y.code y.id (y.text ++ t) y.head y.flow y.rows
def Ce (x : AE) : Prop := (x.kind = 7 ∧ x.rows = []) ∨ (x.kind = 1 ∧ x.text.size = 0)
instance (x : AE) : Decidable (Ce x) := by unfold Ce; cases h : x.rows <;> simp <;> infer_instance
def Ar (out : List AE) (x : AE) : List AE :=
 if Ce x then out else match out.getLast? with
  | some y => if x.kind = 1 ∧ y.kind = 1 ∧ y.head = x.head then out.dropLast ++ [y.addText x.text] else out ++ [x]
  | none => out ++ [x]
def Cz (l : List AE) : List AE := l.foldl Ar []
mutual
def AE.nrm : AE → AE
 | .mk k c i t h f r => .mk k c i t h (Cz (AE.nrmL f)) ((AS.nrmL r).filter fun r => !decide (r.cells.length = 0))
def AE.nrmL : List AE → List AE
 | [] => []
 | x :: l => AE.nrm x :: AE.nrmL l
def AS.nrm : AS → AS
 | .mk h c => .mk h (AK.nrmL c)
def AS.nrmL : List AS → List AS
 | [] => []
 | x :: l => AS.nrm x :: AS.nrmL l
def AK.nrm : AK → AK
 | .mk i h f => .mk i h (Cz (AE.nrmL f))
def AK.nrmL : List AK → List AK
 | [] => []
 | x :: l => AK.nrm x :: AK.nrmL l
end
theorem AE.nrmL_eq : ∀ l : List AE, AE.nrmL l = l.map AE.nrm
 | [] => by rw [AE.nrmL]; rfl
 | x :: l => by rw [AE.nrmL, AE.nrmL_eq l]; rfl
theorem AS.nrmL_eq : ∀ l : List AS, AS.nrmL l = l.map AS.nrm
 | [] => by rw [AS.nrmL]; rfl
 | x :: l => by rw [AS.nrmL, AS.nrmL_eq l]; rfl
theorem AK.nrmL_eq : ∀ l : List AK, AK.nrmL l = l.map AK.nrm
 | [] => by rw [AK.nrmL]; rfl
 | x :: l => by rw [AK.nrmL, AK.nrmL_eq l]; rfl
def AU (l : List AE) : List AE := Cz (AE.nrmL l)
theorem c133n (z : Nat) (full : Bool) : PC 133 [.imm z [] full, .fn (.func 136) [] []] (.imm 6 [] false) := by
 intro h n
 refine gq Tryz.func133 rfl fun ho => ?_
 simp [go_sem]
 have hI := (c193 [] (by simp) 136 [] [] (fun _ => false) (by simp)).wk (us := [.imm z [] full, .fn (.func 136) [] []]) 1 ⟨Ba (by simp), Fz.same, trivial⟩
 refine PC.use hI ?_
 have e : BK (fun _ => false) 0 0 = -1 := by rw [BK]; simp
 simp [go_sem, e]
 exact JP ho AB (by simp) rfl
theorem c136 (r : AS) : PC 136 [r.enc] (.bool (decide (r.cells.length = 0))) := by
 intro h n
 refine gq Tryz.func136 rfl fun ho => ?_
 simp [go_sem, AS.enc_eq, AC]
 exact Av ho (AO ho (Nat.le_refl _) AB) (by cases r.cells <;> simp; omega) rfl
theorem Rx {E : Bl} (l : List AS) (hl : l.length ≤ 1048576) (H : ∀ (i : Nat) (h : i < l.length), PC 135 [(l[i]).enc] (AS.nrm l[i]).enc) {h : Hp} {n : Nat} {K : SV → Hp → Nat → Prop}
 (hk : ∀ v h' n', n ≤ n' → (∀ o x, h o = some x → h' o = some x) → Ag E Tryz.prog 133 [v, .fn (.func 136) [] []] h' n' (fun v2 h2 n2 => (∀ o x, o < n → h o = some x → h2 o = some x) ∧ n ≤ n2 ∧ v2 = .imm 6 (((l.map AS.nrm).filter fun r => !decide (r.cells.length = 0)).map AS.enc) false) → K v h' n') :
 Ag E Tryz.prog 134 [Ay l, .fn (.func 135) [] []] h n K := by
 refine (l134 l hl 135 [] [] AS.nrm (fun i hi => H i hi)).use fun v h' n' ⟨hn, hh, hv⟩ => hk v h' n' hn hh ?_
 rcases hv with ⟨he, z', full, rfl⟩ | ⟨o, full, h1, h2, rfl, h3⟩
 · refine PC.use (c133n z' full) ⟨fun o x _ e => hh o x e, hn, ?_⟩
   have : l.map AS.nrm = [] := by simpa using he
   rw [this]; rfl
 · rw [List.length_map]
   refine Ag.lift ((d133 (l.map AS.nrm) (by simpa using hl) 136 [] [] (fun r => decide (r.cells.length = 0)) (fun r _ => c136 r) (n := n') (full := full) h3).mono ?_)
   rintro v2 h2 n2 ⟨rfl, rfl, rfl⟩
   exact ⟨fun j x g e => by rw [AD _ _ (by omega)]; exact hh j x e, hn, rfl⟩
theorem AE.nrm_fields (x : AE) : x.nrm.kind = x.kind ∧ x.nrm.code = x.code ∧ x.nrm.id = x.id ∧ x.nrm.text = x.text ∧ x.nrm.head = x.head ∧ x.nrm.flow = AU x.flow ∧ x.nrm.rows = (x.rows.map AS.nrm).filter fun r => !decide (r.cells.length = 0) := by
 cases x; rw [AE.nrm]; simp [AE.kind, AE.code, AE.id, AE.text, AE.head, AE.flow, AE.rows, AU, AS.nrmL_eq]
theorem IZ (l : List AE) (k : Nat) (h : k < l.length) : Cz (AE.nrmL (l.take (k + 1))) = Ar (Cz (AE.nrmL (l.take k))) l[k].nrm := by
 rw [List.take_succ_eq_append_getElem h, AE.nrmL_eq, List.map_append, Cz, List.foldl_append, AE.nrmL_eq]; rfl
theorem JH (out : List AE) (x : AE) : (Ar out x).length ≤ out.length + 1 := by
 unfold Ar
 split
 · omega
 · split
   · split <;> simp
   · simp
theorem MY (l : List AE) : ∀ k, k ≤ l.length → (Cz (AE.nrmL (l.take k))).length ≤ k
 | 0, _ => by simp [AE.nrmL, Cz]
 | k + 1, h => by
  rw [IZ l k h]
  have := JH (Cz (AE.nrmL (l.take k))) l[k].nrm
  have := MY l k (by omega)
  omega
theorem JI {out : List AE} {x y : AE} (h : y ∈ Ar out x) : y ∈ out ∨ y = x ∨ ∃ z ∈ out, y = z.addText x.text := by
 unfold Ar at h
 split at h
 · exact .inl h
 · split at h
   · rename_i z hz
     split at h
     · rcases List.mem_append.1 h with h | h
       · exact .inl ((List.dropLast_sublist out).subset h)
       · exact .inr (.inr ⟨z, List.mem_of_getLast? hz, List.mem_singleton.1 h⟩)
     · rcases List.mem_append.1 h with h | h
       · exact .inl h
       · exact .inr (.inl (List.mem_singleton.1 h))
   · rcases List.mem_append.1 h with h | h
     · exact .inl h
     · exact .inr (.inl (List.mem_singleton.1 h))
theorem Jl (l : List AE) (hs : ∀ x ∈ l, x.head.sized ∧ x.text.size ≤ 1048576) : ∀ k, k ≤ l.length → ∀ y ∈ Cz (AE.nrmL (l.take k)), y.head.sized ∧ y.text.size ≤ k * 1048576
 | 0, _, y, hy => by simp [AE.nrmL, Cz] at hy
 | k + 1, h, y, hy => by
  rw [IZ l k h] at hy
  have hx := hs l[k] (List.getElem_mem h)
  obtain ⟨_, _, _, f4, f5, _, _⟩ := (l[k]).nrm_fields
  rcases JI hy with h1 | rfl | ⟨z, hz, rfl⟩
  · have := Jl l hs k (by omega) y h1
    exact ⟨this.1, by omega⟩
  · rw [f4, f5]; exact ⟨hx.1, by omega⟩
  · have := Jl l hs k (by omega) z hz
    refine ⟨by simpa [AE.addText, AE.head] using this.1, ?_⟩
    have e : (z.addText (l[k]).nrm.text).text.size = z.text.size + (l[k]).text.size := by show (z.text ++ (l[k]).nrm.text).size = _; rw [ByteArray.size_append, f4]
    omega
theorem Ny (s : ByteArray) : (s.toList == ByteArray.empty.toList) = decide (s.size = 0) := by
 rw [← beq_toListBytes]
 by_cases h : s.size = 0
 · have : s = ByteArray.empty := by
    obtain ⟨⟨l⟩⟩ := s
    cases l with
    | nil => rfl
    | cons a l => simp [ByteArray.size] at h
   subst this; rfl
 · have : s ≠ ByteArray.empty := by rintro rfl; exact h rfl
   have e : (s == ByteArray.empty) = false := by
    rw [Bool.eq_false_iff]; intro e; exact this ((O6 _ _).1 e)
   rw [e]; simp [h]
theorem Gv (s : ByteArray) : s.toList = [] ↔ s.size = 0 := by
 have h := Ny s
 have e : ByteArray.empty.toList = [] := by
  have := Ny ByteArray.empty
  rw [ByteArray.toList_eq]; rfl
 rw [e] at h
 constructor
 · intro g; rw [g] at h; simpa using h.symm
 · intro g; rw [decide_eq_true g] at h; simpa using h
set_option maxHeartbeats 4000000 in
theorem O9 (l : List AE) (hl : l.length ≤ 1048576) (hs : ∀ x ∈ l, x.head.sized ∧ x.text.size ≤ 1048576 ∧ x.rows.length ≤ 1048576)
 (H1 : ∀ x ∈ l, PC 73 [AG x.flow] (AG (AU x.flow))) (H2 : ∀ x ∈ l, ∀ (i : Nat) (h : i < x.rows.length), PC 135 [(x.rows[i]).enc] (AS.nrm x.rows[i]).enc) : LC 73 [AG l] 11 ((AU l).map AE.enc) := by
 intro h n
 refine gq Tryz.func73 rfl fun ho => ?_
 simp [go_sem]
 refine An 2 (α := Nat × Option Nat) (fun q => [(3, Aa 11 q.2 ((Cz (AE.nrmL (l.take q.1))).map AE.enc)), (7, AG l), (8, AA l.length), (9, AA q.1)]) (fun q => Aj q.2 ((Cz (AE.nrmL (l.take q.1))).map AE.enc) h)
  (fun q m => q.1 ≤ l.length ∧ n ≤ m ∧ BZ n m 11 q.2 ((Cz (AE.nrmL (l.take q.1))).map AE.enc)) (fun q => l.length - q.1) (0, none) ?_ ?_ AB ?_
 · exact ⟨Nat.zero_le _, Nat.le_refl _, by simp [AE.nrmL, Cz]; exact BZ.nil _ _ _⟩
 · simp [Ai, Aa]
 rintro ⟨k, o⟩ m ⟨hk, hnm, hA⟩
 dsimp only at hk hA ⊢
 by_cases hlt : k < l.length
 · have w1 := wS k (by omega)
   obtain ⟨x, hx⟩ : ∃ x, l[k] = x := ⟨_, rfl⟩
   have hxm : x ∈ l := by rw [← hx]; exact List.getElem_mem hlt
   obtain ⟨hxh, hxt, hxr⟩ := hs x hxm
   have hft := IZ l k hlt
   rw [hx] at hft
   obtain ⟨f1, f2, f3, f4, f5, f6, f7⟩ := x.nrm_fields
   have hfl := MY l k hk
   generalize hys : Cz (AE.nrmL (l.take k)) = ys at hA hft hfl ⊢
   have hlo : ∀ j, o = some j → j < m := fun j e => (hA.lt j e).2
   simp [go_sem, hlt, hx, AE.enc_eq, AC]
   refine PC.use (by simpa [AF.enc, AF.flat] using N1 x.head hxh) ?_
   simp [go_sem, AC]
   refine (H1 x hxm).use ?_
   simp [go_sem, AC]
   refine Rx x.rows hxr (fun i hi => H2 x hxm i hi) fun v h1 m1 hm1 hh1 hcall => ?_
   simp [go_sem]
   refine Ag.mono hcall ?_
   rintro v2 h2 m2 ⟨hh2, hm2, rfl⟩
   rw [← f7]
   generalize hR : x.nrm.rows = R at f7 ⊢
   have em0 := hh2 m _ (Nat.lt_succ_self m) (AC _ _ _)
   have ho2 : ∀ j, o = some j → h2 j = some (.cells ((ys.map AE.enc).flatMap SV.cells)) := fun j e => by
    have := hlo j e
    exact hh2 j _ (by omega) (by rw [AD _ _ (by omega), AD _ _ (by omega), AD _ _ (by omega), AD _ _ (by omega)]; exact HR j e)
   have hacc : ∀ j y, Aj o (ys.map AE.enc) h j = some y → j < m ∧ h2 j = some y := fun j y e => by
    have hjm : j < m := by
     cases o with
     | none => have := (ho j y e).1; omega
     | some i =>
      simp only [Aj, hset] at e
      split at e
      · rename_i h; subst h; exact hlo _ rfl
      · have := (ho j y e).1; omega
    exact ⟨hjm, hh2 j _ (by omega) (by rw [AD _ _ (by omega), AD _ _ (by omega), AD _ _ (by omega), AD _ _ (by omega)]; exact e)⟩
   have hold : ∀ j y, h j = some y → h2 j = some y := fun j y e => (hacc j y (Aj.old ho hA j y e)).2
   clear hcall hh1 hh2
   rcases o with _ | j
   · have hys0 : ys = [] := by simpa using hA.none rfl
     subst hys0
     have happ : ¬ Ce x.nrm → Ar [] x.nrm = [] ++ [x.nrm] := fun hd => by rw [Ar, if_neg hd]; rfl
     by_cases k7 : x.kind = 7
     · by_cases hR0 : R = []
       · have hd : Ce x.nrm := .inl ⟨by rw [f1, k7], by rw [hR, hR0]⟩
         simp [go_sem, Aa, em0, AC, k7, hR0, w1, -Int.natCast_add]
         rw [Ar, if_pos hd] at hft
         refine ⟨k + 1, by omega, none, ⟨by omega, by omega, by rw [hft]; exact hA.mono (by omega)⟩, ⟨by rw [hft]; first | exact Fz.same | (simp [Aa, Fz.same]), Fz.same⟩, fun i y e => ?_⟩
         rw [hft] at e
         obtain ⟨g1, g2⟩ := hacc i y e
         rw [AD _ _ (by omega)]; exact g2
       · have hd : ¬ Ce x.nrm := by rintro (⟨_, g⟩ | ⟨g, _⟩); exact hR0 (by rw [← hR, g]); rw [f1, k7] at g; exact absurd g (by decide)
         rw [happ hd] at hft
         simp [go_sem, Aa, em0, AC, k7, hR0]
         repeat first | refine nq ?_ | refine sq ?_ | refine aq ?_
         rw [Kj (e := x.nrm.enc) (t := 22) (t2 := 22) (el := 70) (z := 11) (by simp [go_sem]) (by simp [go_sem]) (by simp [go_sem]) (by simp) (by simp [go_sem]) (by simp [go_sem]) (by simp [go_sem]) (AE.E.len _) ?a1]
         case a1 => simp [AC, AE.enc_eq, SV.cells, f1, f2, f3, f4, f5, f6, hR, k7]
         simp [go_sem, w1, -Int.natCast_add]
         refine ⟨k + 1, by omega, some (m2 + 1), ⟨by omega, by omega, by rw [hft, List.map_append]; exact hA.push (AE.E.st _) (AE.E.len _) (by omega) (by omega)⟩, ⟨by rw [hft]; simp [Fz.same], Fz.same⟩, ?_⟩
         rw [hft, List.map_append]
         have := DW (p := m2 + 1) (v := .sl (m2 + 1) 0 11 (1) false) (e := x.nrm.enc) ho (by omega) hA (H := hset (hset h2 m (some (.cells x.nrm.enc.cells))) m2 (some (.cells x.nrm.enc.cells))) (AO ho (by omega) (AO ho (by omega) hold))
         simpa [AE.enc_eq, SV.cells, DC.app, f1, f2, f3, f4, f5, f6, hR, k7] using this
     · by_cases k1 : x.kind = 1
       · by_cases ht : x.text.size = 0
         · have hd : Ce x.nrm := .inr ⟨by rw [f1, k1], by rw [f4, ht]⟩
           simp [go_sem, Aa, em0, AC, k1, (Gv _).2 ht, w1, -Int.natCast_add]
           rw [Ar, if_pos hd] at hft
           refine ⟨k + 1, by omega, none, ⟨by omega, by omega, by rw [hft]; exact hA.mono (by omega)⟩, ⟨by rw [hft]; first | exact Fz.same | (simp [Aa, Fz.same]), Fz.same⟩, fun i y e => ?_⟩
           rw [hft] at e
           obtain ⟨g1, g2⟩ := hacc i y e
           rw [AD _ _ (by omega)]; exact g2
         · have hd : ¬ Ce x.nrm := by rintro (⟨g, _⟩ | ⟨_, g⟩); rw [f1, k1] at g; exact absurd g (by decide); exact ht (by rw [← f4, g])
           rw [happ hd] at hft
           simp [go_sem, Aa, em0, AC, k1, mt (Gv _).1 ht]
           repeat first | refine nq ?_ | refine sq ?_ | refine aq ?_
           rw [Kj (e := x.nrm.enc) (t := 22) (t2 := 22) (el := 70) (z := 11) (by simp [go_sem]) (by simp [go_sem]) (by simp [go_sem]) (by simp) (by simp [go_sem]) (by simp [go_sem]) (by simp [go_sem]) (AE.E.len _) ?a1]
           case a1 => simp [AC, AE.enc_eq, SV.cells, f1, f2, f3, f4, f5, f6, hR, k1]
           simp [go_sem, w1, -Int.natCast_add]
           refine ⟨k + 1, by omega, some (m2 + 1), ⟨by omega, by omega, by rw [hft, List.map_append]; exact hA.push (AE.E.st _) (AE.E.len _) (by omega) (by omega)⟩, ⟨by rw [hft]; simp [Fz.same], Fz.same⟩, ?_⟩
           rw [hft, List.map_append]
           have := DW (p := m2 + 1) (v := .sl (m2 + 1) 0 11 (1) false) (e := x.nrm.enc) ho (by omega) hA (H := hset (hset h2 m (some (.cells x.nrm.enc.cells))) m2 (some (.cells x.nrm.enc.cells))) (AO ho (by omega) (AO ho (by omega) hold))
           simpa [AE.enc_eq, SV.cells, DC.app, f1, f2, f3, f4, f5, f6, hR, k1] using this
       · have hd : ¬ Ce x.nrm := by rintro (⟨g, _⟩ | ⟨g, _⟩); rw [f1] at g; exact k7 g; rw [f1] at g; exact k1 g
         rw [happ hd] at hft
         simp [go_sem, Aa, em0, AC, k1, k7]
         repeat first | refine nq ?_ | refine sq ?_ | refine aq ?_
         rw [Kj (e := x.nrm.enc) (t := 22) (t2 := 22) (el := 70) (z := 11) (by simp [go_sem]) (by simp [go_sem]) (by simp [go_sem]) (by simp) (by simp [go_sem]) (by simp [go_sem]) (by simp [go_sem]) (AE.E.len _) ?a1]
         case a1 => simp [AC, AE.enc_eq, SV.cells, f1, f2, f3, f4, f5, f6, hR]
         simp [go_sem, w1, -Int.natCast_add]
         refine ⟨k + 1, by omega, some (m2 + 1), ⟨by omega, by omega, by rw [hft, List.map_append]; exact hA.push (AE.E.st _) (AE.E.len _) (by omega) (by omega)⟩, ⟨by rw [hft]; simp [Fz.same], Fz.same⟩, ?_⟩
         rw [hft, List.map_append]
         have := DW (p := m2 + 1) (v := .sl (m2 + 1) 0 11 (1) false) (e := x.nrm.enc) ho (by omega) hA (H := hset (hset h2 m (some (.cells x.nrm.enc.cells))) m2 (some (.cells x.nrm.enc.cells))) (AO ho (by omega) (AO ho (by omega) hold))
         simpa [AE.enc_eq, SV.cells, DC.app, f1, f2, f3, f4, f5, f6, hR, k1] using this
   · have hj : j < m := hlo j rfl
     have hjm : j ≠ m := by omega
     have ho2 := ho2 j rfl
     have happ : ¬ Ce x.nrm → x.kind ≠ 1 → Ar ys x.nrm = ys ++ [x.nrm] := fun hd hk => by
      rw [Ar, if_neg hd]; split
      · rw [if_neg (by rw [f1]; exact fun g => hk g.1)]
      · rfl
     by_cases k7 : x.kind = 7
     · by_cases hR0 : R = []
       · have hd : Ce x.nrm := .inl ⟨by rw [f1, k7], by rw [hR, hR0]⟩
         simp [go_sem, Aa, em0, AC, k7, hR0, w1, -Int.natCast_add]
         rw [Ar, if_pos hd] at hft
         refine ⟨k + 1, by omega, some j, ⟨by omega, by omega, by rw [hft]; exact hA.mono (by omega)⟩, ⟨by rw [hft]; first | exact Fz.same | (simp [Aa, Fz.same]), Fz.same⟩, fun i y e => ?_⟩
         rw [hft] at e
         obtain ⟨g1, g2⟩ := hacc i y e
         rw [AD _ _ (by omega)]; exact g2
       · have hd : ¬ Ce x.nrm := by rintro (⟨_, g⟩ | ⟨g, _⟩); exact hR0 (by rw [← hR, g]); rw [f1, k7] at g; exact absurd g (by decide)
         rw [happ hd (by omega)] at hft
         simp [go_sem, Aa, em0, AC, k7, hR0]
         repeat first | refine nq ?_ | refine sq ?_ | refine aq ?_
         rw [F5 (es := ys.map AE.enc) (e := x.nrm.enc) (t := 22) (t2 := 22) (el := 70) (z := 11) (by simp [go_sem]) (by simp [go_sem]) (by simp [go_sem]) (by simp) (by simp [go_sem]) (by simp [go_sem]) (by simp [go_sem]) (by simp; omega) hA (AE.E.len _) ?a1 ?a2 _ (by simp)]
         case a1 => simp [AC, AE.enc_eq, SV.cells, f1, f2, f3, f4, f5, f6, hR, k7]
         case a2 => rw [AD _ _ (by omega), AD _ _ (by omega)]; exact ho2
         simp [go_sem, w1, -Int.natCast_add]
         refine ⟨k + 1, by omega, some (m2 + 1), ⟨by omega, by omega, by rw [hft, List.map_append]; exact hA.push (AE.E.st _) (AE.E.len _) (by omega) (by omega)⟩, ⟨by rw [hft]; simp [Fz.same], Fz.same⟩, ?_⟩
         rw [hft, List.map_append]
         have := DW (p := m2 + 1) (v := .sl (m2 + 1) 0 11 ((ys.map AE.enc).length + 1) false) (e := x.nrm.enc) ho (by omega) hA (H := hset (hset h2 m (some (.cells x.nrm.enc.cells))) m2 (some (.cells x.nrm.enc.cells))) (AO ho (by omega) (AO ho (by omega) hold))
         simpa [AE.enc_eq, SV.cells, DC.app, f1, f2, f3, f4, f5, f6, hR, k7] using this
     · by_cases k1 : x.kind = 1
       · by_cases ht : x.text.size = 0
         · have hd : Ce x.nrm := .inr ⟨by rw [f1, k1], by rw [f4, ht]⟩
           simp [go_sem, Aa, em0, AC, k1, (Gv _).2 ht, w1, -Int.natCast_add]
           rw [Ar, if_pos hd] at hft
           refine ⟨k + 1, by omega, some j, ⟨by omega, by omega, by rw [hft]; exact hA.mono (by omega)⟩, ⟨by rw [hft]; first | exact Fz.same | (simp [Aa, Fz.same]), Fz.same⟩, fun i y e => ?_⟩
           rw [hft] at e
           obtain ⟨g1, g2⟩ := hacc i y e
           rw [AD _ _ (by omega)]; exact g2
         · have hd : ¬ Ce x.nrm := by rintro (⟨g, _⟩ | ⟨_, g⟩); rw [f1, k1] at g; exact absurd g (by decide); exact ht (by rw [← f4, g])
           rcases List.eq_nil_or_concat ys with rfl | ⟨ys', y, rfl⟩
           · have hft' : Ar [] x.nrm = [] ++ [x.nrm] := by rw [Ar, if_neg hd]; rfl
             rw [hft'] at hft
             simp [go_sem, Aa, em0, AC, k1, mt (Gv _).1 ht]
             repeat first | refine nq ?_ | refine sq ?_ | refine aq ?_
             rw [F5 (es := [].map AE.enc) (e := x.nrm.enc) (t := 22) (t2 := 22) (el := 70) (z := 11) (by simp [go_sem]) (by simp [go_sem]) (by simp [go_sem]) (by simp) (by simp [go_sem]) (by simp [go_sem]) (by simp [go_sem]) (by simp) hA (AE.E.len _) ?a1 ?a2 _ (by simp)]
             case a1 => simp [AC, AE.enc_eq, SV.cells, f1, f2, f3, f4, f5, f6, hR, k1]
             case a2 => rw [AD _ _ (by omega), AD _ _ (by omega)]; exact ho2
             simp [go_sem, w1, -Int.natCast_add]
             refine ⟨k + 1, by omega, some (m2 + 1), ⟨by omega, by omega, by rw [hft, List.map_append]; exact hA.push (AE.E.st _) (AE.E.len _) (by omega) (by omega)⟩, ⟨by rw [hft]; simp [Fz.same], Fz.same⟩, ?_⟩
             rw [hft, List.map_append]
             have := DW (p := m2 + 1) (v := .sl (m2 + 1) 0 11 1 false) (e := x.nrm.enc) ho (by omega) hA (H := hset (hset h2 m (some (.cells x.nrm.enc.cells))) m2 (some (.cells x.nrm.enc.cells))) (AO ho (by omega) (AO ho (by omega) hold))
             simpa [AE.enc_eq, SV.cells, DC.app, f1, f2, f3, f4, f5, f6, hR, k1] using this
           · rw [List.concat_eq_append] at *
             have hym := Jl l (fun x hx => ⟨(hs x hx).1, (hs x hx).2.1⟩) k hk y (by rw [hys]; simp)
             have hl' : (ys' ++ [y]).length = ys'.length + 1 := by simp
             have w2 : IntKind.i64.wrap (ys'.length : Int) = (ys'.length : Int) := by rw [C8] <;> omega
             have hpos : (0 : Int) < (ys'.length : Int) + 1 := by omega
             have hpos2 : (ys'.length : Int) < (ys'.length : Int) + 1 := by omega
             have hAl : ((ys'.map AE.enc).flatMap SV.cells).length = ys'.length * 11 := by rw [BH (AE.E.size ys'), List.length_map]
             have ho3 : h2 j = some (.cells ((ys'.map AE.enc).flatMap SV.cells ++ y.enc.cells)) := by rw [ho2]; simp
             rw [AE.enc_eq y] at ho3
             simp only [SV.cells] at ho3
             generalize hA' : (ys'.map AE.enc).flatMap SV.cells = A at hAl ho3
             by_cases hy1 : y.kind = 1
             · simp [go_sem, Aa, em0, AC, AD, hjm, k1, mt (Gv _).1 ht, ho3, w2, hpos, hpos2, ← hAl, hy1, List.drop_length_add_append]
               repeat first | refine nq ?_ | refine sq ?_ | refine aq ?_
               refine Bg.pure _ _ _ _ _ _ (by simpa [AF.enc, AF.flat] using c58 y.head x.head hym.1 hxh) ?_
               by_cases hhd : y.head = x.head
               · have hcat : y.text.size + x.text.size ≤ 9223372036854775807 := by have := hym.2; omega
                 have hft' : Ar (ys' ++ [y]) x.nrm = ys' ++ [y.addText x.text] := by
                  rw [Ar, if_neg hd, List.getLast?_concat]
                  simp only
                  rw [if_pos ⟨by rw [f1, k1], hy1, by rw [hhd, f5]⟩, List.dropLast_concat, f4]
                 rw [hft'] at hft
                 simp [go_sem, hhd, AC, AD, hjm, ho3, w1, w2, ← hAl, hcat, List.drop_length_add_append, List.take_length_add_append, -Int.natCast_add]
                 repeat first | refine nq ?_ | refine sq ?_ | refine aq ?_
                 refine ⟨k + 1, by omega, some j, ⟨by omega, by omega, ?_⟩, ⟨by rw [hft]; simp [Fz.same], Fz.same⟩, fun i y' e => ?_⟩
                 · rw [hft]; exact ⟨by simp, fun i e => ⟨(hA.lt i e).1, by have := (hA.lt i e).2; omega⟩, AE.E.size _⟩
                 · rw [hft] at e
                   simp only [Aj] at e
                   by_cases e1 : i = j
                   · subst e1
                     rw [AC] at e ⊢
                     rw [← e]
                     have ec : (y.addText x.text).enc.cells = [AA y.kind, AA y.code, AA y.id, .str (y.text ++ x.text), Ah y.head.props, AA y.head.ins, AA y.head.move, Ao y.head.dels, AV y.head.layers, AG y.flow, Ay y.rows] := by rw [AE.enc_eq]; rfl
                     rw [List.map_append, List.flatMap_append, hA', List.map_singleton, List.flatMap_singleton, ec, hhd]
                     simp [Nat.add_assoc, List.drop_length_add_append]
                   · rw [AD _ _ e1] at e
                     obtain ⟨g1, g2⟩ := hacc i y' (by simp only [Aj]; rw [AD _ _ e1]; exact e)
                     rw [AD _ _ e1, AD _ _ (by omega)]; exact g2
               · have hft' : Ar (ys' ++ [y]) x.nrm = (ys' ++ [y]) ++ [x.nrm] := by
                  rw [Ar, if_neg hd, List.getLast?_concat]
                  simp only
                  rw [if_neg (by rw [f5]; exact fun g => hhd g.2.2)]
                 rw [hft'] at hft
                 simp [go_sem, hhd, AC]
                 repeat first | refine nq ?_ | refine sq ?_ | refine aq ?_
                 rw [F5 (es := (ys' ++ [y]).map AE.enc) (e := x.nrm.enc) (t := 22) (t2 := 22) (el := 70) (z := 11) (by simp [go_sem]) (by simp [go_sem]) (by simp [go_sem]) (by simp) (by simp [go_sem]) (by simp [go_sem]) (by simp [go_sem]) (by simp; omega) hA (AE.E.len _) ?a1 ?a2 _ (by simp)]
                 case a1 => simp [AC, AE.enc_eq, SV.cells, f1, f2, f3, f4, f5, f6, hR, k1]
                 case a2 => rw [AD _ _ (by omega), AD _ _ (by omega)]; exact ho2
                 simp [go_sem, w1, -Int.natCast_add]
                 refine ⟨k + 1, by omega, some (m2 + 1), ⟨by omega, by omega, by rw [hft, List.map_append]; exact hA.push (AE.E.st _) (AE.E.len _) (by omega) (by omega)⟩, ⟨by rw [hft]; simp [Fz.same], Fz.same⟩, ?_⟩
                 rw [hft, List.map_append]
                 have := DW (p := m2 + 1) (v := .sl (m2 + 1) 0 11 (((ys' ++ [y]).map AE.enc).length + 1) false) (e := x.nrm.enc) ho (by omega) hA (H := hset (hset h2 m (some (.cells x.nrm.enc.cells))) m2 (some (.cells x.nrm.enc.cells))) (AO ho (by omega) (AO ho (by omega) hold))
                 simpa [AE.enc_eq, SV.cells, DC.app, f1, f2, f3, f4, f5, f6, hR, k1] using this
             · simp [go_sem, Aa, em0, AC, AD, hjm, k1, mt (Gv _).1 ht, ho3, w2, hpos, hpos2, ← hAl, hy1]
               repeat first | refine nq ?_ | refine sq ?_ | refine aq ?_
               have hft' : Ar (ys' ++ [y]) x.nrm = (ys' ++ [y]) ++ [x.nrm] := by
                rw [Ar, if_neg hd, List.getLast?_concat]
                simp only
                rw [if_neg (fun g => hy1 g.2.1)]
               rw [hft'] at hft
               rw [F5 (es := (ys' ++ [y]).map AE.enc) (e := x.nrm.enc) (t := 22) (t2 := 22) (el := 70) (z := 11) (by simp [go_sem]) (by simp [go_sem]) (by simp [go_sem]) (by simp) (by simp [go_sem]) (by simp [go_sem]) (by simp [go_sem]) (by simp; omega) hA (AE.E.len _) ?a1 ?a2 _ (by simp)]
               case a1 => simp [AC, AE.enc_eq, SV.cells, f1, f2, f3, f4, f5, f6, hR, k1]
               case a2 => rw [AD _ _ (by omega), AD _ _ (by omega)]; exact ho2
               simp [go_sem, w1, -Int.natCast_add]
               refine ⟨k + 1, by omega, some (m2 + 1), ⟨by omega, by omega, by rw [hft, List.map_append]; exact hA.push (AE.E.st _) (AE.E.len _) (by omega) (by omega)⟩, ⟨by rw [hft]; simp [Fz.same], Fz.same⟩, ?_⟩
               rw [hft, List.map_append]
               have := DW (p := m2 + 1) (v := .sl (m2 + 1) 0 11 (((ys' ++ [y]).map AE.enc).length + 1) false) (e := x.nrm.enc) ho (by omega) hA (H := hset (hset h2 m (some (.cells x.nrm.enc.cells))) m2 (some (.cells x.nrm.enc.cells))) (AO ho (by omega) (AO ho (by omega) hold))
               simpa [AE.enc_eq, SV.cells, DC.app, f1, f2, f3, f4, f5, f6, hR, k1] using this
       · have hd : ¬ Ce x.nrm := by rintro (⟨g, _⟩ | ⟨g, _⟩); rw [f1] at g; exact k7 g; rw [f1] at g; exact k1 g
         rw [happ hd k1] at hft
         simp [go_sem, Aa, em0, AC, k1, k7]
         repeat first | refine nq ?_ | refine sq ?_ | refine aq ?_
         rw [F5 (es := ys.map AE.enc) (e := x.nrm.enc) (t := 22) (t2 := 22) (el := 70) (z := 11) (by simp [go_sem]) (by simp [go_sem]) (by simp [go_sem]) (by simp) (by simp [go_sem]) (by simp [go_sem]) (by simp [go_sem]) (by simp; omega) hA (AE.E.len _) ?a1 ?a2 _ (by simp)]
         case a1 => simp [AC, AE.enc_eq, SV.cells, f1, f2, f3, f4, f5, f6, hR]
         case a2 => rw [AD _ _ (by omega), AD _ _ (by omega)]; exact ho2
         simp [go_sem, w1, -Int.natCast_add]
         refine ⟨k + 1, by omega, some (m2 + 1), ⟨by omega, by omega, by rw [hft, List.map_append]; exact hA.push (AE.E.st _) (AE.E.len _) (by omega) (by omega)⟩, ⟨by rw [hft]; simp [Fz.same], Fz.same⟩, ?_⟩
         rw [hft, List.map_append]
         have := DW (p := m2 + 1) (v := .sl (m2 + 1) 0 11 ((ys.map AE.enc).length + 1) false) (e := x.nrm.enc) ho (by omega) hA (H := hset (hset h2 m (some (.cells x.nrm.enc.cells))) m2 (some (.cells x.nrm.enc.cells))) (AO ho (by omega) (AO ho (by omega) hold))
         simpa [AE.enc_eq, SV.cells, DC.app, f1, f2, f3, f4, f5, f6, hR, k1] using this
 · have : k = l.length := by omega
   subst this
   rw [List.take_length] at hA ⊢
   simp [go_sem]
   exact .inl (Kh ho hA AB hnm (Nat.le_refl _))
theorem Se (x : AK) (hs : x.head.sized) (H : PC 73 [AG x.flow] (AG (AU x.flow))) : PC 195 [x.enc] (AK.nrm x).enc := by
 intro h n
 refine gq Tryz.func195 rfl fun ho => ?_
 have e : (AK.nrm x).enc = .agg [AA x.id, Ah x.head.props, AA x.head.ins, AA x.head.move, Ao x.head.dels, AV x.head.layers, AG (AU x.flow)] := by cases x; rw [AK.nrm, AK.enc_eq]; rfl
 rw [e]
 simp [go_sem, AK.enc_eq, AC, AD]
 repeat first | refine nq ?_ | refine sq ?_ | refine aq ?_
 refine Bg.pure _ _ _ _ _ _ (by simpa [AF.enc, AF.flat] using N1 x.head hs) ?_
 simp [go_sem, AC, AD]
 repeat first | refine nq ?_ | refine sq ?_ | refine aq ?_
 refine Bg.pure _ _ _ _ _ _ H ?_
 simp [go_sem, AC]
 repeat first | refine nq ?_ | refine sq ?_ | refine aq ?_
 exact Av ho (by repeat (first | exact AB | refine AO ho (by omega) ?_)) rfl (by rw [← e]; exact AK.cl n _)
theorem Sb (x : AS) (hs : x.head.sized) (hc : x.cells.length ≤ 1048576) (H : ∀ (i : Nat) (h : i < x.cells.length), PC 195 [(x.cells[i]).enc] (AK.nrm x.cells[i]).enc) : PC 135 [x.enc] (AS.nrm x).enc := by
 intro h n
 refine gq Tryz.func135 rfl fun ho => ?_
 have h1 := (l194 x.cells hc 195 [] [] AK.nrm (fun i hi => H i hi)).pc (AK.E.size _) (fun n => AK.E.closedL n _)
 have e : (AS.nrm x).enc = .agg [Ah x.head.props, AA x.head.ins, AA x.head.move, Ao x.head.dels, AV x.head.layers, Bt (x.cells.map AK.nrm)] := by cases x; rw [AS.nrm, AS.enc_eq, AK.nrmL_eq]; rfl
 rw [e]
 simp [go_sem, AS.enc_eq, AC, AD, -List.map_map]
 repeat first | refine nq ?_ | refine sq ?_ | refine aq ?_
 refine Bg.pure _ _ _ _ _ _ (by simpa [AF.enc, AF.flat] using N1 x.head hs) ?_
 simp [go_sem, AC, AD, -List.map_map]
 repeat first | refine nq ?_ | refine sq ?_ | refine aq ?_
 refine Bg.pure _ _ _ _ _ _ h1 ?_
 simp [go_sem, AC, -List.map_map]
 repeat first | refine nq ?_ | refine sq ?_ | refine aq ?_
 exact Av ho (by repeat (first | exact AB | refine AO ho (by omega) ?_)) rfl (by rw [← e]; exact AS.cl n _)
theorem UA {l : List AE} (H : LC 73 [AG l] 11 ((AU l).map AE.enc)) : PC 73 [AG l] (AG (AU l)) := H.pc (AE.E.size _) fun n => AE.E.closedL n _
theorem Dg {x : AE} (h : x.sized) : x.head.sized ∧ x.text.size ≤ 1048576 ∧ x.rows.length ≤ 1048576 := by cases x; rw [AE.sized] at h; exact ⟨h.2.1, h.1, h.2.2.2.1⟩
def NI (x : AE) : Prop := PC 73 [AG x.flow] (AG (AU x.flow)) ∧ ∀ (i : Nat) (h : i < x.rows.length), PC 135 [(x.rows[i]).enc] (AS.nrm x.rows[i]).enc
mutual
theorem cNI : ∀ x : AE, x.sized → NI x
 | .mk k c i t hd f r, hs => by
  rw [AE.sized] at hs
  refine ⟨UA (O9 f hs.2.2.1 (fun x hx => Dg (AE.sizedL_mem hs.2.2.2.2.1 x hx)) (fun x hx => (PB f hs.2.2.2.2.1 x hx).1) fun x hx => (PB f hs.2.2.2.2.1 x hx).2), ?_⟩
  exact TR r hs.2.2.2.2.2
theorem PB : ∀ l : List AE, AE.sizedL l → ∀ x ∈ l, NI x
 | [], _, x, h => by simp at h
 | y :: l, hs, x, h => by
  rw [AE.sizedL] at hs
  rcases List.mem_cons.1 h with h | h
  · rw [h]; exact cNI y hs.1
  · exact PB l hs.2 x h
theorem c135 : ∀ x : AS, x.sized → PC 135 [x.enc] (AS.nrm x).enc
 | .mk hd c, hs => by
  rw [AS.sized] at hs
  exact Sb (.mk hd c) hs.1 hs.2.1 (TT c hs.2.2)
theorem TR : ∀ l : List AS, AS.sizedL l → ∀ (i : Nat) (h : i < l.length), PC 135 [(l[i]).enc] (AS.nrm l[i]).enc
 | [], _, i, h => by simp at h
 | x :: l, hs, 0, _ => by rw [AS.sizedL] at hs; exact c135 x hs.1
 | x :: l, hs, i + 1, h => by rw [AS.sizedL] at hs; exact TR l hs.2 i (by simpa using h)
theorem c195 : ∀ x : AK, x.sized → PC 195 [x.enc] (AK.nrm x).enc
 | .mk i hd f, hs => by
  rw [AK.sized] at hs
  exact Se (.mk i hd f) hs.1 (UA (O9 f hs.2.1 (fun x hx => Dg (AE.sizedL_mem hs.2.2 x hx)) (fun x hx => (PB f hs.2.2 x hx).1) fun x hx => (PB f hs.2.2 x hx).2))
theorem TT : ∀ l : List AK, AK.sizedL l → ∀ (i : Nat) (h : i < l.length), PC 195 [(l[i]).enc] (AK.nrm l[i]).enc
 | [], _, i, h => by simp at h
 | x :: l, hs, 0, _ => by rw [AK.sizedL] at hs; exact c195 x hs.1
 | x :: l, hs, i + 1, h => by rw [AK.sizedL] at hs; exact TT l hs.2 i (by simpa using h)
end
theorem l73 (l : List AE) (hl : l.length ≤ 1048576) (hs : AE.sizedL l) : LC 73 [AG l] 11 ((AU l).map AE.enc) :=
 O9 l hl (fun x hx => Dg (AE.sizedL_mem hs x hx)) (fun x hx => (PB l hs x hx).1) fun x hx => (PB l hs x hx).2
theorem c73 (l : List AE) (hl : l.length ≤ 1048576) (hs : AE.sizedL l) : PC 73 [AG l] (AG (AU l)) := UA (l73 l hl hs)
def Cc (r : BF) : Int :=
 if r.id < 1 ∨ 1073741824 < r.id then 18 else if r.author.size = 0 then 11 else if 40 < r.author.size then 10 else if BL r.author = false then 12 else if r.time < 0 ∨ 1099511627776 < r.time then 40 else 0
theorem c42 (r : BF) : PC 42 [r.enc] (AA (Cc r)) := by
 intro h n
 refine gq Tryz.func42 rfl fun ho => ?_
 have hh : ∀ y, ∀ o x, h o = some x → hset h n y o = some x := fun y => AO ho (Nat.le_refl _) AB
 by_cases a1 : r.id < 1
 · simp [go_sem, BF.enc, AC, a1]
   exact Av ho (hh _) (by simp [Cc, a1]) rfl
 by_cases a2 : 1073741824 < r.id
 · simp [go_sem, BF.enc, AC, a1, a2]
   exact Av ho (hh _) (by simp [Cc, a2]) rfl
 by_cases a3 : r.author.size = 0
 · simp [go_sem, BF.enc, AC, a1, a2, Gv, a3]
   exact Av ho (hh _) (by simp [Cc, a1, a2, a3]) rfl
 by_cases a4 : 40 < r.author.size
 · have a4' : (40 : Int) < r.author.size := by omega
   simp [go_sem, BF.enc, AC, a1, a2, Gv, a3, a4']
   exact Av ho (hh _) (by simp [Cc, a1, a2, a3, a4]) rfl
 have a4' : ¬ (40 : Int) < r.author.size := by omega
 simp [go_sem, BF.enc, AC, a1, a2, Gv, a3, a4']
 refine (O8 r.author (by omega)).use ?_
 cases a5 : BL r.author
 · simp [go_sem]
   exact Av ho (hh _) (by simp [Cc, a1, a2, a3, a4, a5]) rfl
 by_cases a6 : r.time < 0
 · simp [go_sem, AC, a6]
   exact Av ho (hh _) (by simp [Cc, a1, a2, a3, a4, a5, a6]) rfl
 by_cases a7 : 1099511627776 < r.time
 · simp [go_sem, AC, a6, a7]
   exact Av ho (hh _) (by simp [Cc, a1, a2, a3, a4, a5, a7]) rfl
 simp [go_sem, AC, a6, a7]
 exact Av ho (hh _) (by simp [Cc, a1, a2, a3, a4, a5, a6, a7]) rfl
def FW (l : List BF) (i : Nat) : Int := match l[i]? with
 | some r => if Cc r = 0 then if i = 0 then 0 else match l[i - 1]? with | some q => if HU r.id q.id = 0 then 7 else if HU r.id q.id = -1 then 6 else 0 | none => 0 else Cc r
 | none => 0
def Cs (l : List BF) : Int := if 256 < l.length then 9 else Ev (FW l) l.length
theorem c71 (l : List BF) (hl : l.length ≤ 1048576) : PC 71 [A3 l] (AA (Cs l)) := by
 intro h n
 refine gq Tryz.func71 rfl fun ho => ?_
 by_cases a0 : 256 < l.length
 · have a0' : (256 : Int) < l.length := by omega
   simp [go_sem, a0']
   exact BC ho rfl (by simp [Cs, a0])
 have a0' : ¬ (256 : Int) < l.length := by omega
 simp [go_sem, a0']
 refine An 1 (α := Nat) (fun k => [(0, A3 l), (9, A3 l), (10, AA l.length), (11, AA k)]) (fun _ => h) (fun k m => k ≤ l.length ∧ n ≤ m ∧ Ev (FW l) k = 0) (fun k => l.length - k) 0 ?_ ?_ AB ?_
 · exact ⟨Nat.zero_le _, Nat.le_refl _, rfl⟩
 · simp [Ai]
 rintro k m ⟨hk, hnm, hf⟩
 have hh : ∀ y, ∀ o x, h o = some x → hset h m y o = some x := fun y => AO ho hnm AB
 by_cases hlt : k < l.length
 · have w1 := wS k (by omega)
   obtain ⟨r, hr⟩ : ∃ r, l[k] = r := ⟨_, rfl⟩
   have hr' : l[k]? = some r := by simp [hlt, hr]
   have bad : ∀ e, FW l k = e → e ≠ 0 → Cs l = e := fun e h1 h2 => by rw [Cs, if_neg a0, IR _ hlt hf (by rw [h1]; exact h2), h1]
   have Dz : FW l k = 0 → Ev (FW l) (k + 1) = 0 := fun e => by rw [Ev, hf, if_pos rfl, e]
   simp [go_sem, hlt, hr, BF.enc, AC, Aq]
   refine PC.use (by simpa [BF.enc] using c42 r) ?_
   by_cases e0 : Cc r = 0
   · by_cases k0 : k = 0
     · subst k0
       simp [go_sem, e0]
       exact ⟨1, by omega, ⟨by omega, by omega, Dz (by simp [FW, hr', e0])⟩, Fz.same, hh _⟩
     · have w2 : IntKind.i64.wrap ((k : Int) - 1) = ((k - 1 : Nat) : Int) := by rw [C8] <;> omega
       obtain ⟨q, hq⟩ : ∃ q, l[k - 1]? = some q := ⟨l[k - 1], by simp [show k - 1 < l.length by omega]⟩
       have hq2 : l[k - 1] = q := by have := (List.getElem?_eq_some_iff.1 hq).2; exact this
       simp [go_sem, e0, k0, AC, w2, hq, BF.enc]
       repeat refine ⟨by kernel_rfl, ?_⟩
       refine Bg.pure _ _ _ _ _ _ (Sa r.id q.id) ?_
       by_cases c0 : HU r.id q.id = 0
       · simp [go_sem, c0]
         repeat refine ⟨by kernel_rfl, ?_⟩
         exact Av ho (hh _) (by rw [bad 7 (by simp [FW, hr', e0, k0, hq, c0]) (by simp)]) rfl
       · by_cases c1 : HU r.id q.id = -1
         · simp [go_sem, c1]
           repeat refine ⟨by kernel_rfl, ?_⟩
           exact Av ho (hh _) (by rw [bad 6 (by simp [FW, hr', e0, k0, hq, c1]) (by simp)]) rfl
         · simp [go_sem, c0, c1, w1, -Int.natCast_add]
           repeat refine ⟨by kernel_rfl, ?_⟩
           exact ⟨k + 1, by omega, ⟨by omega, by omega, Dz (by simp [FW, hr', e0, k0, hq, c0, c1])⟩, Fz.same, hh _⟩
   · simp [go_sem, e0]
     exact Av ho (hh _) (by rw [bad (Cc r) (by simp [FW, hr', e0]) e0]) rfl
 · have : k = l.length := by omega
   subst this
   simp [go_sem]
   exact BC ho rfl (by simp [Cs, a0, hf])
theorem c132 (r : BF) (id : Int) : PC 132 [r.enc, AA id] (AA (HU r.id id)) := by
 intro h n
 refine gq Tryz.func132 rfl fun ho => ?_
 simp [go_sem, BF.enc, AC]
 refine (Sa r.id id).use ?_
 simp [go_sem]
 exact Av ho (AO ho (Nat.le_refl _) AB) rfl rfl
def Hq (l : List BF) (id : Int) (i : Nat) : Int := match l[i]? with | some r => HU r.id id | none => 0
theorem c72 (l : List BF) (hl : l.length ≤ 1048576) (id : Int) : PC 72 [A3 l, AA id] (.tup [AA (A7 (Hq l id) l.length).1, .bool (A7 (Hq l id) l.length).2]) := by
 intro h n
 refine gq Tryz.func72 rfl fun ho => ?_
 simp [go_sem]
 refine (c131 l hl (AA id) 132 [] [] (Hq l id) fun i hi => by simpa [Hq, hi] using c132 l[i] id).use ?_
 simp [go_sem]
 exact BC ho rfl rfl
def GE : BF := ⟨0, ⟨#[]⟩, 0⟩
def GD (id : Int) : List BF → BF × Bool
 | [] => (GE, false)
 | r :: l => if r.id = id then (r, true) else GD id l
def B8 (l : List BF) (id : Int) : BF × Bool := if Cs l = 0 then (if (A7 (Hq l id) l.length).2 = true then ((l[(A7 (Hq l id) l.length).1]?).getD GE, true) else (GE, false)) else GD id l
theorem K1 (c : Nat → Int) (n : Nat) (h : (A7 c n).2 = true) : (A7 c n).1 < n := by
 simp only [A7, decide_eq_true_eq] at h ⊢; exact h.1
theorem c20 (l : List BF) (hl : l.length ≤ 1048576) (id : Int) : PC 20 [A3 l, AA id] (.tup [(B8 l id).1.enc, .bool (B8 l id).2]) := by
 intro h n
 refine gq Tryz.func20 rfl fun ho => ?_
 have hh : ∀ y z, ∀ o x, h o = some x → hset (hset h n y) n z o = some x := fun y z => AO ho (Nat.le_refl _) (AO ho (Nat.le_refl _) AB)
 have hcl : ∀ (r : BF) b, closed n (.tup [r.enc, .bool b]) = true := fun r b => by simp [closed, closedL, BF.E.cl]
 simp [go_sem]
 refine (c71 l hl).use ?_
 by_cases e0 : Cs l = 0
 · simp [go_sem, e0]
   refine (c72 l hl id).use ?_
   cases e1 : (A7 (Hq l id) l.length).2
   · simp [go_sem, AC]
     exact Av ho (hh _ _) (by simp [B8, e0, e1]; rfl) (hcl _ _)
   · have hlt := K1 _ _ e1
     simp [go_sem, hlt, AC, BF.enc]
     exact Av ho (hh _ _) (by simp [B8, e0, e1, hlt]) (hcl _ _)
 · simp [go_sem, e0]
   have hF : B8 l id = GD id l := by simp [B8, e0]
   rw [hF]
   refine An 1 (α := Nat) (fun k => [(1, AA id), (4, .ptr n 0), (25, A3 l), (26, AA l.length), (27, AA k)]) (fun _ => hset h n (some (.cells GE.enc.cells))) (fun k m => k ≤ l.length ∧ n < m ∧ GD id l = GD id (l.drop k)) (fun k => l.length - k) 0 ?_ ?_ AB ?_
   · exact ⟨Nat.zero_le _, Nat.lt_succ_self n, rfl⟩
   · simp [Ai]
   rintro k m ⟨hk, hnm, hf⟩
   have hne : n ≠ m := by omega
   have h2 : ∀ a b c, ∀ o x, h o = some x → hset (hset (hset h n a) m b) m c o = some x := fun a b c => AO ho (by omega) (AO ho (by omega) (AO ho (Nat.le_refl _) AB))
   by_cases hlt : k < l.length
   · have w1 := wS k (by omega)
     obtain ⟨r, hr⟩ : ∃ r, l[k] = r := ⟨_, rfl⟩
     rw [List.drop_eq_getElem_cons hlt, hr, GD] at hf
     by_cases e1 : r.id = id
     · simp [go_sem, hlt, hr, BF.enc, AC, AD, hne, e1, GE]
       rw [if_pos e1] at hf
       rw [hf]
       exact Av ho (AO ho (Nat.le_refl _) (h2 _ _ _)) (by simp [e1]) (hcl _ _)
     · simp [go_sem, hlt, hr, BF.enc, AC, e1, w1, -Int.natCast_add, GE]
       rw [if_neg e1] at hf
       refine ⟨k + 1, by omega, ⟨by omega, by omega, hf⟩, Fz.same, fun o y e => ?_⟩
       by_cases en : o = n
       · subst en
         simp only [AC, AD _ _ hne] at e ⊢
         exact e
       · simp only [AD _ _ en] at e
         exact h2 _ _ _ o y e
   · have : k = l.length := by omega
     subst this
     simp [go_sem, AC, GE, BF.enc]
     rw [List.drop_length] at hf
     rw [hf]
     exact Av ho (hh _ _) rfl (hcl _ _)
section
variable {F : Fence} {n : Nat} {P : Program} {ops : Array Oper} {Q : Exit → Act → World → Prop} {S : World → Prop} {md : Region.Mode}
def Ec (P : Program) (ops : Array Oper) (S : World → Prop) (o : Oper) (v : Value) (a : Act) : Prop := YieldsIf P ops S o v a ∧ ∀ w, o.about P w a.eval = none
theorem Ec.wpOpIn {i : Nat} {o : Oper} {v : Value} {a : Act} (hro : F.round = none) (hi : ops[i]? = some o) (hy : Ec P ops S o v a)
 {K : Act → World → Prop} {w : World} (hS : S w) (h : K (a.put o.dst v) w) : wpOpIn F n P ops Q i K a w := by
 unfold Go.wpOpIn
 simp only [hi]
 have hab : ∀ f, o.about P w a.eval = some f → F.fn f := fun f hf => by rw [hy.2 w] at hf; cases hf
 rcases hy.1 with ⟨hw, hv⟩ | ⟨hw, rfl⟩
 · simp only [hw, if_true, Oper.wpIn, hro, Oper.semAt_none, hv w hS, Oper.uponIn]; exact ⟨hab, h⟩
 · simp only [hw, Bool.false_eq_true, if_false]; exact ⟨hab, h⟩
theorem Ec.of_same {o : Oper} {v : Value} {a a' : Act} (hy : Ec P ops S o v a) (he : execOp a'.eval o = execOp a.eval o)
 (hw : Region.wanted o (yielded ops a'.tmps) = Region.wanted o (yielded ops a.tmps)) (hb : ∀ w, o.about P w a'.eval = o.about P w a.eval) : Ec P ops S o v a' :=
 ⟨hy.1.of_same he hw, fun w => by rw [hb w]; exact hy.2 w⟩
theorem Ov {j : Nat} {oi oj : Oper} {v : Value} (hro : F.round = none) (hj : ops[j]? = some oj) (hap : oi.apart ops oj = true)
 (hsi : ∀ cs b, oi.op ≠ .select cs b) (hsj : ∀ cs b, oj.op ≠ .select cs b)
 (hQ : ∀ c a w, Q (.panic c) (a.put oi.dst v) w → Q (.panic c) a w) {K : Act → World → Prop} {a : Act} {w : World}
 (hy : Ec P ops S oi v a) (h : wpOpIn F n P ops Q j K (a.put oi.dst v) w) :
 wpOpIn F n P ops Q j (fun a' w' => Ec P ops S oi v a' ∧ K (a'.put oi.dst v) w') a w := by
 obtain ⟨h1, h2, h3⟩ := Oper.apart_spec hap
 have keep : ∀ (a : Act), Ec P ops S oi v a → ∀ u, Ec P ops S oi v (a.put oj.dst u) := fun a hy u =>
  hy.of_same (execOp_put oi hsi a oj.dst u h3) (wanted_put oi a oj.dst u h3) (fun w => about_put oi w a oj.dst u h3)
 have keepD : ∀ d, Ec P ops S oi v { a with defers := d :: a.defers } := fun d => hy.of_same rfl rfl (fun _ => rfl)
 unfold wpOpIn at *
 simp only [hj] at *
 rw [wanted_put oj a oi.dst v h1, about_put oj w a oi.dst v h1] at h
 split
 · rename_i hw
   simp only [hw, if_true] at h
   unfold Oper.wpIn at *
   rw [about_put oj w a oi.dst v h1] at h
   refine ⟨h.1, ?_⟩
   have h := h.2
   rw [hro, Oper.semAt_none, execOp_put oj hsj a oi.dst v h1] at h
   rw [hro, Oper.semAt_none]
   generalize (execOp a.eval oj).run P w = r at *
   cases r with
   | ok x w' =>
    cases x <;> simp only [Oper.uponIn] at h ⊢
    case value u => exact ⟨keep a hy u, by rw [← Act.put_comm a v u h2]; exact h⟩
    case skip => exact ⟨keep a hy _, by rw [← Act.put_comm a v undef h2]; exact h⟩
    case defer d =>
     refine ⟨keep _ (keepD d) _, ?_⟩
     rw [← Act.put_comm _ v undef h2, ← Act.put_defers]
     exact h
    case enter f args =>
     refine ⟨h.1, CallsIn.mono h.2 fun e w'' he => ?_⟩
     cases e with
     | returned u => exact ⟨keep a hy u, by rw [← Act.put_comm a v u h2]; exact he⟩
     | panicked c => exact hQ _ _ _ he
     | outgrown => exact he
    case row row args => exact ⟨h.1, RowsIn.mono h.2 fun u w'' he => ⟨keep a hy u, by rw [← Act.put_comm a v u h2]; exact he⟩⟩
    case round l f tmps assign body =>
     refine ⟨h.1, RoundIn.mono h.2 fun e w'' he => ?_⟩
     cases e with
     | returned u => exact ⟨keep a hy u, by rw [← Act.put_comm a v u h2]; exact he⟩
     | panicked c => exact hQ _ _ _ he
     | outgrown => exact he
   | halt x w' =>
    cases x <;> simp only [Oper.uponIn] at h ⊢
    case panic u => exact hQ _ _ _ h
 · rename_i hw
   simp only [hw] at h
   exact ⟨h.1, keep a hy _, by rw [← Act.put_comm a v undef h2]; exact h.2⟩
def Lw (F : Fence) (n : Nat) (P : Program) (md : Region.Mode) (ops : Array Oper) (Q : Exit → Act → World → Prop) (S : World → Prop) : Nat → Array Bool → Act → World → Prop
 | 0, listed, a, w => Region.ready md ops listed = [] ∧ Q .normal a w
 | fuel + 1, listed, a, w =>
  (Region.ready md ops listed = [] → Q .normal a w) ∧
  ∀ i ∈ Region.ready md ops listed, wpOpIn F n P ops Q i (fun a' w' => S w' ∧ Lw F n P md ops Q S fuel (listed.setIfInBounds i true) a' w') a w
theorem JW : ∀ (fuel : Nat) (listed : Array Bool) (a : Act) (w : World), Lw F n P md ops Q S fuel listed a w → wpAnyIn F n P md ops Q fuel listed a w
 | 0, _, _, _, h => h
 | fuel + 1, _, _, _, h => ⟨h.1, fun i hi => wpOpIn_mono (fun a' w' h' => JW fuel _ a' w' h'.2) (h.2 i hi)⟩
theorem JX {i : Nat} {oi : Oper} {v : Value} (hro : F.round = none) (hi : ops[i]? = some oi) (hsel : ∀ (j : Nat) (o : Oper) cs b, ops[j]? = some o → o.op ≠ .select cs b)
 (hQ : ∀ c a w, Q (.panic c) (a.put oi.dst v) w → Q (.panic c) a w) :
 ∀ (fuel : Nat) (listed : Array Bool) (a : Act) (w : World),
  (∀ j oj, ops[j]? = some oj → j ≠ i → listed.getD j true = false → (∀ e ∈ oj.after, Region.binds md e = true → e.on ≠ i) → oi.apart ops oj = true) →
  i ∈ Region.ready md ops listed → Ec P ops S oi v a → S w →
  Lw F n P md ops Q S fuel (listed.setIfInBounds i true) (a.put oi.dst v) w → Lw F n P md ops Q S (fuel + 1) listed a w := by
 intro fuel
 induction fuel with
 | zero =>
  intro listed a w _ hr hy hS H
  refine ⟨fun h => (by rw [h] at hr; cases hr), fun j hj => ?_⟩
  by_cases hji : j = i
  · subst hji; exact hy.wpOpIn hro hi hS ⟨hS, H⟩
  · have := ready_mono hj hji
    rw [H.1] at this
    cases this
 | succ fuel ih =>
  intro listed a w hfree hr hy hS H
  refine ⟨fun h => (by rw [h] at hr; cases hr), fun j hj => ?_⟩
  by_cases hji : j = i
  · subst hji; exact hy.wpOpIn hro hi hS ⟨hS, H⟩
  · have h1 := H.2 j (ready_mono hj hji)
    obtain ⟨hjun, oj, hoj, hall⟩ := mem_ready.1 hj
    have hnot : ∀ e ∈ oj.after, Region.binds md e = true → e.on ≠ i := fun e he hb heq => by
     have h1 := hall e he hb
     have h0 := (mem_ready.1 hr).1
     rw [heq] at h1
     rcases Nat.lt_or_ge i listed.size with h' | h'
     · simp [h'] at h0 h1; rw [h0] at h1; cases h1
     · simp [Array.getElem?_eq_none h'] at h1
    have h2 := Ov hro hoj (hfree j oj hoj hji hjun hnot) (fun cs b => hsel i oi cs b hi) (fun cs b => hsel j oj cs b hoj) hQ hy h1
    have hfree' : ∀ k ok, ops[k]? = some ok → k ≠ i → (listed.setIfInBounds j true).getD k true = false →
     (∀ e ∈ ok.after, Region.binds md e = true → e.on ≠ i) → oi.apart ops ok = true := fun k ok hk hki hun hno => by
     refine hfree k ok hk hki ?_ hno
     by_cases hjk : j = k
     · subst hjk; exact hjun
     · rw [getD_set_ne true hjk] at hun; exact hun
    refine wpOpIn_mono (fun a' w' h3 => ⟨h3.2.1, ih (listed.setIfInBounds j true) a' w' hfree' (ready_mono hr (Ne.symm hji)) h3.1 h3.2.1 ?_⟩) h2
    rw [Array.setIfInBounds_comm _ _ hji]
    exact h3.2.2
end
def KJ (P : Program) (st : Bool) (ev : Operand → SV) : Op → Option SV
 | .move x | .assign x => some (ev x)
 | .fieldAddr t x i => Gb P t (ev x) i
 | .load t a => match st, ev a with | true, .iptr cs => (Bi cs 0 (Bb P t)).bind (O5 (Fo P t)) | _, _ => none
 | .indexAddr t x i => match ev x, ev i with | .imm z es f, .int _ n => if (BA P t).isSome then Ge P t (.imm z es f) n else none | _, _ => none
 | .extract x i => match ev x with | .tup vs => vs[i]? | _ => none
 | .unOp op _ x => match op, ev x with | .not, .bool b => some (.bool !b) | _, _ => none
 | .pick x a b => match ev x with | .bool t => some (if t then ev a else ev b) | _ => none
 | .makeFunc f a b => some (.fn f (a.toList.map ev) (b.toList.map ev))
 | .nilCheck x => match ev x with | .ptr o a => some (.ptr o a) | .iptr cs => some (.iptr cs) | _ => none
 | .call { callee := .builtin .min, args, .. } => match args.toList with | [x, y] => (match ev x, ev y with | .int k a, .int k' b => if k = k' then some (.int k (if b < a then b else a)) else none | _, _ => none) | _ => none
 | .call { callee := .builtin .max, args, .. } => match args.toList with | [x, y] => (match ev x, ev y with | .int k a, .int k' b => if k = k' then some (.int k (if b > a then b else a)) else none | _, _ => none) | _ => none
 | .binOp op _ x y _ => match ev x, ev y with | .int k a, .int k' b => if op ≠ .shl ∧ op ≠ .shr ∧ k = k' then (Jo op k a b) else none | _, _ => none
 | .call { callee := .builtin .len, args, argTypes } => match argTypes.toList, args.toList with | [t], [x] => (match ev x with | .imm _ es _ => if (BA P t).isSome then some (.int .i64 es.length) else none | _ => none) | _, _ => none
 | _ => none
def O2 (P : Program) (ev : Operand → Value) (o : Oper) (c : Cx) (v : SV) (W : World → Prop) : Prop := ∃ u, V c v u ∧ ∀ w, W w → (execOp ev o).run P w = .ok (.value u) w
section
variable {P : Program} {ev : Operand → Value} {o : Oper} {c : Cx} {evs : Operand → SV}
theorem QY {t : TypeId} {x : Operand} {v : SV} {cs : List SV} (ho : o.op = .load t x) (hx : evs x = .iptr cs) (hs : (Bi cs 0 (Bb P t)).bind (O5 (Fo P t)) = some v) (hv : V c (evs x) (ev x)) :
 O2 P ev o c v fun w => ∃ c', c'.w = w ∧ DV c c' := by
 rw [hx, V] at hv
 obtain ⟨a, vs, hu, hst, hc, hsp⟩ := hv
 rw [BI] at hc
 cases ht : Bi cs 0 (Bb P t) with
 | none => simp [ht] at hs
 | some r =>
  simp only [ht, Option.bind_some] at hs
  obtain ⟨hle, rfl⟩ := EK ht
  simp only [List.drop_zero] at hs
  have hc' := hc.take (Bb P t)
  have h1' : ∀ x ∈ vs.take (Bb P t), x.oneCell' = true := fun x hx => hst.one x (List.mem_of_mem_take hx)
  have hlen : (vs.take (Bb P t)).length = Bb P t := by have := hc.length; simp; omega
  have hcell' : ∀ c' : Cx, DV c c' → ∀ i x, (vs.take (Bb P t))[i]? = some x → c'.w.cell? ⟨a.block, a.off + i, none⟩ = some x := fun c' X i x hx => by
   rw [List.getElem?_take] at hx
   split at hx
   · exact (hst.mono X).cell _ _ hx
   · cases hx
  rcases Kk hs hc' h1' with ⟨hag, hv⟩ | ⟨hag, x, hx, hv⟩
  · refine ⟨_, hv, ?_⟩
    rintro w ⟨c', rfl, X⟩
    simp [execOp, ho, hu, Instr.loadAt, Instr.sureAddr, (Dn hsp hag hlen (hcell' c' X)).1 rfl]
  · refine ⟨_, hv, ?_⟩
    rintro w ⟨c', rfl, X⟩
    simp [execOp, ho, hu, Instr.loadAt, Instr.sureAddr, (Dn hsp hag hlen (hcell' c' X)).2 rfl x hx]
theorem PZ {t : TypeId} {x : Operand} {i : Nat} {v : SV} (ho : o.op = .fieldAddr t x i) (hs : Gb P t (evs x) i = some v) (hx : V c (evs x) (ev x)) : O2 P ev o c v fun _ => True := by
 simp only [Gb] at hs
 cases hf : H0 P t i with
 | none => simp [hf] at hs
 | some q =>
  obtain ⟨off, ft⟩ := q
  simp only [hf] at hs
  by_cases hz : Bb P ft = 0
  · simp [hz] at hs
  · simp only [hz, if_false] at hs
    obtain ⟨fs, f, hu, hfi, rfl, rfl⟩ : ∃ fs f, P.underlying t = some (.struct fs) ∧ fs[i]? = some f ∧ f.offset = off ∧ f.type = ft := by
     unfold H0 at hf
     cases hu : P.underlying t with
     | none => simp [hu] at hf
     | some d =>
      cases d <;> simp only [hu] at hf <;> try cases hf
      rename_i fs
      simp only [Option.map_eq_some_iff] at hf
      obtain ⟨f, hfi, he⟩ := hf
      cases he
      exact ⟨fs, f, rfl, hfi, rfl, rfl⟩
    obtain ⟨ii, hi, hsz⟩ : ∃ ii, P.info? f.type = some ii ∧ Bb P f.type = ii.size := by
     cases hi : P.info? f.type with
     | none => simp [Bb, Program.cellsOf, hi] at hz
     | some ii => exact ⟨ii, rfl, by simp [Bb, Program.cellsOf, hi]⟩
    have hfp : ∀ (a : Addr) (w : World), (fieldPlace a f).run P w = .ok (a.add f.offset) w := fun a w => by
     simp [fieldPlace, sizeOf, typeInfo, hi, show ¬ ii.size = 0 by omega]
    have hrun : ∀ (a : Addr) (w : World), ev x = .pointer (some a) → (execOp ev o).run P w = .ok (.value (.pointer (some (a.add f.offset)))) w := fun a w ha => by
     simp [execOp, ho, Instr.fieldAt, AJ hu, hfi, ha, Instr.sureAddr, hfp]
    split at hs <;> try (simp at hs; done)
    · rename_i j a hj
      cases hs
      rw [hj, V] at hx
      obtain ⟨b, st, hρ, hxx⟩ := hx
      refine ⟨_, ?_, fun w _ => hrun _ w hxx⟩
      rw [FI, V]
      exact ⟨b, st, hρ, by rw [Nat.add_assoc]⟩
    · rename_i cs hj
      cases hs
      rw [hj, V] at hx
      obtain ⟨a, vs, hxx, hst, hc, hsp⟩ := hx
      refine ⟨_, ?_, fun w _ => hrun _ w hxx⟩
      rw [CY hsp, V]
      refine ⟨_, vs.drop f.offset, rfl, ⟨fun _ => rfl, fun hv => hst.free (by rintro rfl; simp at hv), fun j x hj => ?_, fun x hx => hst.one x (List.mem_of_mem_drop hx)⟩, BI.2 ((BI.1 hc).drop _), rfl⟩
      rw [List.getElem?_drop] at hj
      simp only [Nat.add_assoc]
      exact hst.cell _ _ hj
theorem Pa {t : TypeId} {x y : Operand} {z' : Nat} {es : List SV} {full : Bool} {kk : IntKind} {n : Int} {v : SV} (ho : o.op = .indexAddr t x y) (hj : evs x = .imm z' es full) (hn : evs y = .int kk n) (hsl0 : (BA P t).isSome = true)
 (hs : Ge P t (.imm z' es full) n = some v) (hx : V c (evs x) (ev x)) (hy : V c (evs y) (ev y)) : O2 P ev o c v fun _ => True := by
 rw [hn] at hy
 have hy' := C9 hy
 obtain ⟨e, hsl⟩ := Option.isSome_iff_exists.1 hsl0
 have hu := As hsl
 simp only [Ge, hsl] at hs
 by_cases hz : Bb P e = 0
 · simp [hz] at hs
 obtain ⟨ii, hi, hsz⟩ := Es hz
 simp only [hz, if_false] at hs
 by_cases hc : z' = Bb P e ∧ 0 ≤ n
 · simp only [hc, and_self, if_true] at hs
   obtain ⟨hc1, hc2⟩ := hc
   cases he : es[n.toNat]? with
   | none => simp [he] at hs
   | some v =>
    simp only [he, Option.map_some, Option.some.injEq] at hs
    subst hs
    rw [hj, V] at hx
    rcases hx with ⟨hx, _⟩ | ⟨a, cap, vs, hxx, _, _, hst, hE⟩
    · subst hx; simp at he
    · subst hc1
      have hspot : a.spot = none := hst.spot (fun e0 => by have h1 := M6 hE; have h2 := (List.getElem?_eq_some_iff.1 he).1; rw [e0, List.length_nil] at h1; have h3 : 0 < es.length * Bb P e := Nat.mul_pos (by omega) (by omega); omega)
      obtain ⟨u, g1, g2, g3, g4, g5⟩ := ON hE he
      have hlt : n < es.length := by have := (List.getElem?_eq_some_iff.1 he).1; omega
      refine ⟨.pointer (some ⟨a.block, a.off + n.toNat * Bb P e, none⟩), ?_, fun w _ => ?_⟩
      · rw [V]
        exact ⟨_, u.cells.toList, rfl, by rw [← g4]; exact hst.sub _ _, BI.2 (g1.cells g2).1, rfl⟩
      · simp [execOp, ho, Instr.indexAt, hy', asIntOf, AJ hu, hxx, hc2, hlt, sizeOf, typeInfo, hi, CY hspot, hsz]
 · simp [hc] at hs
theorem O2.mono {v : SV} {W W' : World → Prop} (H : O2 P ev o c v W) (h : ∀ w, W' w → W w) : O2 P ev o c v W' := let ⟨u, h1, h2⟩ := H; ⟨u, h1, fun w hw => h2 w (h w hw)⟩
theorem Rs {st : Bool} {v : SV} (hs : KJ P st evs o.op = some v) (H : ∀ x ∈ o.op.operands, V c (evs x) (ev x)) {W : World → Prop} (hW : st = true → ∀ w, W w → ∃ c', c'.w = w ∧ DV c c') : O2 P ev o c v W := by
 unfold KJ at hs
 split at hs
 · rename_i x ho
   rw [ho] at H
   cases hs
   exact ⟨_, H x (by simp [Op.operands]), fun w _ => by simp [execOp, ho]⟩
 · rename_i x ho
   rw [ho] at H
   cases hs
   exact ⟨_, H x (by simp [Op.operands]), fun w _ => by simp [execOp, ho]⟩
 · rename_i t x i ho
   rw [ho] at H
   exact (PZ ho hs (H x (by simp [Op.operands]))).mono fun _ _ => trivial
 · rename_i t a ho
   rw [ho] at H
   split at hs <;> try cases hs
   rename_i cs hx
   exact (QY ho hx hs (H a (by simp [Op.operands]))).mono (hW rfl)
 · rename_i t x i ho
   rw [ho] at H
   split at hs <;> try cases hs
   rename_i z es f k n hx hy
   split at hs <;> try cases hs
   rename_i hsl
   exact (Pa ho hx hy hsl hs (H x (by simp [Op.operands])) (H i (by simp [Op.operands]))).mono fun _ _ => trivial
 · rename_i x i ho
   rw [ho] at H
   split at hs <;> try cases hs
   rename_i vs hx
   have hv := H x (by simp [Op.operands])
   rw [hx, V] at hv
   obtain ⟨us, hu, hl⟩ := hv
   obtain ⟨u, hu2, hvu⟩ := (BI.1 hl).get hs
   exact ⟨u, hvu, fun w _ => by simp [execOp, ho, hu, Instr.extract, hu2]⟩
 · rename_i op t x ho
   rw [ho] at H
   have hx := H x (by simp [Op.operands])
   split at hs <;> try cases hs
   rename_i b e1
   rw [e1] at hx
   exact ⟨.bool !b, by rw [V], fun w _ => by simp [execOp, ho, GT hx, Op.unary]⟩
 · rename_i x a b ho
   rw [ho] at H
   have hx := H x (by simp [Op.operands])
   split at hs <;> try cases hs
   rename_i t e1
   rw [e1] at hx
   have hx' := GT hx
   cases t
   · exact ⟨ev b, by simpa using H b (by simp [Op.operands]), fun w _ => by simp [execOp, ho, hx', asBool]⟩
   · exact ⟨ev a, by simpa using H a (by simp [Op.operands]), fun w _ => by simp [execOp, ho, hx', asBool]⟩
 · rename_i f a b ho
   rw [ho] at H
   cases hs
   refine ⟨.func f (a.map ev) (b.map ev), ?_, fun w _ => by simp [execOp, ho, Instr.makeFunc]⟩
   rw [V]
   exact ⟨(a.map ev).toList, (b.map ev).toList, by rw [Array.toArray_toList, Array.toArray_toList], BI.2 (GP a fun x hx => H x (by simp [Op.operands] at hx ⊢; exact .inl hx)), BI.2 (GP b fun x hx => H x (by simp [Op.operands] at hx ⊢; exact .inr hx))⟩
 · rename_i x ho
   rw [ho] at H
   have hx := H x (by simp [Op.operands])
   split at hs <;> try cases hs
   · rename_i j off e1
     rw [e1] at hx
     have hx' := hx
     rw [V] at hx
     obtain ⟨b, st, _, hu⟩ := hx
     exact ⟨ev x, hx', fun w _ => by simp [execOp, ho, hu]⟩
   · rename_i cs e1
     rw [e1] at hx
     have hx' := hx
     rw [V] at hx
     obtain ⟨a, vs, hu, _⟩ := hx
     exact ⟨ev x, hx', fun w _ => by simp [execOp, ho, hu]⟩
 · rename_i args ts ho
   rw [ho] at H
   split at hs <;> try cases hs
   rename_i x y e1
   have ea := IJ e1
   subst ea
   have hx := H x (by simp [Op.operands, Call.operands])
   have hy := H y (by simp [Op.operands, Call.operands])
   split at hs <;> try cases hs
   rename_i k a k' b g1 g2
   split at hs <;> try cases hs
   rename_i hk
   subst hk
   rw [g1] at hx
   rw [g2] at hy
   exact ⟨.int k (if b < a then b else a), by rw [V], fun w _ => BW (P := P) (ev := ev) ho w w _ fun cs => by simp [builtin, C9 hx, C9 hy, Builtin.min_, Builtin.min2]⟩
 · rename_i args ts ho
   rw [ho] at H
   split at hs <;> try cases hs
   rename_i x y e1
   have ea := IJ e1
   subst ea
   have hx := H x (by simp [Op.operands, Call.operands])
   have hy := H y (by simp [Op.operands, Call.operands])
   split at hs <;> try cases hs
   rename_i k a k' b g1 g2
   split at hs <;> try cases hs
   rename_i hk
   subst hk
   rw [g1] at hx
   rw [g2] at hy
   exact ⟨.int k (if b > a then b else a), by rw [V], fun w _ => BW (P := P) (ev := ev) ho w w _ fun cs => by simp [builtin, C9 hx, C9 hy, Builtin.max_, Builtin.max2]⟩
 · rename_i op t x y t2 ho
   rw [ho] at H
   have hx := H x (by simp [Op.operands])
   have hy := H y (by simp [Op.operands])
   split at hs <;> try cases hs
   rename_i k a k' b e1 e2
   split at hs <;> try cases hs
   rename_i hc
   obtain ⟨n1, n2, rfl⟩ := hc
   rw [e1] at hx
   rw [e2] at hy
   have hrun : ∀ w, ∃ r, (execOp ev o).run P w = .ok (.value r) w ∧ V c v r := fun w => by
    obtain ⟨r, h1, h2⟩ := LM (c := c) (P := P) (t := t) hs n1 n2 w
    exact ⟨r, by simp [execOp, ho, C9 hx, C9 hy, Ho (P := P), h1], h2⟩
   obtain ⟨u, hu⟩ : ∃ u, ∀ r, V c v r → r = u := by
    cases op <;> simp only [Jo] at hs <;> (try split at hs) <;> (try cases hs) <;> first | exact ⟨_, fun r hr => C9 hr⟩ | exact ⟨_, fun r hr => GT hr⟩ | (exact absurd rfl n1) | (exact absurd rfl n2)
   obtain ⟨r0, h1, h2⟩ := hrun c.w
   have e0 := hu r0 h2
   subst e0
   refine ⟨_, h2, fun w _ => ?_⟩
   obtain ⟨r, h3, h4⟩ := hrun w
   rw [h3, hu r h4]
 · rename_i args ts ho
   rw [ho] at H
   split at hs <;> try cases hs
   rename_i t x e1 e2
   split at hs <;> try cases hs
   rename_i z es f e3
   split at hs <;> try cases hs
   rename_i hsl
   obtain ⟨e, he⟩ := KU hsl
   have ea := J7 e2
   have et := J7 e1
   subst ea et
   have hv := H x (by simp [Op.operands, Call.operands])
   rw [e3, V] at hv
   refine ⟨.int .i64 es.length, by rw [V], fun w _ => BW (P := P) (ev := ev) ho w w _ fun cs => ?_⟩
   rcases hv with ⟨rfl, hu⟩ | ⟨a, cap, vs, hu, _⟩
   · simp [builtin, hu, Builtin.len_, AJ (As he), goInt]
   · simp [builtin, hu, Builtin.len_, AJ (As he), goInt]
 · cases hs
theorem PY {st : Bool} {v : SV} (hs : KJ P st evs o.op = some v) (w : World) : o.about P w ev = none := by
 unfold Oper.about
 unfold KJ at hs
 split at hs <;> first | (rename_i ho; rw [ho]; done) | (rename_i _ ho; rw [ho]; done) | (rename_i _ _ ho; rw [ho]; done) | (rename_i _ _ _ ho; rw [ho]; done) | (rename_i _ _ _ _ _ ho; rw [ho]; done) | (rename_i ho; rw [ho]; simp [resolve, Target.leads]; done) | cases hs
def Hh : Op → Bool
 | .move _ | .assign _ | .fieldAddr .. | .load .. | .indexAddr .. | .extract .. | .unOp .. | .pick .. | .binOp .. | .makeFunc .. | .nilCheck _ => true
 | .call { callee := .builtin .len, .. } | .call { callee := .builtin .min, .. } | .call { callee := .builtin .max, .. } => true
 | _ => false
theorem PQ (hs : Hh o.op = true) (w : World) : o.about P w ev = none := by
 unfold Oper.about
 cases ho : o.op <;> simp [ho, Hh] at hs ⊢
 split at hs <;> first | (rename_i h; cases h; done) | skip
 all_goals first | (rename_i h; cases h; simp [resolve, Target.leads]; done) | (simp at hs; done) | trace_state
end
inductive Tr where
 | nil
 | pure (i : Nat) (t : Tr)
 | one (i : Nat) (t : Tr)
 | two (i j : Nat) (t u : Tr)
def Lt (ops : Array Oper) : Array Bool → Tr → Bool
 | listed, .nil => (Region.ready .any ops listed).isEmpty
 | listed, .pure i t => Region.free .any ops listed i && (Region.ready .any ops listed).contains i && Lt ops (listed.setIfInBounds i true) t
 | listed, .one i t => Region.ready .any ops listed == [i] && Lt ops (listed.setIfInBounds i true) t
 | listed, .two i j t u => Region.ready .any ops listed == [i, j] && Lt ops (listed.setIfInBounds i true) t && Lt ops (listed.setIfInBounds j true) u
section
variable (E : Bl) (P : Program) (ops : Array Oper) (K : SA → Hp → Nat → Prop)
def Lo (o : Oper) (sa : SA) (h : Hp) (n : Nat) (T : SA → Hp → Nat → Prop) : Prop :=
 match DI ops sa o with
 | some b => if b = true then KS E P o sa h n fun v h' n' => T (De sa o.dst v) h' n' else T (De sa o.dst (.tup [])) h n
 | none => False
def Rr (st : Bool) (o : Oper) (sa : SA) (T : SA → Prop) : Prop :=
 match DI ops sa o with
 | some b => if b = true then match KJ P st (GW sa) o.op with | some v => T (De sa o.dst v) | none => False else Hh o.op = true ∧ T (De sa o.dst (.tup []))
 | none => False
def Nr : Bool → Tr → SA → Hp → Nat → Prop
 | _, .nil, sa, h, n => K sa h n
 | st, .pure i t, sa, h, n => match ops[i]? with | some o => Rr P ops st o sa fun sa' => Nr st t sa' h n | none => False
 | _, .one i t, sa, h, n => match ops[i]? with | some o => Lo E P ops o sa h n (Nr false t) | none => False
 | _, .two i j t u, sa, h, n => match ops[i]?, ops[j]? with | some o, some q => Lo E P ops o sa h n (Nr false t) ∧ Lo E P ops q sa h n (Nr false u) | _, _ => False
end
section
variable {E : Bl} {P : Program} {N : Nat} {ops : Array Oper} {K : SA → Hp → Nat → Prop}
def TN (E : Bl) (N n : Nat) (c : Cx) (K : SA → Hp → Nat → Prop) : Exit → Act → World → Prop := fun e a' w' =>
 e = .normal ∧ ∃ sa' h' n' c', K sa' h' n' ∧ c'.w = w' ∧ Bq h' c' ∧ Fr n' c' ∧ FR E N sa' c' a' ∧ FY n c n' c'
theorem Hz {i : Nat} {o : Oper} {sa : SA} {h : Hp} {n : Nat} {T : SA → Hp → Nat → Prop} {c : Cx} {a : Act} {Kr : Act → World → Prop} {Qr : Exit → Act → World → Prop} (hi : ops[i]? = some o) (hd : ∀ d, o.dst = some d → d < N)
 (H : Lo E P ops o sa h n T) (I : E.inv c) (R : Bq h c) (F : Fr n c) (A : FR E N sa c a)
 (hK : ∀ sa' h' n' c' a', T sa' h' n' → Bq h' c' → Fr n' c' → FR E N sa' c' a' → FY n c n' c' → Kr a' c'.w) : wpOpIn E.fc 0 P ops Qr i Kr a c.w := by
 unfold wpOpIn
 rw [hi]
 simp only
 unfold Lo at H
 split at H
 · rename_i b hg
   rw [Gc A hg]
   cases b
   · simp only [Bool.false_eq_true, if_false] at H ⊢
     exact ⟨fun _ _ => trivial, hK _ _ _ c _ H R F (A.put hd Kg) (FY.refl n c)⟩
   · simp only [if_true] at H ⊢
     exact Hy H I R F A fun v h' n' c' u hk hv R' F' X' => hK _ _ _ c' _ hk R' F' ((A.ext X'.ext).put hd hv) X'
 · exact H.elim
theorem SH (hro : E.ro = none) (hdst : ∀ (i : Nat) (o : Oper), ops[i]? = some o → ∀ d, o.dst = some d → d < N) (hsel : ∀ (j : Nat) (o : Oper) cs b, ops[j]? = some o → o.op ≠ .select cs b) {n0 : Nat} {c0 c1 : Cx} :
 ∀ (t : Tr) (st : Bool) (listed : Array Bool) (fuel : Nat) (sa : SA) (h : Hp) (n : Nat) (c : Cx) (a : Act), listed.size = ops.size → SR listed = fuel → Lt ops listed t = true → Nr E P ops K st t sa h n →
  E.inv c → Bq h c → Fr n c → FR E N sa c a → FY n0 c0 n c → DV c1 c → (st = true → c = c1) →
  Lw E.fc 0 P .any ops (TN E N n0 c0 K) (fun w => ∃ c', c'.w = w ∧ DV c1 c') fuel listed a c.w := by
 have hfr : E.fc.round = none := hro
 intro t
 induction t with
 | nil =>
  intro st listed fuel sa h n c a _ _ hok H I R F A X _ _
  have hr : Region.ready .any ops listed = [] := by simpa [Lt] using hok
  have hq : TN E N n0 c0 K .normal a c.w := ⟨rfl, sa, h, n, c, H, rfl, R, F, A, X⟩
  cases fuel with
  | zero => exact ⟨hr, hq⟩
  | succ fuel => exact ⟨fun _ => hq, by rw [hr]; simp⟩
 | pure i t ih =>
  intro st listed fuel sa h n c a hs hu hok H I R F A X X1 hst
  simp only [Lt, Bool.and_eq_true] at hok
  obtain ⟨⟨hfree, hr⟩, hok⟩ := hok
  simp only [Nr] at H
  split at H
  case h_2 => exact H.elim
  rename_i o ho
  have hmem : i ∈ Region.ready .any ops listed := by simpa using hr
  obtain ⟨hun, _, _, _⟩ := mem_ready.1 hmem
  have hlt := (Array.getElem?_eq_some_iff.1 ho).1
  have hF : listed.getD i false = false := by rw [GN (by omega)] at hun ⊢; exact hun
  have hu2 := JV (by omega) hF
  obtain ⟨fuel, rfl⟩ : ∃ f, fuel = f + 1 := ⟨fuel - 1, by omega⟩
  unfold Rr at H
  split at H
  case h_2 => exact H.elim
  rename_i b hg
  have hw := Gc A hg
  cases b
  · simp only [Bool.false_eq_true, if_false] at H
    refine JX (v := undef) hfr ho hsel (fun _ _ _ e => by cases e.1) fuel listed a c.w (Region.free_spec ho hfree) hmem ⟨.inr ⟨hw, rfl⟩, fun w => PQ H.1 w⟩ ⟨c, rfl, X1⟩ (ih st _ fuel _ h n c _ (by simp [hs]) (by omega) hok H.2 I R F (A.put (hdst i o ho) Kg) X X1 hst)
  · simp only [if_true] at H
    split at H
    case h_2 => exact H.elim
    rename_i v hv
    obtain ⟨u, hvu, hrun⟩ := Rs (c := c) (W := fun w => ∃ c', c'.w = w ∧ DV c1 c') hv (fun x _ => A.ev x) (fun e w hw => by rw [hst e]; exact hw)
    refine JX (v := u) hfr ho hsel (fun _ _ _ e => by cases e.1) fuel listed a c.w (Region.free_spec ho hfree) hmem ⟨.inl ⟨hw, hrun⟩, fun w => PY hv w⟩ ⟨c, rfl, X1⟩
     (ih st _ fuel _ h n c _ (by simp [hs]) (by omega) hok H I R F (A.put (hdst i o ho) hvu) X X1 hst)
 | one i t ih =>
  intro st listed fuel sa h n c a hs hu hok H I R F A X X1 hst
  simp only [Lt, Bool.and_eq_true, beq_iff_eq] at hok
  obtain ⟨hr, hok⟩ := hok
  simp only [Nr] at H
  split at H
  case h_2 => exact H.elim
  rename_i o ho
  have hmem : i ∈ Region.ready .any ops listed := by rw [hr]; simp
  obtain ⟨hun, _, _, _⟩ := mem_ready.1 hmem
  have hlt := (Array.getElem?_eq_some_iff.1 ho).1
  have hF : listed.getD i false = false := by rw [GN (by omega)] at hun ⊢; exact hun
  have hu2 := JV (by omega) hF
  obtain ⟨fuel, rfl⟩ : ∃ f, fuel = f + 1 := ⟨fuel - 1, by omega⟩
  refine ⟨fun e => (by rw [e] at hr; cases hr), fun j hj => ?_⟩
  rw [hr] at hj
  obtain rfl := List.mem_singleton.1 hj
  exact Hz ho (hdst j o ho) H I R F A fun sa' h' n' c' a' hT R' F' A' X' => ⟨⟨c', rfl, X1.trans X'.ext⟩, ih false _ fuel _ h' n' c' a' (by simp [hs]) (by omega) hok hT (E.ext X'.ext I) R' F' A' (X.trans X') (X1.trans X'.ext) (by simp)⟩
 | two i j t u iht ihu =>
  intro st listed fuel sa h n c a hs hu hok H I R F A X X1 hst
  simp only [Lt, Bool.and_eq_true, beq_iff_eq] at hok
  obtain ⟨⟨hr, hok1⟩, hok2⟩ := hok
  simp only [Nr] at H
  split at H
  case h_2 => exact H.elim
  rename_i o q ho hq
  have hun : ∀ k, k ∈ Region.ready .any ops listed → SR (listed.setIfInBounds k true) + 1 = SR listed := fun k hk => by
   obtain ⟨hun, o', ho', _⟩ := mem_ready.1 hk
   have hlt := (Array.getElem?_eq_some_iff.1 ho').1
   have hF : listed.getD k false = false := by rw [GN (by omega)] at hun ⊢; exact hun
   exact JV (by omega) hF
  have hui := hun i (by rw [hr]; simp)
  have huj := hun j (by rw [hr]; simp)
  obtain ⟨fuel, rfl⟩ : ∃ f, fuel = f + 1 := ⟨fuel - 1, by omega⟩
  refine ⟨fun e => (by rw [e] at hr; cases hr), fun k hk => ?_⟩
  rw [hr] at hk
  rcases List.mem_cons.1 hk with rfl | hk
  · exact Hz ho (hdst _ o ho) H.1 I R F A fun sa' h' n' c' a' hT R' F' A' X' => ⟨⟨c', rfl, X1.trans X'.ext⟩, iht false _ fuel _ h' n' c' a' (by simp [hs]) (by omega) hok1 hT (E.ext X'.ext I) R' F' A' (X.trans X') (X1.trans X'.ext) (by simp)⟩
  · obtain rfl := List.mem_singleton.1 hk
    exact Hz hq (hdst _ q hq) H.2 I R F A fun sa' h' n' c' a' hT R' F' A' X' => ⟨⟨c', rfl, X1.trans X'.ext⟩, ihu false _ fuel _ h' n' c' a' (by simp [hs]) (by omega) hok2 hT (E.ext X'.ext I) R' F' A' (X.trans X') (X1.trans X'.ext) (by simp)⟩
theorem Tj (hro : E.ro = none) (hm : P.follows .mixedOrders = true) (t : Tr) {id : Nat} {Q : CZ} {sa : SA} {h : Hp} {n : Nat} (hs : Region.noSelect ops = true) (hok : Lt ops (Array.replicate ops.size false) t = true)
 (H : Nr E P ops (Q .normal) true t sa h n) : HQ E P N (.region id ops true) Q sa h n := by
 intro hd c a I R F A
 simp only [Code.dok, List.all_eq_true] at hd
 have hdd : ∀ (i : Nat) (o : Oper), ops[i]? = some o → ∀ d, o.dst = some d → d < N := fun i o ho d e => by
  have := hd o (by simpa using Array.mem_of_getElem? ho)
  rw [e] at this; simpa using this
 have := SH (E := E) (P := P) (N := N) (K := Q .normal) (n0 := n) (c0 := c) (c1 := c.drew) hro hdd (Region.noSelect_spec hs) t true (Array.replicate ops.size false) ops.size sa h n c.drew a (by simp) (by simp [SR]) hok H
  (E.ext c.drew_ext I) R.drew (fun j hj => F j hj) (A.ext c.drew_ext) ⟨c.drew_ext, Nat.le_refl _, fun _ _ => rfl⟩ (DV.refl _) (fun _ => rfl)
 refine wpIn_mono (wpIn_region_any hm (JW (S := fun w => ∃ c', c'.w = w ∧ DV c.drew c') _ _ _ _ this)) ?_
 rintro e a' w' ⟨rfl, sa', h', n', c', h1, h2, h3, h4, h5, h6⟩
 exact ⟨sa', h', n', c', h1, h2, h3, h4, h5, h6⟩
end
noncomputable def Q7 : (E : Bl) → (P : Program) → (ops : Array Oper) → (K : SA → Hp → Nat → Prop) → Bool → Tr → SA → Hp → Nat → Prop := Classical.choose (BY Nr)
theorem Ip : Q7 = Nr := Classical.choose_spec (BY Nr)
noncomputable def ktr : (E : Bl) → (P : Program) → (ops : Array Oper) → (K : SA → Hp → Nat → Prop) → Tr → SA → Option Tmp → SV → Hp → Nat → Prop :=
 Classical.choose (BY fun E P ops K t sa dst v h n => Q7 E P ops K false t (De sa dst v) h n)
section
variable (E : Bl) (P : Program) (ops : Array Oper) (K : SA → Hp → Nat → Prop) (st : Bool) (t u : Tr) (sa : SA) (h : Hp) (n i j : Nat)
@[go_sem] theorem T9 (dst : Option Tmp) (v : SV) : ktr E P ops K t sa dst v h n = Q7 E P ops K false t (De sa dst v) h n := by
 unfold ktr; rw [Classical.choose_spec (BY fun E P ops K t sa dst v h n => Q7 E P ops K false t (De sa dst v) h n)]
theorem Sv (o : Oper) : ktr E P ops K t sa o.dst = fun v h' n' => Nr E P ops K false t (De sa o.dst v) h' n' := by
 funext v h' n'; rw [T9, Ip]
@[go_sem] theorem wtr_nil : Q7 E P ops K st .nil sa h n = K sa h n := by rw [Ip]; simp only [Nr]
@[go_sem] theorem wtr_pure : Q7 E P ops K st (.pure i t) sa h n = match ops[i]? with
 | some o => (match DI ops sa o with
  | some b => if b = true then (match KJ P st (GW sa) o.op with | some v => Q7 E P ops K st t (De sa o.dst v) h n | none => False) else Hh o.op = true ∧ Q7 E P ops K st t (De sa o.dst (.tup [])) h n
  | none => False)
 | none => False := by
 rw [Ip]; simp only [Nr, Rr]
 all_goals
  cases ops[i]? with
  | none => rfl
  | some o =>
   simp only
   cases DI ops sa o with
   | none => rfl
   | some b => cases b with
    | false => rfl
    | true => simp only [if_true]; cases KJ P st (GW sa) o.op <;> rfl
def Mt (o : Oper) : Prop :=
 match DI ops sa o with
 | some b => if b = true then KS E P o sa h n (ktr E P ops K t sa o.dst) else Q7 E P ops K false t (De sa o.dst (.tup [])) h n
 | none => False
theorem Om (o : Oper) : Mt E P ops K t sa h n o = Lo E P ops o sa h n (Nr E P ops K false t) := by
 unfold Mt Lo
 rw [Sv, Ip]
 all_goals
  cases DI ops sa o with
  | none => rfl
  | some b => cases b <;> rfl
@[go_sem] theorem wtr_one : Q7 E P ops K st (.one i t) sa h n = match ops[i]? with | some o => Mt E P ops K t sa h n o | none => False := by
 rw [Ip]; simp only [Nr, Om] <;> cases ops[i]? <;> rfl
@[go_sem] theorem wtr_two : Q7 E P ops K st (.two i j t u) sa h n = match ops[i]?, ops[j]? with | some o, some q => Mt E P ops K t sa h n o ∧ Mt E P ops K u sa h n q | _, _ => False := by
 rw [Ip]; simp only [Nr, Om] <;> cases ops[i]? <;> cases ops[j]? <;> rfl
end
attribute [go_sem] Mt KJ Hh
theorem CK {E : Bl} {N id : Nat} {ops : Array Oper} {Q : CZ} {sa : SA} {h : Hp} {n : Nat} (t : Tr) (hro : E.ro = none) (hs : Region.noSelect ops = true) (hok : Lt ops (Array.replicate ops.size false) t = true)
 (H : Q7 E Tryz.prog ops (Q .normal) true t sa h n) : SP E N (.region id ops true) Q sa h n :=
 Tj hro follows t hs hok (by rw [← Ip]; exact H)
end Go.Proofs.YtgakninlhfkkmaaGreat.Sh
namespace Go.Proofs
open Go.Shelf
def Tryz.sortA_ren : Go.Shelf.Ren := ⟨fun | 5 => 197 | 8 => 169 | 7 => 261 | 19 => 245 | 20 => 246 | 10 => 290 | 11 => 291 | 12 => 292 | 13 => 293 | 14 => 294 | 15 => 295 | 16 => 142 | 17 => 296 | 18 => 297 | 30 => 315 | 31 => 281 | 32 => 282 | 33 => 316 | 34 => 317 | 35 => 170 | 40 => 326 | n => n, fun | 23 => 61 | 25 => 3 | 3 => 3 | 32 => 213 | 22 => 61 | 0 => 0 | 44 => 306 | 46 => 308 | 4 => 4 | 36 => 300 | 35 => 299 | 41 => 123 | 5 => 5 | 9 => 9 | 53 => 342 | 57 => 72 | 63 => 373 | 64 => 374 | n => n, fun | n => n⟩
theorem Tryz.sortA : Go.Proofs.SlLaysM.n5 Tryz.prog Tryz.sortA_ren := {
 mixed := by kernel_rfl
 f5 := ⟨Tryz.f197.name, by decide, Tryz.func197.trans (congrArg some (by kernel_rfl))⟩
 f7 := ⟨Tryz.f261.name, by decide, Tryz.func261.trans (congrArg some (by kernel_rfl))⟩
 f8 := Tryz.func169.trans (congrArg some (by kernel_rfl))
 f10 := ⟨Tryz.f290.name, by decide, Tryz.func290.trans (congrArg some (by kernel_rfl))⟩
 f11 := ⟨Tryz.f291.name, by decide, Tryz.func291.trans (congrArg some (by kernel_rfl))⟩
 f12 := ⟨Tryz.f292.name, by decide, Tryz.func292.trans (congrArg some (by kernel_rfl))⟩
 f13 := ⟨Tryz.f293.name, by decide, Tryz.func293.trans (congrArg some (by kernel_rfl))⟩
 f14 := ⟨Tryz.f294.name, by decide, Tryz.func294.trans (congrArg some (by kernel_rfl))⟩
 f15 := ⟨Tryz.f295.name, by decide, Tryz.func295.trans (congrArg some (by kernel_rfl))⟩
 f16 := ⟨Tryz.f142.name, by decide, Tryz.func142.trans (congrArg some (by kernel_rfl))⟩
 f17 := ⟨Tryz.f296.name, by decide, Tryz.func296.trans (congrArg some (by kernel_rfl))⟩
 f18 := ⟨Tryz.f297.name, by decide, Tryz.func297.trans (congrArg some (by kernel_rfl))⟩
 f19 := Tryz.func245.trans (congrArg some (by kernel_rfl))
 f20 := Tryz.func246.trans (congrArg some (by kernel_rfl))
 f30 := ⟨Tryz.f315.name, by decide, Tryz.func315.trans (congrArg some (by kernel_rfl))⟩
 f31 := Tryz.func281.trans (congrArg some (by kernel_rfl))
 f32 := Tryz.func282.trans (congrArg some (by kernel_rfl))
 f33 := ⟨Tryz.f316.name, by decide, Tryz.func316.trans (congrArg some (by kernel_rfl))⟩
 f34 := ⟨Tryz.f317.name, by decide, Tryz.func317.trans (congrArg some (by kernel_rfl))⟩
 f35 := ⟨Tryz.f170.name, by decide, Tryz.func170.trans (congrArg some (by kernel_rfl))⟩
 f40 := ⟨Tryz.f326.name, by decide, Tryz.func326.trans (congrArg some (by kernel_rfl))⟩
 t0 := Tryz.underlying0
 a0 := Tryz.isAgg0
 z0 := Tryz.sizeOf0
 v0 := Tryz.zeroValue0
 t3 := Tryz.underlying3
 a3 := Tryz.isAgg3
 z3 := Tryz.sizeOf3
 v3 := Tryz.zeroValue3
 t4 := Tryz.underlying4
 a4 := Tryz.isAgg4
 z4 := Tryz.sizeOf4
 v4 := Tryz.zeroValue4
 t5 := Tryz.underlying5
 a5 := Tryz.isAgg5
 z5 := Tryz.sizeOf5
 v5 := Tryz.zeroValue5
 t9 := Tryz.underlying9
 a9 := Tryz.isAgg9
 z9 := Tryz.sizeOf9
 v9 := Tryz.zeroValue9
 t22 := Tryz.underlying61
 a22 := Tryz.isAgg61
 z22 := Tryz.sizeOf61
 v22 := Tryz.zeroValue61
 t23 := Tryz.underlying61
 a23 := Tryz.isAgg61
 z23 := Tryz.sizeOf61
 v23 := Tryz.zeroValue61
 t25 := Tryz.underlying3
 a25 := Tryz.isAgg3
 z25 := Tryz.sizeOf3
 v25 := Tryz.zeroValue3
 t32 := Tryz.underlying213
 a32 := Tryz.isAgg213
 z32 := Tryz.sizeOf213
 v32 := Tryz.zeroValue213
 t35 := Tryz.underlying299
 a35 := Tryz.isAgg299
 z35 := Tryz.sizeOf299
 v35 := Tryz.zeroValue299
 t36 := Tryz.underlying300
 a36 := Tryz.isAgg300
 z36 := Tryz.sizeOf300
 v36 := Tryz.zeroValue300
 t41 := Tryz.underlying123
 a41 := Tryz.isAgg123
 z41 := Tryz.sizeOf123
 v41 := Tryz.zeroValue123
 t44 := Tryz.underlying306
 a44 := Tryz.isAgg306
 z44 := Tryz.sizeOf306
 v44 := Tryz.zeroValue306
 t46 := Tryz.underlying308
 a46 := Tryz.isAgg308
 z46 := Tryz.sizeOf308
 v46 := Tryz.zeroValue308
 t53 := Tryz.underlying342
 a53 := Tryz.isAgg342
 z53 := Tryz.sizeOf342
 v53 := Tryz.zeroValue342
 t57 := Tryz.underlying72
 a57 := Tryz.isAgg72
 z57 := Tryz.sizeOf72
 v57 := Tryz.zeroValue72
 t63 := Tryz.underlying373
 a63 := Tryz.isAgg373
 z63 := Tryz.sizeOf373
 v63 := Tryz.zeroValue373
 t64 := Tryz.underlying374
 a64 := Tryz.isAgg374
 z64 := Tryz.sizeOf374
 v64 := Tryz.zeroValue374 }
end Go.Proofs
namespace Go.Proofs.YtgakninlhfkkmaaGreat.Sh
open Proofs
section
variable {h : Hp} {c : Cx}
theorem Bq.write2 {w' : World} {o b st : Nat} {x y : BV} (R : Bq h c) (ho : h o = some x) (hρ : c.ρ o = some (b, st))
 (hsize : c.w.heap.size ≤ w'.heap.size) (hother : ∀ b', b' ≠ b → b' < c.w.heap.size → w'.heap[b']? = c.w.heap[b']?) (hroom : rm c.w b ≤ rm w' b) (hos : w'.os = c.w.os) (hout : w'.output = c.w.output)
 (hy : DV c { c with w := w' } → EF { c with w := w' } o y) : Bq (hset h o (some y)) { c with w := w' } ∧ DV c { c with w := w' } := by
 have E : DV c { c with w := w' } := by
  refine ⟨fun _ _ e => e, hsize, fun b' hb' hn => ⟨hn, ?_⟩, fun b' => ?_, hos, hout⟩
  · refine hother b' ?_ hb'
    rintro rfl
    exact hn ((R.own _).2 ⟨o, x, st, ho, hρ⟩)
  · by_cases e : b' = b
    · subst e; exact hroom
    · rcases Nat.lt_or_ge b' c.w.heap.size with hl | hl
      · simp [rm, hother b' e hl]
      · simp [rm, Array.getElem?_eq_none hl]
 refine ⟨⟨fun j z e => ?_, fun i j z z' b1 s1 s2 e1 e2 e3 e4 => ?_, fun b' => ?_⟩, E⟩
 · simp only [hset] at e
   split at e
   · subst_vars; cases e; exact hy E
   · rename_i hj
     refine (R.obj j z e).mono E fun b2 Gp e' => ?_
     obtain ⟨b3, st3, e3, hl⟩ := (R.obj j z e).block
     rw [e'] at e3; cases e3
     refine hother b2 ?_ hl
     rintro rfl
     exact hj (R.inj j o z x b2 Gp st e ho e' hρ)
 · have live : ∀ j z, hset h o (some y) j = some z → ∃ z0, h j = some z0 := fun j z e => by
    simp only [hset] at e
    split at e
    · subst_vars; exact ⟨x, ho⟩
    · exact ⟨z, e⟩
   obtain ⟨z0, g1⟩ := live i z e1
   obtain ⟨z1, g2⟩ := live j z' e2
   exact R.inj i j z0 z1 b1 s1 s2 g1 g2 e3 e4
 · rw [R.own b']
   constructor
   · rintro ⟨j, z, s, e1, e2⟩
     by_cases hj : j = o
     · subst hj; exact ⟨j, y, s, by simp [hset], e2⟩
     · exact ⟨j, z, s, by simp [hset, hj, e1], e2⟩
   · rintro ⟨j, z, s, e1, e2⟩
     simp only [hset] at e1
     split at e1
     · subst_vars; exact ⟨_, x, s, ho, e2⟩
     · exact ⟨j, z, s, e1, e2⟩
end
def Cg (l : List Int) : List Int := l.mergeSort fun x y => decide (x ≤ y)
theorem P4 {c : Cx} : ∀ {l : List Int} {vs : List Value}, AQ (V c) (l.map AA) vs → vs = l.map (Value.int .i64)
 | [], _, h => by rw [h.nil_left]; rfl
 | a :: l, [], h => h.elim
 | a :: l, v :: vs, h => by
  have h1 := C9 h.1
  rw [h1, P4 h.2]; rfl
theorem Te : L8 Tryz.prog 197 = true := by unfold L8; rw [Tryz.func197]; kernel_rfl
theorem d197 (l : List Int) (hl : l.length < 4611686018427387904) {H : Hp} {n o : Nat} {full : Bool} (hH : H o = some (.cells (l.map AA))) :
 BO Tryz.prog 197 [.sl o 0 1 l.length full] H n (fun v h' n' => v = .tup [] ∧ h' = hset H o (some (.cells ((Cg l).map AA))) ∧ n' = n) := by
 refine ⟨Te, fun c vs _ R F A => ?_⟩
 obtain ⟨u, rfl, hv⟩ := A.single
 rw [V] at hv
 obtain ⟨b, st, cap, hρ, rfl, hcap, _, hroom⟩ := hv
 obtain ⟨b', st', arr, e, vs, g1, g2, g3, g4, g5, _⟩ := R.obj o _ hH
 rw [hρ] at g1; cases g1
 have hvs := P4 g4
 have hblk : b < c.w.heap.size := (Array.getElem?_eq_some_iff.1 g2).1
 have hget : ∀ j (hj : j < l.length), arr[st + j]? = some (.int .i64 l[j]) := fun j hj => g3 j _ (by rw [hvs]; simp [hj])
 have hHo : Go.Sort.Holds (Value.int .i64) c.w b (st + 0) l.toArray := fun j hj => by
  have hj' : j < l.length := by simpa using hj
  refine ⟨by simp [World.cell?, g2, hget j hj', hj'], by simp [World.frozen?, g2]⟩
 have HC := AnyM.slices_Sort_int Tryz.sortA b (st + 0) cap l c.w hHo hblk hl
 have HC' : Calls Tryz.prog 197 #[.slice (some ⟨b, st + 0, none⟩) l.length cap] c.w fun e w' => e = .returned (.tuple #[]) ∧ ∃ n os, w' = Go.Sort.grow (Go.Sort.putRow (Value.int .i64) (Go.Sort.ahead c.w n) b (st + 0) (Cg l).toArray) os := HC
 refine HC'.mono ?_
 rintro e w' ⟨rfl, k, os, rfl⟩
 have hlen : (Cg l).length = l.length := List.length_mergeSort _
 have hsz : (Go.Sort.grow (Go.Sort.putRow (Value.int .i64) (Go.Sort.ahead c.w k) b (st + 0) (Cg l).toArray) os).heap = (c.w.heap.modify b (Go.Sort.onCells (Go.Sort.putCells (Value.int .i64) (st + 0) (Cg l).toArray))) ++ os := rfl
 have hnew : (Go.Sort.grow (Go.Sort.putRow (Value.int .i64) (Go.Sort.ahead c.w k) b (st + 0) (Cg l).toArray) os).heap[b]? = some (.cells (Go.Sort.putCells (Value.int .i64) (st + 0) (Cg l).toArray arr) e (0, 0)) := by
  rw [hsz, Array.getElem?_append_left (by simpa using hblk), Array.getElem?_modify, if_pos rfl, g2]; rfl
 obtain ⟨R', X'⟩ := R.write2 (w' := Go.Sort.grow (Go.Sort.putRow (Value.int .i64) (Go.Sort.ahead c.w k) b (st + 0) (Cg l).toArray) os) (y := .cells ((Cg l).map AA)) hH hρ
  (by rw [hsz]; simp) (fun b' hb hl' => by rw [hsz, Array.getElem?_append_left (by simpa using hl'), Array.getElem?_modify, if_neg (Ne.symm hb)])
  (by unfold rm; rw [hnew, g2]; simp [Go.Sort.putCells]) rfl rfl (fun X => by
    refine ⟨b, st, _, e, (Cg l).map (Value.int .i64), hρ, hnew, fun i x hi => ?_, ?_, fun x hx => ?_, Ty.none⟩
    · simp only [List.getElem?_map, Option.map_eq_some_iff] at hi
      obtain ⟨z, hz, rfl⟩ := hi
      have hil := (List.getElem?_eq_some_iff.1 hz).1
      have := hget i (by omega)
      simp only [Go.Sort.putCells, Array.getElem?_mapIdx, this, Option.map_some, Nat.add_zero, List.size_toArray]
      rw [if_pos ⟨by omega, by omega⟩, show st + i - st = i by omega]
      simp [hil] at hz ⊢
      exact hz
    · exact AQ.map (R := fun a b => a = b) (fun a b e => by subst e; simp [V]) (by
       have : ∀ l : List Int, AQ (fun a b => a = b) l l := fun l => by induction l with | nil => trivial | cons a l ih => exact ⟨rfl, ih⟩
       exact this _)
    · obtain ⟨z, _, rfl⟩ := List.mem_map.1 hx; rfl)
 exact ⟨.tuple #[], .tup [], _, n, _, rfl, ⟨rfl, rfl, rfl⟩, rfl, by simp [V, VL], R', F, ⟨X', Nat.le_refl _, fun _ _ => rfl⟩⟩
theorem TU (z : Nat) (full : Bool) : PC 197 [.imm z [] full] (.tup []) := by
 intro h n
 refine ⟨Te, fun c vs _ R F A => ?_⟩
 obtain ⟨u, rfl, hv⟩ := A.single
 rw [V] at hv
 have fin : ∀ (p : Option Addr) (cap : Nat), Calls Tryz.prog 197 #[.slice p 0 cap] c.w fun e w' => e = .returned (.tuple #[]) ∧ w' = c.w := fun p cap => AnyM.slices_Sort_int_none Tryz.sortA p cap c.w
 have key : ∃ p cap, u = .slice p 0 cap := by
  rcases hv with ⟨_, rfl⟩ | ⟨a, cap, _, rfl, _⟩
  · exact ⟨_, _, rfl⟩
  · exact ⟨_, _, rfl⟩
 obtain ⟨p, cap, rfl⟩ := key
 refine (fin p cap).mono ?_
 rintro e w' ⟨rfl, rfl⟩
 exact ⟨.tuple #[], .tup [], h, n, c, rfl, ⟨rfl, rfl, rfl⟩, rfl, by simp [V, VL], R, F, FY.refl n c⟩
set_option maxRecDepth 10000
def EI (l : List Int) : List (SV × SV) := l.map fun x => (AA x, .bool true)
theorem Da {x : Int} : ∀ {l : List Int} (i : Nat), x ∉ l → Cq (AA x) (EI l) i = some none
 | [], i, _ => rfl
 | a :: l, i, h => by
  simp only [List.mem_cons, not_or] at h
  have : (x == a) = false := by simpa using h.1
  simp only [EI, List.map_cons, Cq, Gf, if_true, this]
  exact Da (i + 1) h.2
theorem Cw {x : Int} : ∀ {l : List Int} (i : Nat), x ∈ l → ∃ j, Cq (AA x) (EI l) i = some (some (i + j, .bool true)) ∧ l[j]? = some x
 | a :: l, i, h => by
  by_cases e : x = a
  · subst e
    exact ⟨0, by simp [EI, Cq, Gf], by simp⟩
  · have h' : x ∈ l := by rcases List.mem_cons.1 h with h | h; exact absurd h e; exact h
    obtain ⟨j, h1, h2⟩ := Cw (i + 1) h'
    have : (x == a) = false := by simpa using e
    refine ⟨j + 1, ?_, by simpa using h2⟩
    simp only [EI, List.map_cons, Cq, Gf, if_true, this]
    rw [show i + (j + 1) = i + 1 + j by omega]
    exact h1
theorem Im {x : Int} {l : List Int} {j : Nat} (h : l[j]? = some x) : Fc (EI l) j (AA x) (.bool true) = EI l := by
 unfold Fc EI
 apply List.ext_getElem?
 intro i
 simp only [List.getElem?_modify, List.getElem?_map]
 by_cases e : j = i
 · subst e; simp [h]
 · cases l[i]? <;> simp [e]
def CP (l : List Int) : List Int := l.foldl (fun out x => if x ∈ out then out else out ++ [x]) []
theorem IS (l : List Int) (k : Nat) (h : k < l.length) : CP (l.take (k + 1)) = if l[k] ∈ CP (l.take k) then CP (l.take k) else CP (l.take k) ++ [l[k]] := by
 unfold CP
 rw [List.take_succ_eq_append_getElem h, List.foldl_append]; rfl
theorem H4 (l : List Int) : ∀ k, k ≤ l.length → (CP (l.take k)).length ≤ k
 | 0, _ => by simp [CP]
 | k + 1, h => by
  rw [IS l k h]
  have := H4 l k (by omega)
  split
  · omega
  · simp; omega
theorem QM (l : List Int) (x : Int) : x ∈ CP l ↔ x ∈ l := by
 have gen : ∀ k, k ≤ l.length → (x ∈ CP (l.take k) ↔ x ∈ l.take k) := by
  intro k
  induction k with
  | zero => simp [CP]
  | succ k ih =>
   intro h
   have ih := ih (by omega)
   rw [IS l k h, List.take_succ_eq_append_getElem h]
   split
   · rename_i hm
     simp only [List.mem_append, List.mem_singleton]
     constructor
     · intro g; exact .inl (ih.1 g)
     · rintro (g | rfl)
       · exact ih.2 g
       · exact hm
   · simp only [List.mem_append, List.mem_singleton, ih]
 have := gen l.length (Nat.le_refl _)
 simpa using this
theorem SC.use {E : Bl} {f : FuncId} {args : List SV} {h : Hp} {n : Nat} {Q K : SV → Hp → Nat → Prop} (H : BO Tryz.prog f args h n Q) (hk : ∀ v h' n', Q v h' n' → K v h' n') : Ag E Tryz.prog f args h n K := Ag.lift (H.mono hk)
theorem Db : ∀ l : List Int, (l.map AA).flatMap SV.cells = l.map AA
 | [] => rfl
 | a :: l => by simp [SV.cells, Db l]
theorem c179 (l : List Int) (hl : l.length ≤ 1048576) : PC 179 [.imm 1 [.imm 1 (l.map AA) false] false] (.imm 1 ((Cg (CP l)).map AA) false) := by
 intro h n
 refine gq Tryz.func179 rfl fun ho => ?_
 simp [go_sem]
 have hn0 : h n = none := ho.none (Nat.le_refl n)
 refine An 1 (α := Nat × Option Nat) (fun q => [(3, .map n), (4, Aa 1 q.2 ((CP (l.take (if q.1 = 0 then 0 else l.length))).map AA)), (10, .imm 1 [.imm 1 (l.map AA) false] false), (11, AA 1), (12, AA q.1)])
  (fun q => Aj q.2 ((CP (l.take (if q.1 = 0 then 0 else l.length))).map AA) (hset h n (some (.map (EI (CP (l.take (if q.1 = 0 then 0 else l.length))))))))
  (fun q m => q.1 ≤ 1 ∧ n < m ∧ BZ (n + 1) m 1 q.2 ((CP (l.take (if q.1 = 0 then 0 else l.length))).map AA)) (fun q => 1 - q.1) (0, none) ?_ ?_ ?_ ?_
 · simp [CP]; exact BZ.nil _ _ _
 · simp [Ai, CP, Aa]
 · simp [CP, EI, Aj]
 rintro ⟨k, o⟩ m ⟨hk, hnm, hA⟩
 dsimp only at hk hA ⊢
 by_cases k0 : k = 0
 · subst k0
   simp only [if_true, List.take_zero] at hA ⊢
   simp [go_sem]
   refine An 1 (α := Nat × Option Nat) (fun q => [(3, .map n), (4, Aa 1 q.2 ((CP (l.take q.1)).map AA)), (10, .imm 1 [.imm 1 (l.map AA) false] false), (11, AA 1), (12, AA 0), (16, .imm 1 (l.map AA) false), (17, AA l.length), (18, AA q.1)])
    (fun q => Aj q.2 ((CP (l.take q.1)).map AA) (hset h n (some (.map (EI (CP (l.take q.1)))))))
    (fun q m => q.1 ≤ l.length ∧ n < m ∧ BZ (n + 1) m 1 q.2 ((CP (l.take q.1)).map AA)) (fun q => l.length - q.1) (0, o) ?_ ?_ ?_ ?_
   · exact ⟨Nat.zero_le _, hnm, by simpa using hA⟩
   · simp [Ai]
   · exact AB
   rintro ⟨i, o⟩ m ⟨hi, hnm, hA⟩
   dsimp only at hi hA ⊢
   have hdl := H4 l i hi
   have hon : ∀ j, o = some j → n < j ∧ j < m := fun j e => by have := hA.lt j e; omega
   by_cases hlt : i < l.length
   · have w1 := wS i (by omega)
     have hsn := IS l i hlt
     obtain ⟨x, hx⟩ : ∃ x, l[i] = x := ⟨_, rfl⟩
     rw [hx] at hsn
     generalize hout : CP (l.take i) = out at hA hsn hdl ⊢
     have hmap : Aj o (out.map AA) (hset h n (some (.map (EI out)))) n = some (.map (EI out)) := by
      cases o with
      | none => simp [Aj, hset]
      | some j => have := hon j rfl; simp [Aj, hset]; omega
     by_cases hmem : x ∈ out
     · obtain ⟨j, h1, h2⟩ := Cw 0 hmem
       rw [if_pos hmem] at hsn
       simp [go_sem, hlt, hx, hmap, h1, CD, w1, -Int.natCast_add]
       exact ⟨i + 1, by omega, o, ⟨⟨by omega, hnm, by rw [hsn]; exact hA⟩, by rw [hsn]; exact ⟨Fz.same, Fz.same⟩, by rw [hsn]; exact AB⟩⟩
     · have h1 := Da 0 hmem
       rw [if_neg hmem] at hsn
       have hap := fun (H : Hp) (k p : Nat) (e1 : H k = some (.cells (AA x).cells)) (e2 : ∀ j, o = some j → H j = some (.cells ((out.map AA).flatMap SV.cells))) =>
        HH (P := Tryz.prog) (H := H) (t := 61) (t2 := 61) (el := 3) (by simp [go_sem]) (by simp [go_sem]) (by simp [go_sem]) (by simp) (by simp [go_sem]) (by simp [go_sem]) (by simp [go_sem]) (by simp; omega) hA (e := AA x) rfl e1 e2 p
       simp [go_sem, hlt, hx, hmap, h1, CD, w1, -Int.natCast_add]
       rw [hap _ _ _ (by simp [AC, SV.cells]) (by
        intro j e
        have := hon j e
        subst e
        simp only [hset, Aj]
        grind)]
       simp [go_sem, -Int.natCast_add]
       refine ⟨i + 1, by omega, some (m + 1), ⟨⟨by omega, by omega, ?_⟩, ⟨?_, ?_⟩, ?_⟩⟩
       · rw [hsn, List.map_append]; exact hA.push rfl rfl (by omega) (by omega)
       · rw [hsn]; simp [Aa, Fz.same]
       · exact Fz.same
       · rw [hsn]
         intro j y
         have hoj := ho j y
         cases o with
         | none => simp only [Aj, hset, EI, List.map_append, List.map_cons, List.map_nil, Option.map_none, List.flatMap_append, List.flatMap_cons, List.flatMap_nil, List.append_nil, Db, SV.cells]; grind
         | some q => have := hon q rfl; simp only [Aj, hset, EI, List.map_append, List.map_cons, List.map_nil, Option.map_some, List.flatMap_append, List.flatMap_cons, List.flatMap_nil, List.append_nil, Db, SV.cells]; grind
   · have : i = l.length := by omega
     subst this
     simp [go_sem]
     have w1 : IntKind.i64.wrap 1 = 1 := by decide
     exact ⟨1, by omega, o, ⟨by omega, hnm, by simpa using hA⟩, ⟨by simp [Fz.same], by simp [w1, Fz.same]⟩, by simp⟩
 · have : k = 1 := by omega
   subst this
   simp [go_sem]
   simp only [Nat.one_ne_zero, if_false, List.take_length] at hA
   cases o with
   | none =>
    have he := hA.none rfl
    simp only [List.map_eq_nil_iff] at he
    simp only [Aa]
    refine (TU 0 true).use ?_
    simp [go_sem, Aj]
    have hs : Cg (CP l) = [] := by rw [he]; simp [Cg]
    rw [hs]
    exact JP ho (AO ho (Nat.le_refl _) AB) (by simp) rfl
   | some j =>
    have hj := hA.lt j rfl
    simp only [Aa, List.length_map]
    have hdl : (CP l).length ≤ l.length := by have := H4 l l.length (Nat.le_refl _); simpa using this
    refine SC.use (d197 (CP l) (by omega) (by simp [Aj, hset, Db])) ?_
    rintro v h' n' ⟨rfl, rfl, rfl⟩
    simp [go_sem]
    have hlen : (Cg (CP l)).length = (CP l).length := List.length_mergeSort _
    refine Rv LN (l := Cg (CP l)) (full := false) ho (fun o x e => ?_) (show n ≤ j by omega) (by rw [hlen]) (by simp [hset, Db])
    have := ho o x e
    simp only [hset, Aj]
    grind
theorem Ez.mono {E : Bl} {P : Program} {l : Nat} {args : List SV} {h : Hp} {n : Nat} {Q Q' : SV → Hp → Nat → Prop} (H : Ez E P l args h n Q) (hq : ∀ v h' n', Q v h' n' → Q' v h' n') : Ez E P l args h n Q' := fun c vs I R F A => by
 obtain ⟨a, b, c', d, e, g⟩ := H c vs I R F A
 exact ⟨a, b, c', d, e, g.mono fun _ _ ⟨u, v, h', n', c', e, q, r⟩ => ⟨u, v, h', n', c', e, hq _ _ _ q, r⟩⟩
def HG (J : (Nat → Prop) → Hp → Nat → Prop) (Jx : (Nat → Prop) → Hp → Nat → Prop) (D : Nat → Prop) (h : Hp) (m : Nat) : SV → Hp → Nat → Prop := fun v h' m' =>
 m ≤ m' ∧ ∃ D', (∀ o, D' o → D o ∨ (m ≤ o ∧ o < m')) ∧ (∀ o, ¬ D o → o < m → h' o = h o) ∧ ((v = .bool true ∧ J D' h' m') ∨ (v = .bool false ∧ Jx D' h' m'))
structure YJ (E : Bl) (l : Nat) {X : Type} (enc : X → List SV) (xs : List X) (J : Nat → (Nat → Prop) → Hp → Nat → Prop) (Jx : (Nat → Prop) → Hp → Nat → Prop) : Prop where
 step : ∀ k x D h m, xs[k]? = some x → J k D h m → Ez E Tryz.prog l (enc x) h m (HG (J (k + 1)) Jx D h m)
 keep : ∀ k D h m h' m', J k D h m → m ≤ m' → (∀ o, D o → h' o = h o) → J k D h' m'
 lt : ∀ k D h m, J k D h m → ∀ o, D o → o < m
def Q3 {X : Type} (xs : List X) (k : Nat) (L : List X) : Prop := ∃ rest, xs.drop k = L ++ rest
theorem Q3.app {X : Type} {xs A B : List X} {k : Nat} (H : Q3 xs k (A ++ B)) : Q3 xs k A ∧ Q3 xs (k + A.length) B := by
 obtain ⟨r, h⟩ := H
 refine ⟨⟨B ++ r, by rw [h, List.append_assoc]⟩, ⟨r, ?_⟩⟩
 rw [← List.drop_drop, h, List.append_assoc, List.drop_left]
theorem Q3.head {X : Type} {xs L : List X} {x : X} {k : Nat} (H : Q3 xs k (x :: L)) : xs[k]? = some x ∧ Q3 xs (k + 1) L := by
 obtain ⟨r, h⟩ := H
 have h1 : (xs.drop k)[0]? = some x := by rw [h]; rfl
 refine ⟨by simpa using h1, r, ?_⟩
 rw [← List.drop_drop, h]; rfl
section
variable {E : Bl} {yl : Nat} {X : Type} {enc : X → List SV} {xs : List X} {J : Nat → (Nat → Prop) → Hp → Nat → Prop} {Jx : (Nat → Prop) → Hp → Nat → Prop}
structure JZ (J : Nat → (Nat → Prop) → Hp → Nat → Prop) (D : Nat → Prop) (h : Hp) (m : Nat) (own : List (Nat × BV)) (cnt : Nat) (D2 : Nat → Prop) (h2 : Hp) (m2 : Nat) : Prop where
 lt : m ≤ m2
 j : J cnt D2 h2 m2
 own : ∀ p ∈ own, h2 p.1 = some p.2 ∧ m ≤ p.1 ∧ p.1 < m2 ∧ ¬ D2 p.1
 sub : ∀ o, D2 o → D o ∨ (m ≤ o ∧ o < m2)
 old : ∀ o, ¬ D o → o < m → h2 o = h o
theorem JZ.keep (Y : YJ E yl enc xs J Jx) {D : Nat → Prop} {h : Hp} {m : Nat} {own : List (Nat × BV)} {cnt : Nat} {D2 : Nat → Prop} {h2 : Hp} {m2 : Nat} (M : JZ J D h m own cnt D2 h2 m2) {hb : Hp} {mb : Nat} (hm : m2 ≤ mb) (hh : ∀ o, o < m2 → hb o = h2 o) : J cnt D2 hb mb :=
 Y.keep _ _ _ _ _ _ M.j hm fun o g => hh o (Y.lt _ _ _ _ M.j o g)
theorem JZ.step {D : Nat → Prop} {h : Hp} {m : Nat} {own : List (Nat × BV)} {cnt cnt' : Nat} {D2 : Nat → Prop} {h2 : Hp} {m2 : Nat} (M : JZ J D h m own cnt D2 h2 m2) {hb : Hp} {mb : Nat} (hm : m2 ≤ mb) (hh : ∀ o, o < m2 → hb o = h2 o)
 {v : SV} {h3 : Hp} {m3 : Nat} (W : HG (J cnt') Jx D2 hb mb v h3 m3) : (v = .bool true ∧ ∃ D3, JZ J D h m own cnt' D3 h3 m3) ∨ (v = .bool false ∧ HG (J cnt') Jx D h m v h3 m3) := by
 obtain ⟨hm3, D3, hDD, hold, hv⟩ := W
 have h1 : ∀ o, D3 o → D o ∨ (m ≤ o ∧ o < m3) := fun o g => by
  rcases hDD o g with g | g
  · rcases M.sub o g with g | g
    · exact .inl g
    · exact .inr (by omega)
  · have := M.lt; exact .inr (by omega)
 have h4 : ∀ o, ¬ D o → o < m → h3 o = h o := fun o g1 g2 => by
  have hn : ¬ D2 o := fun g => by rcases M.sub o g with g | g; exact g1 g; omega
  have := M.lt
  rw [hold o hn (by omega), hh o (by omega), M.old o g1 g2]
 have := M.lt
 rcases hv with ⟨rfl, hj⟩ | ⟨rfl, hj⟩
 · refine .inl ⟨rfl, D3, by omega, hj, fun p hp => ?_, h1, h4⟩
   obtain ⟨g1, g2, g3, g4⟩ := M.own p hp
   refine ⟨by rw [hold _ g4 (by omega), hh _ g3, g1], g2, by omega, fun g => ?_⟩
   rcases hDD _ g with g | g
   · exact g4 g
   · omega
 · exact .inr ⟨rfl, by omega, D3, h1, h4, .inr ⟨rfl, hj⟩⟩
theorem JZ.done {D : Nat → Prop} {h : Hp} {m : Nat} {own : List (Nat × BV)} {cnt : Nat} {D2 : Nat → Prop} {h2 : Hp} {m2 : Nat} (M : JZ J D h m own cnt D2 h2 m2) : HG (J cnt) Jx D h m (.bool true) h2 m2 :=
 ⟨M.lt, D2, M.sub, M.old, .inl ⟨rfl, M.j⟩⟩
theorem JZ.more (Y : YJ E yl enc xs J Jx) {D : Nat → Prop} {h : Hp} {m : Nat} {own : List (Nat × BV)} {cnt : Nat} {D2 : Nat → Prop} {h2 : Hp} {m2 : Nat} (M : JZ J D h m own cnt D2 h2 m2) {hb : Hp} {mb : Nat} (hm : m2 ≤ mb) (hh : ∀ o, o < m2 → hb o = h2 o) : JZ J D h m own cnt D2 hb mb :=
 ⟨Nat.le_trans M.lt hm, M.keep Y hm hh, fun p hp => by obtain ⟨g1, g2, g3, g4⟩ := M.own p hp; exact ⟨by rw [hh _ g3, g1], g2, by omega, g4⟩, fun o g => by rcases M.sub o g with g | g; exact .inl g; exact .inr (by omega), fun o g1 g2 => by have := M.lt; rw [hh o (by omega), M.old o g1 g2]⟩
theorem JZ.add {D : Nat → Prop} {h : Hp} {m : Nat} {own : List (Nat × BV)} {cnt : Nat} {D2 : Nat → Prop} {h2 : Hp} {m2 : Nat} (M : JZ J D h m own cnt D2 h2 m2) {j : Nat} {y : BV} (h1 : h2 j = some y) (h3 : m ≤ j) (h4 : j < m2) (h5 : ¬ D2 j) : JZ J D h m ((j, y) :: own) cnt D2 h2 m2 :=
 ⟨M.lt, M.j, fun p hp => by rcases List.mem_cons.1 hp with rfl | hp; exact ⟨h1, h3, h4, h5⟩; exact M.own p hp, M.sub, M.old⟩
theorem JZ.drop {D : Nat → Prop} {h : Hp} {m : Nat} {own : List (Nat × BV)} {p : Nat × BV} {cnt : Nat} {D2 : Nat → Prop} {h2 : Hp} {m2 : Nat} (M : JZ J D h m (p :: own) cnt D2 h2 m2) : JZ J D h m own cnt D2 h2 m2 :=
 ⟨M.lt, M.j, fun q hq => M.own q (List.mem_cons_of_mem _ hq), M.sub, M.old⟩
theorem JZ.any {cnt cnt' : Nat} {D : Nat → Prop} {h : Hp} {m : Nat} {h2 : Hp} {m2 : Nat} (H : HG (J cnt) Jx D h m (.bool false) h2 m2) : HG (J cnt') Jx D h m (.bool false) h2 m2 := by
 obtain ⟨a, D', b, c, d | d⟩ := H
 · exact absurd d.1 (by simp)
 · exact ⟨a, D', b, c, .inr d⟩
end
structure BT where
 body : Bool
 note : Bool
 tables : Int
def BT.enc (p : BT) : SV := .agg [.bool p.body, .bool p.note, AA p.tables]
structure Fl where
 id : Int
 items : List AE
 at_ : BT
def Fl.enc (f : Fl) : List SV := [AA f.id, .agg [AG f.items, .bool f.at_.body, .bool f.at_.note, AA f.at_.tables]]
def BT.inNote (p : BT) : BT := ⟨false, true, p.tables⟩
def BT.inTable (p : BT) : BT := ⟨false, p.note, IntKind.i64.wrap (p.tables + 1)⟩
mutual
def AE.fl (p : BT) : AE → List Fl
 | .mk k _ i _ _ f r => if k = 6 then ⟨i, f, p.inNote⟩ :: AE.flL p.inNote f else if k = 7 then AS.flL p.inTable r else []
def AE.flL (p : BT) : List AE → List Fl
 | [] => []
 | x :: l => AE.fl p x ++ AE.flL p l
def AS.fl (p : BT) : AS → List Fl
 | .mk _ c => AK.flL p c
def AS.flL (p : BT) : List AS → List Fl
 | [] => []
 | x :: l => AS.fl p x ++ AS.flL p l
def AK.fl (p : BT) : AK → List Fl
 | .mk i _ f => ⟨i, f, p⟩ :: AE.flL p f
def AK.flL (p : BT) : List AK → List Fl
 | [] => []
 | x :: l => AK.fl p x ++ AK.flL p l
end
def CA (id : Int) (l : List AE) (p : BT) : List Fl := ⟨id, l, p⟩ :: AE.flL p l
theorem AE.flL_take (p : BT) : ∀ (l : List AE) (i : Nat) (h : i < l.length), ∃ r, AE.flL p l = AE.flL p (l.take i) ++ (AE.fl p l[i] ++ r) ∧ AE.flL p (l.take (i + 1)) = AE.flL p (l.take i) ++ AE.fl p l[i]
 | x :: l, 0, _ => ⟨AE.flL p l, by simp [AE.flL]⟩
 | x :: l, i + 1, h => by
  obtain ⟨r, h1, h2⟩ := AE.flL_take p l i (by simpa using h)
  exact ⟨r, by simp only [AE.flL, List.take_succ_cons, List.getElem_cons_succ]; rw [h1, h2]; simp⟩
theorem AS.flL_take (p : BT) : ∀ (l : List AS) (i : Nat) (h : i < l.length), ∃ r, AS.flL p l = AS.flL p (l.take i) ++ (AS.fl p l[i] ++ r) ∧ AS.flL p (l.take (i + 1)) = AS.flL p (l.take i) ++ AS.fl p l[i]
 | x :: l, 0, _ => ⟨AS.flL p l, by simp [AS.flL]⟩
 | x :: l, i + 1, h => by
  obtain ⟨r, h1, h2⟩ := AS.flL_take p l i (by simpa using h)
  exact ⟨r, by simp only [AS.flL, List.take_succ_cons, List.getElem_cons_succ]; rw [h1, h2]; simp⟩
theorem AK.flL_take (p : BT) : ∀ (l : List AK) (i : Nat) (h : i < l.length), ∃ r, AK.flL p l = AK.flL p (l.take i) ++ (AK.fl p l[i] ++ r) ∧ AK.flL p (l.take (i + 1)) = AK.flL p (l.take i) ++ AK.fl p l[i]
 | x :: l, 0, _ => ⟨AK.flL p l, by simp [AK.flL]⟩
 | x :: l, i + 1, h => by
  obtain ⟨r, h1, h2⟩ := AK.flL_take p l i (by simpa using h)
  exact ⟨r, by simp only [AK.flL, List.take_succ_cons, List.getElem_cons_succ]; rw [h1, h2]; simp⟩
end Go.Proofs.YtgakninlhfkkmaaGreat.Sh
