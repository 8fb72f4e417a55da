/- A part of the proof (part 9 of 14). -/
import Derived.Test.YtgakninlhfkkmaaGreatM8
namespace Go.Proofs.YtgakninlhfkkmaaGreat.Sh
abbrev ZC := @AE.sizedL_text
open Proofs
set_option maxRecDepth 10000
mutual
theorem Dg {n m : Nat} (h : n ≤ m) : ∀ v : SV, closed n v = true → closed m v = true
 | .agg cs, e => by rw [closed] at *; exact Cv h cs e
 | .tup cs, e => by rw [closed] at *; exact Cv h cs e
 | .fn _ a b, e => by rw [closed, KB] at *; exact ⟨Cv h a e.1, Cv h b e.2⟩
 | .ptr o _, e => by simp only [closed, decide_eq_true_eq] at *; omega
 | .iptr cs, e => by rw [closed] at *; exact Cv h cs e
 | .sl o _ _ _ _, e => by simp only [closed, decide_eq_true_eq] at *; omega
 | .slc o _ _ _ _, e => by simp only [closed, decide_eq_true_eq] at *; omega
 | .imm _ es _, e => by rw [closed] at *; exact Cv h es e
 | .map o, e => by simp only [closed, decide_eq_true_eq] at *; omega
 | .int _ _, _ | .bool _, _ | .str _, _ | .junk, _ | .nilp, _ | .nilf, _ | .nilm, _ => by simp [closed]
theorem Cv {n m : Nat} (h : n ≤ m) : ∀ l : List SV, closedL n l = true → closedL m l = true
 | [], _ => by rw [closedL]
 | s :: l, e => by rw [closedL, KB] at *; exact ⟨Dg h s e.1, Cv h l e.2⟩
end
theorem I0 {n m : Nat} (h : n ≤ m) {y : BY} (hc : BW n y = true) : BW m y = true := by
 cases y with
 | cells cs ty => exact Cv h _ hc
 | map es =>
  simp only [BW, Ys, KB] at hc ⊢
  exact fun p hp => ⟨Dg h _ (hc p hp).1, Dg h _ (hc p hp).2⟩
 | loop l => rfl
 | list z es => exact Cv h _ hc
 | iter l r =>
  simp only [BW, Ys, KB, Option.all_eq_true] at hc ⊢
  exact ⟨fun p hp => ⟨Dg h _ (hc.1 p hp).1, Dg h _ (hc.1 p hp).2⟩, fun p hp => ⟨Dg h _ (hc.2 p hp).1, Dg h _ (hc.2 p hp).2⟩⟩
section
variable {σ : Type}
def As (st : σ → Nat → Option BY) (s : σ) (H : Hp) : Hp := fun o => match st s o with | some y => some y | none => H o
structure Lm (st : σ → Nat → Option BY) (n0 : Nat) (g : FuncId) (a b : List SV) (f : σ → B6 → AF × Bool × σ) (ok : AF → Prop) : Prop where
 lt : ∀ s o, n0 ≤ o → st s o = none
 dom : ∀ s s' o, st s o = none → st s' o = none
 cl : ∀ s o y, st s o = some y → BW n0 y = true
 call : ∀ s p H n, ok p.head → n0 ≤ n → (∀ o y, st s o = some y → H o = some y) → BN Tryz.prog g (a ++ [p.enc] ++ b) H n (fun v h' n' => v = .tup [(f s p).1.enc, .bool (f s p).2.1] ∧ h' = As st (f s p).2.2 H ∧ n' = n)
variable {st : σ → Nat → Option BY} {n0 : Nat} {g : FuncId} {a b : List SV} {f : σ → B6 → AF × Bool × σ} {ok : AF → Prop}
theorem Lm.ne (C : Lm st n0 g a b f ok) (s : σ) (H : Hp) {o : Nat} (h : n0 ≤ o) : As st s H o = H o := by simp [As, C.lt s o h]
theorem Lm.up2 (C : Lm st n0 g a b f ok) (s s' : σ) (H : Hp) : As st s' (As st s H) = As st s' H := by
 funext o
 simp only [As]
 cases h : st s' o with
 | some y => rfl
 | none => simp [C.dom s' s o h]
theorem Lm.hset (C : Lm st n0 g a b f ok) (s : σ) (H : Hp) {o : Nat} (h : n0 ≤ o) (y : Option BY) : hset (As st s H) o y = As st s (hset H o y) := by
 funext j
 simp only [As, Sh.hset]
 split
 · subst_vars; rw [C.lt s _ h]
 · rfl
theorem DH (s : σ) (H : Hp) (h : ∀ o y, st s o = some y → H o = some y) : As st s H = H := by
 funext o
 simp only [As]
 cases e : st s o with
 | some y => rw [h o y e]
 | none => rfl
theorem Lm.old (C : Lm st n0 g a b f ok) (s : σ) {H : Hp} {n : Nat} (hn : n0 ≤ n) (ho : FM H n) : FM (As st s H) n := fun o y e => by
 simp only [As] at e
 cases e1 : st s o with
 | some z =>
  rw [e1] at e; cases e
  refine ⟨?_, I0 hn (C.cl s o y e1)⟩
  by_cases h : n0 ≤ o
  · rw [C.lt s o h] at e1; cases e1
  · omega
 | none => rw [e1] at e; exact ho o y e
theorem Lm.acc (C : Lm st n0 g a b f ok) {n m z : Nat} {o : Option Nat} {es : List SV} (hn : n0 ≤ n) (hA : BQ n m z o es) (s' : σ) (H : Hp) : As st s' (AS o es H) = AS o es (As st s' H) := by
 cases o with
 | none => rfl
 | some j => have := (hA.lt j rfl).1; simp only [AS]; rw [C.hset s' H (by omega)]
theorem Lm.has (C : Lm st n0 g a b f ok) {n m z : Nat} {o : Option Nat} {es : List SV} (hn : n0 ≤ n) (hA : BQ n m z o es) {s : σ} {H : Hp} (h : ∀ k y, st s k = some y → H k = some y) : ∀ k y, st s k = some y → AS o es H k = some y := fun k y e => by
 cases o with
 | none => exact h k y e
 | some j =>
  have := (hA.lt j rfl).1
  simp only [AS]
  rw [AD _ _ ?_]
  · exact h k y e
  · rintro rfl; rw [C.lt s k (by omega)] at e; cases e
theorem Bu {s : σ} {H : Hp} : ∀ k y, st s k = some y → As st s H k = some y := fun k y e => by simp [As, e]
theorem HP {n m z : Nat} {o : Option Nat} {es : List SV} {h : Hp} (hb : ∀ j y, h j = some y → j < n) (hnm : n ≤ m) (hA : BQ n m z o es) : ∀ j y, AS o es h j = some y → j < m := fun j y e => by
 cases o with
 | none => have := hb j y e; omega
 | some k =>
  have := (hA.lt k rfl).2
  simp only [AS, hset] at e
  split at e
  · omega
  · have := hb j y e; omega
theorem Ad {h : Hp} {m : Nat} (hb : ∀ j y, h j = some y → j < m) {k : Nat} (hk : m ≤ k) : h k = none := by
 cases e : h k with
 | none => rfl
 | some y => have := hb k y e; omega
theorem AQ.fz' {h : Hp} {n m z k : Nat} {o : Option Nat} {es : List SV} (hn : ∀ j, n ≤ j → h j = none) (H : BQ n m z o es) {h' : Hp} (hh : ∀ j y, AS o es h j = some y → h' j = some y) : Fz h' h (k + 1) (AQ z o es) (.imm z es false) := by
 cases o with
 | none => rw [H.none rfl]; exact .inr ⟨by simp, .inl rfl, trivial, by simp⟩
 | some j =>
  have hj := hh j (.cells (es.flatMap SV.cells)) (by simp [AS, hset])
  refine .inr ⟨hn j (H.lt j rfl).1, by simp, rfl, rfl, _, _, hj, by simp [Bm, BK H.size]; rfl, H.size, ?_⟩
  have : ∀ l : List SV, AY (Fz h' h k) l l := by
   intro l; induction l with
   | nil => trivial
   | cons a l ih => exact ⟨Jo, ih⟩
  simp only [← BK H.size, KE]
  exact this _
theorem DO {h : Hp} {n m z : Nat} {o : Option Nat} {es : List SV} (hb : ∀ j y, h j = some y → j < n) (H : BQ n m z o es) : ∀ j x, h j = some x → AS o es h j = some x := fun j x e => by
 cases o with
 | none => exact e
 | some k =>
  have h1 := (H.lt k rfl).1
  have h2 := hb j x e
  simp only [AS]; rw [AD _ _ (by omega)]; exact e
theorem ES {h H : Hp} {n m p z : Nat} {es : List SV} {e : SV} {o : Option Nat} {v : SV} (hb : ∀ j y, h j = some y → j < n) (hn : n ≤ p) (hA : BQ n m z o es) (hH : ∀ j y, h j = some y → H j = some y) :
 ∀ j y, AS (some p) (es ++ [e]) h j = some y → (Cu.app H p { val := v, upd := o.map fun j => (j, none), new := some (.cells (es.flatMap SV.cells ++ e.cells)) }) j = some y := by
 intro j y hj
 simp only [AS] at hj
 by_cases e1 : j = p
 · subst e1
   rw [AC] at hj
   simp only [Cu.app, AC]
   rw [← hj]; simp
 · rw [AD _ _ e1] at hj
   have hlt := hb j y hj
   have := hH j y hj
   cases o with
   | none => simp [Cu.app, AD _ _ e1, this]
   | some k =>
    have hk : j ≠ k := by have := (hA.lt k rfl).1; omega
    simp [Cu.app, AD _ _ e1, AD _ _ hk, this]
theorem Hg {h : Hp} {n n' m z : Nat} {o : Option Nat} {es : List SV} (ho : FM h n) (H : BQ n m z o es) (hc : ∀ e ∈ es, closed n e = true) : CE n (AS o es h) n' (AQ z o es) (fun v h' n' => v = .imm z es false ∧ h' = h ∧ n' = n) :=
 .inr ⟨1, .imm z es false, h, AQ.fz ho H AB, by rw [closed]; exact Df.2 hc, fun j x e => ⟨AS.old ho H j x e, ho j x e⟩, rfl, rfl, rfl⟩
theorem AJ {h h' : Hp} {m : Nat} {y : Option BY} (hb : ∀ j z, h j = some z → j < m) (hh : ∀ j z, h j = some z → h' j = some z) : ∀ j z, h j = some z → hset h' m y j = some z := fun j z e => by
 rw [AD _ _ (by have := hb j z e; omega)]; exact hh j z e
def trR : Tr := .pure 0 <| .pure 1 <| .pure 2 <| .pure 3 <| .pure 4 <| .pure 5 <| .pure 6 <| .pure 7 <| .pure 8 <| .pure 9 <| .pure 10 <| .one 11 <| .one 12 <| .one 13 <| .one 14 <| .one 15 .nil
variable {it : Int → List AE → Bool → σ → List AE × σ} {mid : Bool} {P : List AE → Prop} {sc : BD}
def ItC (st : σ → Nat → Option BY) (n0 : Nat) (g : FuncId) (a b : List SV) (it : Int → List AE → Bool → σ → List AE × σ) (sc : BD) (P : List AE → Prop) : Prop :=
 ∀ id l mid s H n, P l → n0 ≤ n → (∀ o y, st s o = some y → H o = some y) → BN Tryz.prog 121 [.fn (.func g) a b, AA id, AG l, sc.enc, .bool mid] H n (fun v h' n' => v = AG (it id l mid s).1 ∧ h' = As st (it id l mid s).2 H ∧ n' = n)
set_option maxHeartbeats 2000000 in
theorem d257 (C : Lm st n0 g a b f ok) (hit : ItC st n0 g a b it sc P) (l : List AR) (hl : l.length ≤ 1048576) (hr : ∀ r ∈ l, ok r.head ∧ r.cells.length ≤ 1048576 ∧ ∀ c ∈ r.cells, ok c.head ∧ P c.flow) (s : σ) {H : Hp} {n : Nat} (hn : n0 ≤ n) (hs : ∀ o y, st s o = some y → H o = some y) :
 BN Tryz.prog 257 [.fn (.func g) a b, Ay l, sc.enc, .bool mid] H n (fun v h' n' => v = Ay (JR f it mid l s).1 ∧ h' = As st (JR f it mid l s).2 H ∧ n' = n) := by
 refine Da Tryz.func257 rfl fun ho => ?_
 obtain ⟨R, hR⟩ : ∃ R : Nat → List AR × σ, ∀ i, R i = (l.take i).foldl (Fm f it mid) ([], s) := ⟨_, fun _ => rfl⟩
 have hR0 : R 0 = ([], s) := by rw [hR]; rfl
 have hRs : ∀ i x, (h : i < l.length) → l[i] = x → R (i + 1) = Fm f it mid (R i) x := fun i x h hx => by rw [hR, hR, FB _ _ _ _ _ h hx]
 have hRl : R l.length = JR f it mid l s := by rw [hR, KE]; rfl
 have hRn : ∀ i, (R i).1.length ≤ i := fun i => by rw [hR]; have := Ql (f := f) (it := it) (mid := mid) (l.take i) ([], s); simp at this; omega
 clear hR
 have hU : ∀ s', FM (As st s' H) n := fun s' => C.old s' hn ho
 have hUb : ∀ s' j y, As st s' H j = some y → j < n := fun s' j y e => (hU s' j y e).1
 refine AZ 1 [(0, .fn (.func g) a b), (1, Ay l), (3, .bool mid), (6, .iptr [AA sc.id, AA sc.a, AA sc.b])] (As st s H) n ?_ (fun m hm => ?_)
 · simp [go_sem, BD.enc, Jo, DH s H hs]
   refine ⟨AW (ho.none (JO n)) (by simp [hset]), fun j y e => by rw [AD _ _ (by have := (ho j y e).1; omega)]; exact e⟩
 refine AZ 0 [(0, .fn (.func g) a b), (1, Ay l), (3, .bool mid), (6, .iptr [AA sc.id, AA sc.a, AA sc.b]), (9, .imm 0 [] true)] (As st s H) n ?_ (fun m hm => ?_)
 · simp [go_sem, Jo, hm]
 refine AV 0 (α := Option Nat) (fun o => [(9, AQ 6 o ((R l.length).1.map AR.enc))]) (fun o => AS o ((R l.length).1.map AR.enc) (As st (R l.length).2 H)) (fun o m => n ≤ m ∧ BQ n m 6 o ((R l.length).1.map AR.enc)) ?_ (fun o m hm => ?_)
 · refine AZ 0 [(0, .fn (.func g) a b), (3, .bool mid), (6, .iptr [AA sc.id, AA sc.a, AA sc.b]), (9, .imm 0 [] true), (19, Ay l), (20, AA l.length), (21, AA 0)] (As st s H) n ?_ (fun m hm => ?_)
   · simp [go_sem, Jo, hm]
   refine AX (BX 0 (α := Nat × Option Nat) (fun q => [(0, .fn (.func g) a b), (3, .bool mid), (6, .iptr [AA sc.id, AA sc.a, AA sc.b]), (9, AQ 6 q.2 ((R q.1).1.map AR.enc)), (19, Ay l), (20, AA l.length), (21, AA q.1)])
    (fun q => AS q.2 ((R q.1).1.map AR.enc) (As st (R q.1).2 H)) (fun q m => q.1 ≤ l.length ∧ n ≤ m ∧ BQ n m 6 q.2 ((R q.1).1.map AR.enc)) (fun q => l.length - q.1) (0, none) ⟨K2 _, hm, by simp only [hR0]; exact Zp _ _ _⟩ ?_ ?_ ?_)
   · simp [go_sem, Am, AQ, Jo]
   · simp only [hR0]; exact AB
   clear hm m
   rintro ⟨i, o⟩ m ⟨hi, hnm, hA⟩
   dsimp only at hi hA ⊢
   have hEn : ((R i).1.map AR.enc).length ≤ i := by rw [Kj]; exact hRn i
   by_cases hlt : i < l.length
   · obtain ⟨x, hx⟩ : ∃ x, l[i] = x := ⟨_, rfl⟩
     have hxm : x ∈ l := by rw [← hx]; exact Kn hlt
     obtain ⟨x1, x2, x3⟩ := hr x hxm
     have hgx : (l.map AR.enc)[i]? = some x.enc := by simp [hlt, hx]
     have hst := hRs i x hlt hx
     have w1 := wS i (by omega)
     generalize hSi : (R i).2 = si at hst
     generalize hEi : (R i).1.map AR.enc = E at hA hEn ⊢
     have hXb : ∀ s' j y, AS o E (As st s' H) j = some y → j < m := fun s' => HP (hUb s') hnm hA
     refine CJ 0 [(0, .fn (.func g) a b), (3, .bool mid), (6, .iptr [AA sc.id, AA sc.a, AA sc.b]), (9, AQ 6 o E), (19, Ay l), (20, AA l.length), (21, AA i), (22, .bool true)] (AS o E (As st si H)) m ?_ (fun m' hm' => ?_)
     · simp [go_sem, Jo, hlt]
     subst hm'
     refine CJ 0 [(0, .fn (.func g) a b), (3, .bool mid), (6, .iptr [AA sc.id, AA sc.a, AA sc.b]), (9, AQ 6 o E), (19, Ay l), (20, AA l.length), (21, AA i)] (AS o E (As st si H)) m ?_ (fun m2 hm2 => ?_)
     · simp [go_sem, Jo]
     subst hm2
     refine AV 0 (α := Option Nat) (fun o => [(0, .fn (.func g) a b), (3, .bool mid), (6, .iptr [AA sc.id, AA sc.a, AA sc.b]), (9, AQ 6 o ((R (i + 1)).1.map AR.enc)), (19, Ay l), (20, AA l.length), (21, AA i)]) (fun o => AS o ((R (i + 1)).1.map AR.enc) (As st (R (i + 1)).2 H)) (fun o m => n ≤ m ∧ BQ n m 6 o ((R (i + 1)).1.map AR.enc)) ?_ (fun o m hm => ?_)
     · refine AX ?_
       refine AZ 1 [(0, .fn (.func g) a b), (3, .bool mid), (6, .iptr [AA sc.id, AA sc.a, AA sc.b]), (9, AQ 6 o E), (19, Ay l), (20, AA l.length), (21, AA i), (11, .iptr (x.head.flat ++ [BT x.cells]))] (AS o E (As st si H)) m ?_ (fun m2 hm2 => ?_)
       · simp [go_sem, Jo, hlt, hx, Yj, AF.flat, AC]
         refine ⟨AW (Ad (hXb _) (JO m)) (AC _ _ _), AJ (hXb _) (AJ (hXb _) AB)⟩
       have hXb2 : ∀ s' j y, AS o E (As st s' H) j = some y → j < m2 := fun s' j y e => by have := hXb s' j y e; omega
       obtain ⟨p, hp⟩ : ∃ p : B6, p = ⟨x.head, mid, 1⟩ := ⟨_, rfl⟩
       have hcall := C.call si p (AS o E (As st si H)) m2 (by rw [hp]; exact x1) (by omega) (C.has hn hA Bu)
       have hst' : R (i + 1) = if (f si p).2.1 then ((R i).1 ++ [.mk (f si p).1 (GC f it mid x.cells (f si p).2.2).1], (GC f it mid x.cells (f si p).2.2).2) else ((R i).1, (f si p).2.2) := by rw [hst, hp, Fm, hSi]
       rw [C.acc hn hA, C.up2] at hcall
       have hpe : p.enc = .agg (x.head.flat ++ [.bool mid, AA 1]) := by rw [hp]; rfl
       clear hst hSi
       rcases hf : f si p with ⟨h', k, s1⟩
       rw [hf] at hcall hst'
       dsimp only at hcall hst'
       refine AZ 1 [(0, .fn (.func g) a b), (3, .bool mid), (6, .iptr [AA sc.id, AA sc.a, AA sc.b]), (9, AQ 6 o E), (19, Ay l), (20, AA l.length), (21, AA i), (11, .iptr (x.head.flat ++ [BT x.cells])), (12, .iptr h'.flat), (13, .bool k)] (AS o E (As st s1 H)) m2 ?_ (fun m3 hm3 => ?_)
       · rw [hpe] at hcall
         simp only [AF.flat, Y7, Yc, KF] at hcall
         simp [go_sem, AF.flat]
         refine Y9 hcall ?_
         rintro v H' n' ⟨rfl, rfl, rfl⟩
         simp [go_sem, Jo, AF.enc, AF.flat, AC]
         exact ⟨AW (Ad (hXb2 _) (JO _)) (AC _ _ _), AJ (hXb2 _) (AJ (hXb2 _) AB)⟩
       cases k with
       | false =>
        have hst2 : R (i + 1) = ((R i).1, s1) := by simpa using hst'
        simp only [hst2, hEi]
        refine AK ?_
        simp [go_sem, Jo]
        exact ⟨o, ⟨by omega, hA.mono (by omega)⟩, rfl, AB⟩
       | true =>
        have hst2 : R (i + 1) = ((R i).1 ++ [.mk h' (GC f it mid x.cells s1).1], (GC f it mid x.cells s1).2) := by simpa using hst'
        simp only [hst2, K1, hEi, Y3, YR]
        clear hst' hst2 hcall hpe hf
        refine CJ 0 [(0, .fn (.func g) a b), (3, .bool mid), (6, .iptr [AA sc.id, AA sc.a, AA sc.b]), (9, AQ 6 o E), (19, Ay l), (20, AA l.length), (21, AA i), (11, .iptr (x.head.flat ++ [BT x.cells])), (12, .iptr h'.flat)] (AS o E (As st s1 H)) m3 ?_ (fun m4 hm4 => ?_)
        · simp [go_sem, Jo]
        subst hm4
        refine CJ 0 [(0, .fn (.func g) a b), (3, .bool mid), (6, .iptr [AA sc.id, AA sc.a, AA sc.b]), (9, AQ 6 o E), (19, Ay l), (20, AA l.length), (21, AA i), (11, .iptr (x.head.flat ++ [BT x.cells])), (12, .iptr h'.flat), (14, .imm 0 [] true)] (AS o E (As st s1 H)) m3 ?_ (fun m4 hm4 => ?_)
        · simp [go_sem, Jo]
        subst hm4
        refine Bf 1 [(0, .fn (.func g) a b), (3, .bool mid), (6, .iptr [AA sc.id, AA sc.a, AA sc.b]), (9, AQ 6 o E), (19, Ay l), (20, AA l.length), (21, AA i), (12, .iptr h'.flat), (14, BT (GC f it mid x.cells s1).1)] (AS o E (As st (GC f it mid x.cells s1).2 H)) m3 ?_ (fun m4 hm4 => ?_)
        · refine CJ 0 [(0, .fn (.func g) a b), (3, .bool mid), (6, .iptr [AA sc.id, AA sc.a, AA sc.b]), (9, AQ 6 o E), (19, Ay l), (20, AA l.length), (21, AA i), (12, .iptr h'.flat), (14, .imm 0 [] true), (37, BT x.cells), (38, AA x.cells.length), (39, AA 0)] (AS o E (As st s1 H)) m3 ?_ (fun m4 hm4 => ?_)
          · simp [go_sem, Jo, AF.flat]
          subst hm4
          obtain ⟨Q, hQ⟩ : ∃ Q : Nat → List AL × σ, ∀ i, Q i = (x.cells.take i).foldl (Ed f it mid) ([], s1) := ⟨_, fun _ => rfl⟩
          have hQ0 : Q 0 = ([], s1) := by rw [hQ]; rfl
          have hQs : ∀ i y, (h : i < x.cells.length) → x.cells[i] = y → Q (i + 1) = Ed f it mid (Q i) y := fun i y h hy => by rw [hQ, hQ, FB _ _ _ _ _ h hy]
          have hQl : Q x.cells.length = GC f it mid x.cells s1 := by rw [hQ, KE]; rfl
          have hQn : ∀ i, (Q i).1.length ≤ i := fun i => by rw [hQ]; have := PE (f := f) (it := it) (mid := mid) (x.cells.take i) ([], s1); simp at this; omega
          clear hQ
          have hBb : ∀ s' j y, AS o E (As st s' H) j = some y → j < m3 := fun s' j y e => by have := hXb s' j y e; omega
          refine AX (BX 0 (α := Nat × Option Nat) (fun q => [(0, .fn (.func g) a b), (3, .bool mid), (6, .iptr [AA sc.id, AA sc.a, AA sc.b]), (9, AQ 6 o E), (19, Ay l), (20, AA l.length), (21, AA i), (12, .iptr h'.flat), (14, AQ 7 q.2 ((Q q.1).1.map AL.enc)), (37, BT x.cells), (38, AA x.cells.length), (39, AA q.1)])
           (fun q => AS q.2 ((Q q.1).1.map AL.enc) (AS o E (As st (Q q.1).2 H))) (fun q m => q.1 ≤ x.cells.length ∧ m3 ≤ m ∧ BQ m3 m 7 q.2 ((Q q.1).1.map AL.enc)) (fun q => x.cells.length - q.1) (0, none) ⟨K2 _, JO _, by simp only [hQ0]; exact Zp _ _ _⟩ ?_ ?_ ?_)
          · simp [go_sem, Am, AQ, Jo]
          · simp only [hQ0]; exact AB
          rintro ⟨j, o2⟩ m4 ⟨hj, hm4, hA2⟩
          dsimp only at hj hA2 ⊢
          have hCn : ((Q j).1.map AL.enc).length ≤ j := by rw [Kj]; exact hQn j
          by_cases hjt : j < x.cells.length
          · obtain ⟨y, hy⟩ : ∃ y, x.cells[j] = y := ⟨_, rfl⟩
            have hym : y ∈ x.cells := by rw [← hy]; exact Kn hjt
            obtain ⟨y1, y2⟩ := x3 y hym
            have hgy : (x.cells.map AL.enc)[j]? = some y.enc := by simp [hjt, hy]
            have hqt := hQs j y hjt hy
            have w2 := wS j (by omega)
            generalize hSj : (Q j).2 = sj at hqt
            generalize hGj : (Q j).1.map AL.enc = G at hA2 hCn ⊢
            have hYb : ∀ s' j y, AS o2 G (AS o E (As st s' H)) j = some y → j < m4 := fun s' => HP (hBb s') hm4 hA2
            refine CJ 0 [(0, .fn (.func g) a b), (3, .bool mid), (6, .iptr [AA sc.id, AA sc.a, AA sc.b]), (9, AQ 6 o E), (19, Ay l), (20, AA l.length), (21, AA i), (12, .iptr h'.flat), (14, AQ 7 o2 G), (37, BT x.cells), (38, AA x.cells.length), (39, AA j), (40, .bool true)] (AS o2 G (AS o E (As st sj H))) m4 ?_ (fun m' hm' => ?_)
            · simp [go_sem, Jo, hjt]
            subst hm'
            refine CJ 0 [(0, .fn (.func g) a b), (3, .bool mid), (6, .iptr [AA sc.id, AA sc.a, AA sc.b]), (9, AQ 6 o E), (19, Ay l), (20, AA l.length), (21, AA i), (12, .iptr h'.flat), (14, AQ 7 o2 G), (37, BT x.cells), (38, AA x.cells.length), (39, AA j)] (AS o2 G (AS o E (As st sj H))) m4 ?_ (fun m' hm' => ?_)
            · simp [go_sem, Jo]
            subst hm'
            refine AV 0 (α := Option Nat) (fun o2 => [(0, .fn (.func g) a b), (3, .bool mid), (6, .iptr [AA sc.id, AA sc.a, AA sc.b]), (9, AQ 6 o E), (19, Ay l), (20, AA l.length), (21, AA i), (12, .iptr h'.flat), (14, AQ 7 o2 ((Q (j + 1)).1.map AL.enc)), (37, BT x.cells), (38, AA x.cells.length), (39, AA j)]) (fun o2 => AS o2 ((Q (j + 1)).1.map AL.enc) (AS o E (As st (Q (j + 1)).2 H))) (fun o2 m => m3 ≤ m ∧ BQ m3 m 7 o2 ((Q (j + 1)).1.map AL.enc)) ?_ (fun o2 m hm => ?_)
            · refine AX ?_
              refine AZ 1 [(0, .fn (.func g) a b), (3, .bool mid), (6, .iptr [AA sc.id, AA sc.a, AA sc.b]), (9, AQ 6 o E), (19, Ay l), (20, AA l.length), (21, AA i), (12, .iptr h'.flat), (14, AQ 7 o2 G), (37, BT x.cells), (38, AA x.cells.length), (39, AA j), (16, .iptr ([AA y.id] ++ y.head.flat ++ [AG y.flow]))] (AS o2 G (AS o E (As st sj H))) m4 ?_ (fun m5 hm5 => ?_)
              · simp [go_sem, Jo, hjt, hy, YP, AF.flat, AC]
                refine ⟨AW (Ad (hYb _) (JO m4)) (AC _ _ _), AJ (hYb _) (AJ (hYb _) AB)⟩
              have hYb2 : ∀ s' j y, AS o2 G (AS o E (As st s' H)) j = some y → j < m5 := fun s' j y e => by have := hYb s' j y e; omega
              obtain ⟨p2, hp2⟩ : ∃ p : B6, p = ⟨y.head, mid, 1⟩ := ⟨_, rfl⟩
              have hcall2 := C.call sj p2 (AS o2 G (AS o E (As st sj H))) m5 (by rw [hp2]; exact y1) (by omega) (C.has (by omega) hA2 (C.has hn hA Bu))
              have hqt' : Q (j + 1) = if (f sj p2).2.1 then ((Q j).1 ++ [.mk y.id (f sj p2).1 (it y.id y.flow mid (f sj p2).2.2).1], (it y.id y.flow mid (f sj p2).2.2).2) else ((Q j).1, (f sj p2).2.2) := by rw [hqt, hp2, Ed, hSj]
              rw [C.acc (by omega) hA2, C.acc hn hA, C.up2] at hcall2
              have hpe2 : p2.enc = .agg (y.head.flat ++ [.bool mid, AA 1]) := by rw [hp2]; rfl
              clear hqt hSj
              rcases hf2 : f sj p2 with ⟨h2, k2, s2⟩
              rw [hf2] at hcall2 hqt'
              dsimp only at hcall2 hqt'
              refine AZ 1 [(0, .fn (.func g) a b), (3, .bool mid), (6, .iptr [AA sc.id, AA sc.a, AA sc.b]), (9, AQ 6 o E), (19, Ay l), (20, AA l.length), (21, AA i), (12, .iptr h'.flat), (14, AQ 7 o2 G), (37, BT x.cells), (38, AA x.cells.length), (39, AA j), (16, .iptr ([AA y.id] ++ y.head.flat ++ [AG y.flow])), (17, .iptr h2.flat), (18, .bool k2)] (AS o2 G (AS o E (As st s2 H))) m5 ?_ (fun m6 hm6 => ?_)
              · rw [hpe2] at hcall2
                simp only [AF.flat, Y7, Yc, KF] at hcall2
                simp [go_sem, AF.flat]
                refine Y9 hcall2 ?_
                rintro v H' n' ⟨rfl, rfl, rfl⟩
                simp [go_sem, Jo, AF.enc, AF.flat, AC]
                exact ⟨AW (Ad (hYb2 _) (JO _)) (AC _ _ _), AJ (hYb2 _) (AJ (hYb2 _) AB)⟩
              cases k2 with
              | false =>
               have hst3 : Q (j + 1) = ((Q j).1, s2) := by simpa using hqt'
               simp only [hst3, hGj]
               refine AK ?_
               simp [go_sem, Jo]
               exact ⟨o2, ⟨by omega, hA2.mono (by omega)⟩, rfl, AB⟩
              | true =>
               have hst3 : Q (j + 1) = ((Q j).1 ++ [.mk y.id h2 (it y.id y.flow mid s2).1], (it y.id y.flow mid s2).2) := by simpa using hqt'
               simp only [hst3, K1, hGj, Y3, YR]
               clear hqt' hst3 hcall2 hpe2 hf2
               refine CJ 0 [(0, .fn (.func g) a b), (3, .bool mid), (6, .iptr [AA sc.id, AA sc.a, AA sc.b]), (9, AQ 6 o E), (19, Ay l), (20, AA l.length), (21, AA i), (12, .iptr h'.flat), (14, AQ 7 o2 G), (37, BT x.cells), (38, AA x.cells.length), (39, AA j), (16, .iptr ([AA y.id] ++ y.head.flat ++ [AG y.flow])), (17, .iptr h2.flat), (52, .bool true)] (AS o2 G (AS o E (As st s2 H))) m6 ?_ (fun m7 hm7 => ?_)
               · simp [go_sem, Jo]
               subst hm7
               refine Ap (b := true) (by simp [go_sem]) ?_
               rw [if_pos rfl]
               have hc3 := hit y.id y.flow mid s2 (AS o2 G (AS o E (As st s2 H))) m6 y2 (by omega) (C.has (by omega) hA2 (C.has hn hA Bu))
               rw [C.acc (by omega) hA2, C.acc hn hA, C.up2] at hc3
               generalize it y.id y.flow mid s2 = r3 at hc3 ⊢
               obtain ⟨q3, s3⟩ := r3
               dsimp only at hc3 ⊢
               refine Bt trR rfl (by kernel_rfl) (by kernel_rfl) ?_
               simp [go_sem, trR, AF.flat]
               refine Y9 (by simpa [BD.enc] using hc3) ?_
               rintro v H' n' ⟨rfl, rfl, rfl⟩
               simp [go_sem]
               have hpush := hA2.push (j := n' + 1) (m' := n' + 1 + 1) (e := (AL.mk y.id h2 q3).enc) (AL.E.st _) (AL.E.len _) (by omega) (by omega)
               rw [Fd (es := G) (e := (AL.mk y.id h2 q3).enc) (o := o2) (t := 167) (t2 := 167) (el := 171) (z := 7) (by simp [go_sem]) (by simp [go_sem]) (by simp [go_sem]) (by simp) (by simp [go_sem]) (by simp [go_sem]) (by simp [go_sem]) (by omega) hA2 (AL.E.len _) ?a1 ?a2]
               case a1 => simp [AC, YP, SV.cells, AL.id, AL.head, AL.flow]
               case a2 =>
                intro j e
                have := (hA2.lt j e).2
                rw [AD _ _ (by omega)]; exact E3 j e
               have hlive := ES (p := n' + 1) (v := .sl (n' + 1) 0 7 (G.length + 1) false) (e := (AL.mk y.id h2 q3).enc) (hBb s3) (by omega) hA2 (H := hset (AS o2 G (AS o E (As st s3 H))) n' (some (.cells [AA y.id, Ag h2.props, AA h2.ins, AA h2.move, Aa h2.dels, AO h2.layers, AG q3]))) (AJ (fun j z e => by have := hBb s3 j z e; omega) (DO (hBb s3) hA2))
               have hvv : AQ 7 (some (n' + 1)) (G ++ [(AL.mk y.id h2 q3).enc]) = .sl (n' + 1) 0 7 (G.length + 1) false := by simp [AQ]
               simp [go_sem]
               exact ⟨some (n' + 1), ⟨by omega, hpush⟩, hvv.symm, by simpa [Cu.app, SV.cells] using hlive⟩
            · refine AK ?_
              simp [go_sem, w2, Jo, -Int.natCast_add]
              exact ⟨j + 1, by omega, o2, ⟨by omega, hm.1, hm.2⟩, ⟨rfl, rfl⟩, AB⟩
          · have : j = x.cells.length := by omega
            subst this
            rw [hQl] at hA2 ⊢
            refine AK ?_
            simp [go_sem, Jo]
            exact ⟨by omega, AQ.fz' (fun j hj => Ad (hBb _) hj) hA2 AB, DO (hBb _) hA2⟩
        · generalize GC f it mid x.cells s1 = r2
          obtain ⟨q2, s2⟩ := r2
          dsimp only
          refine AK ?_
          simp [go_sem, AF.flat]
          have hpush := hA.push (j := m4 + 1) (m' := m4 + 1 + 1) (e := (AR.mk h' q2).enc) (AR.E.st _) (AR.E.len _) (by omega) (by omega)
          rw [Fd (es := E) (e := (AR.mk h' q2).enc) (o := o) (t := 68) (t2 := 68) (el := 169) (z := 6) (by simp [go_sem]) (by simp [go_sem]) (by simp [go_sem]) (by simp) (by simp [go_sem]) (by simp [go_sem]) (by simp [go_sem]) (by omega) hA (AR.E.len _) ?a1 ?a2]
          case a1 => simp [AC, Yj, SV.cells, AR.head, AR.cells]
          case a2 =>
           intro j e
           have := (hA.lt j e).2
           rw [AD _ _ (by omega)]; exact E3 j e
          have hlive := ES (p := m4 + 1) (v := .sl (m4 + 1) 0 6 (E.length + 1) false) (e := (AR.mk h' q2).enc) (hUb s2) (by omega) hA (H := hset (AS o E (As st s2 H)) m4 (some (.cells [Ag h'.props, AA h'.ins, AA h'.move, Aa h'.dels, AO h'.layers, BT q2]))) (AJ (fun j z e => by have := hUb s2 j z e; omega) (DO (hUb s2) hA))
          have hvv : AQ 6 (some (m4 + 1)) (E ++ [(AR.mk h' q2).enc]) = .sl (m4 + 1) 0 6 (E.length + 1) false := by simp [AQ]
          simp [go_sem]
          exact ⟨some (m4 + 1), ⟨by omega, hpush⟩, hvv.symm, by simpa [Cu.app, SV.cells] using hlive⟩
     · refine AK ?_
       simp [go_sem, w1, Jo, -Int.natCast_add]
       exact ⟨i + 1, by omega, o, ⟨by omega, hm.1, hm.2⟩, ⟨rfl, rfl⟩, AB⟩
   · have : i = l.length := by omega
     subst this
     refine AK ?_
     simp [go_sem]
     exact ⟨o, ⟨hnm, hA⟩, rfl, AB⟩
 · refine AK ?_
   simp [go_sem]
   rw [hRl] at hm ⊢
   exact Hg (hU _) hm.2 (fun e he => by obtain ⟨x, _, rfl⟩ := Y5.1 he; exact AR.cl n x)
end
section
variable {σ : Type} {st : σ → Nat → Option BY} {n0 : Nat} {g : FuncId} {a b : List SV} {f : σ → B6 → AF × Bool × σ} {ok : AF → Prop} {it : Int → List AE → Bool → σ → List AE × σ} {mid : Bool} {P : List AE → Prop} {sc : BD}
def okI (ok : AF → Prop) (P : List AE → Prop) (x : AE) : Prop := ok x.head ∧ x.text.size ≤ 1048576 ∧ P x.flow ∧ x.rows.length ≤ 1048576 ∧ ∀ r ∈ x.rows, ok r.head ∧ r.cells.length ≤ 1048576 ∧ ∀ c ∈ r.cells, ok c.head ∧ P c.flow
set_option maxHeartbeats 2000000 in
theorem TA (C : Lm st n0 g a b f ok) (hit : ItC st n0 g a b it sc P) (l : List AE) (hl : l.length ≤ 1048576) (hr : ∀ x ∈ l, okI ok P x) (s : σ) {H : Hp} {n : Nat} (hn : n0 ≤ n) (hs : ∀ o y, st s o = some y → H o = some y) :
 BN Tryz.prog 190 [.fn (.func g) a b, AG l, sc.enc, .bool mid] H n (fun v h' n' => v = AG (Bi f it mid l s).1 ∧ h' = As st (Bi f it mid l s).2 H ∧ n' = n) := by
 refine Da Tryz.func190 rfl fun ho => ?_
 obtain ⟨R, hR⟩ : ∃ R : Nat → List AE × σ, ∀ i, R i = (l.take i).foldl (DV f it mid) ([], s) := ⟨_, fun _ => rfl⟩
 have hR0 : R 0 = ([], s) := by rw [hR]; rfl
 have hRs : ∀ i x, (h : i < l.length) → l[i] = x → R (i + 1) = DV f it mid (R i) x := fun i x h hx => by rw [hR, hR, FB _ _ _ _ _ h hx]
 have hRl : R l.length = Bi f it mid l s := by rw [hR, KE]; rfl
 have hRn : ∀ i, (R i).1.length ≤ i := fun i => by rw [hR]; have := G6 (f := f) (it := it) (mid := mid) (l.take i) ([], s); simp at this; omega
 clear hR
 have hU : ∀ s', FM (As st s' H) n := fun s' => C.old s' hn ho
 have hUb : ∀ s' j y, As st s' H j = some y → j < n := fun s' j y e => (hU s' j y e).1
 refine AZ 1 [(0, .fn (.func g) a b), (1, AG l), (3, .bool mid), (6, .iptr [AA sc.id, AA sc.a, AA sc.b])] (As st s H) n ?_ (fun m hm => ?_)
 · simp [go_sem, BD.enc, Jo, DH s H hs]
   refine ⟨AW (ho.none (JO n)) (by simp [hset]), fun j y e => by rw [AD _ _ (by have := (ho j y e).1; omega)]; exact e⟩
 refine AZ 0 [(0, .fn (.func g) a b), (1, AG l), (3, .bool mid), (6, .iptr [AA sc.id, AA sc.a, AA sc.b]), (9, .imm 0 [] true)] (As st s H) n ?_ (fun m hm => ?_)
 · simp [go_sem, Jo, hm]
 refine AV 0 (α := Option Nat) (fun o => [(9, AQ 11 o ((R l.length).1.map AE.enc))]) (fun o => AS o ((R l.length).1.map AE.enc) (As st (R l.length).2 H)) (fun o m => n ≤ m ∧ BQ n m 11 o ((R l.length).1.map AE.enc)) ?_ (fun o m hm => ?_)
 · refine AZ 0 [(0, .fn (.func g) a b), (1, AG l), (3, .bool mid), (6, .iptr [AA sc.id, AA sc.a, AA sc.b]), (9, .imm 0 [] true), (16, AG l), (17, AA l.length), (18, AA 0)] (As st s H) n ?_ (fun m hm => ?_)
   · simp [go_sem, Jo, hm]
   refine AX (BX 0 (α := Nat × Option Nat) (fun q => [(0, .fn (.func g) a b), (1, AG l), (3, .bool mid), (6, .iptr [AA sc.id, AA sc.a, AA sc.b]), (9, AQ 11 q.2 ((R q.1).1.map AE.enc)), (16, AG l), (17, AA l.length), (18, AA q.1)])
    (fun q => AS q.2 ((R q.1).1.map AE.enc) (As st (R q.1).2 H)) (fun q m => q.1 ≤ l.length ∧ n ≤ m ∧ BQ n m 11 q.2 ((R q.1).1.map AE.enc)) (fun q => l.length - q.1) (0, none) ⟨K2 _, hm, by simp only [hR0]; exact Zp _ _ _⟩ ?_ ?_ ?_)
   · simp [go_sem, Am, AQ, Jo]
   · simp only [hR0]; exact AB
   clear hm m
   rintro ⟨i, o⟩ m ⟨hi, hnm, hA⟩
   dsimp only at hi hA ⊢
   have hEn : ((R i).1.map AE.enc).length ≤ i := by rw [Kj]; exact hRn i
   by_cases hlt : i < l.length
   · obtain ⟨x, hx⟩ : ∃ x, l[i] = x := ⟨_, rfl⟩
     have hxm : x ∈ l := by rw [← hx]; exact Kn hlt
     obtain ⟨x1, x2, x3, x4, x5⟩ := hr x hxm
     have hgx : (l.map AE.enc)[i]? = some x.enc := by simp [hlt, hx]
     have hst := hRs i x hlt hx
     have w1 := wS i (by omega)
     generalize hSi : (R i).2 = si at hst
     generalize hEi : (R i).1.map AE.enc = E at hA hEn ⊢
     have hXb : ∀ s' j y, AS o E (As st s' H) j = some y → j < m := fun s' => HP (hUb s') hnm hA
     refine CJ 0 [(0, .fn (.func g) a b), (1, AG l), (3, .bool mid), (6, .iptr [AA sc.id, AA sc.a, AA sc.b]), (9, AQ 11 o E), (16, AG l), (17, AA l.length), (18, AA i), (19, .bool true)] (AS o E (As st si H)) m ?_ (fun m' hm' => ?_)
     · simp [go_sem, Jo, hlt]
     subst hm'
     refine CJ 0 [(0, .fn (.func g) a b), (1, AG l), (3, .bool mid), (6, .iptr [AA sc.id, AA sc.a, AA sc.b]), (9, AQ 11 o E), (16, AG l), (17, AA l.length), (18, AA i)] (AS o E (As st si H)) m ?_ (fun m2 hm2 => ?_)
     · simp [go_sem, Jo]
     subst hm2
     refine AV 0 (α := Option Nat) (fun o => [(0, .fn (.func g) a b), (1, AG l), (3, .bool mid), (6, .iptr [AA sc.id, AA sc.a, AA sc.b]), (9, AQ 11 o ((R (i + 1)).1.map AE.enc)), (16, AG l), (17, AA l.length), (18, AA i)]) (fun o => AS o ((R (i + 1)).1.map AE.enc) (As st (R (i + 1)).2 H)) (fun o m => n ≤ m ∧ BQ n m 11 o ((R (i + 1)).1.map AE.enc)) ?_ (fun o m hm => ?_)
     · refine AX ?_
       refine BO 0 (α := Nat) (fun p => [(0, .fn (.func g) a b), (1, AG l), (3, .bool mid), (6, .iptr [AA sc.id, AA sc.a, AA sc.b]), (9, AQ 11 o E), (16, AG l), (17, AA l.length), (18, AA i), (10, AA i), (11, .ptr p 0)]) (fun p => hset (AS o E (As st si H)) p (some (.cells [AA x.kind, AA x.code, AA x.id, .str x.text, Ag x.head.props, AA x.head.ins, AA x.head.move, Aa x.head.dels, AO x.head.layers, AG x.flow, Ay x.rows]))) (fun p m2 => m ≤ p ∧ p < m2) ?_ (fun p m2 hm2 => ?_)
       · simp [go_sem, Jo, hlt, hx, KW, AC, Ai]
         exact ⟨m, by omega, rfl, AB⟩
       have hXb2 : ∀ s' j y, AS o E (As st s' H) j = some y → j < p := fun s' j y e => by have := hXb s' j y e; omega
       refine AZ 0 [(0, .fn (.func g) a b), (1, AG l), (3, .bool mid), (6, .iptr [AA sc.id, AA sc.a, AA sc.b]), (9, AQ 11 o E), (16, AG l), (17, AA l.length), (18, AA i), (10, AA i), (11, .ptr p 0), (12, AA (BI [x]).1)] (hset (AS o E (As st si H)) p (some (.cells [AA x.kind, AA x.code, AA x.id, .str x.text, Ag x.head.props, AA x.head.ins, AA x.head.move, Aa x.head.dels, AO x.head.layers, AG x.flow, Ay x.rows]))) m2 ?_ (fun m3 hm3 => ?_)
       · have hle : i + 1 ≤ l.length := hlt
         have hsl : List.drop i (List.take (i + 1) (l.map AE.enc)) = [x.enc] := by rw [List.drop_take, Nat.add_sub_cancel_left, Yi (by simpa using hlt)]; simp [hx]
         simp [go_sem, w1, hle, hsl, -Int.natCast_add, -List.map_take, -List.map_drop]
         refine Y4 (Ts [x] (by simp) (by simpa using x2)) ?_
         simp [go_sem, Jo]
       obtain ⟨pt, hp⟩ : ∃ q : B6, q = ⟨x.head, mid, (BI [x]).1⟩ := ⟨_, rfl⟩
       have hcall := fun y => C.call si pt (hset (AS o E (As st si H)) p y) m3 (by rw [hp]; exact x1) (by omega) (fun k z e => by rw [AD _ _ (by rintro rfl; rw [C.lt si k (by omega)] at e; cases e)]; exact C.has hn hA Bu k z e)
       have hst' : R (i + 1) = if (f si pt).2.1 then ((R i).1 ++ [x.put (f si pt).1 (DD f it mid x (f si pt).2.2).1.1 (DD f it mid x (f si pt).2.2).1.2], (DD f it mid x (f si pt).2.2).2) else ((R i).1, (f si pt).2.2) := by rw [hst, hp, DV, hSi]
       have hup : ∀ s' y, As st s' (hset (AS o E (As st si H)) p y) = hset (AS o E (As st s' H)) p y := fun s' y => by rw [← C.hset _ _ (by omega), C.acc hn hA, C.up2]
       simp only [hup] at hcall
       have hpe : pt.enc = .agg (x.head.flat ++ [.bool mid, AA (BI [x]).1]) := by rw [hp]; rfl
       clear hst hSi hup
       rcases hf : f si pt with ⟨h', k, s1⟩
       rw [hf] at hcall hst'
       dsimp only at hcall hst'
       have hYb : ∀ s' y j z, hset (AS o E (As st s' H)) p y j = some z → j < m3 := fun s' y j z e => by
        by_cases h : j = p
        · omega
        · rw [AD _ _ h] at e; have := hXb2 s' j z e; omega
       refine AZ 1 [(0, .fn (.func g) a b), (1, AG l), (3, .bool mid), (6, .iptr [AA sc.id, AA sc.a, AA sc.b]), (9, AQ 11 o E), (16, AG l), (17, AA l.length), (18, AA i), (11, .ptr p 0), (14, .iptr h'.flat), (15, .bool k)] (hset (AS o E (As st s1 H)) p (some (.cells [AA x.kind, AA x.code, AA x.id, .str x.text, Ag x.head.props, AA x.head.ins, AA x.head.move, Aa x.head.dels, AO x.head.layers, AG x.flow, Ay x.rows]))) m3 ?_ (fun m4 hm4 => ?_)
       · rw [hpe] at hcall
         simp only [AF.flat, Y7, Yc, KF] at hcall
         simp [go_sem, AF.flat, AC]
         refine Y9 (hcall _) ?_
         rintro v H' n' ⟨rfl, rfl, rfl⟩
         simp [go_sem, Jo, AF.enc, AF.flat, AC]
         exact ⟨AW (Ad (hYb _ _) (JO _)) (AC _ _ _), AJ (hYb _ _) (AJ (hYb _ _) AB)⟩
       cases k with
       | false =>
        have hst2 : R (i + 1) = ((R i).1, s1) := by simpa using hst'
        simp only [hst2, hEi]
        refine AK ?_
        simp [go_sem, Jo, AF.flat, AC, Ai]
        exact ⟨o, ⟨by omega, hA.mono (by omega)⟩, rfl, AJ (hXb2 _) AB⟩
       | true =>
        have hst2 : R (i + 1) = ((R i).1 ++ [x.put h' (DD f it mid x s1).1.1 (DD f it mid x s1).1.2], (DD f it mid x s1).2) := by simpa using hst'
        simp only [hst2, K1, hEi, Y3, YR]
        clear hst' hst2 hcall hpe hf
        refine CJ 0 [(0, .fn (.func g) a b), (1, AG l), (3, .bool mid), (6, .iptr [AA sc.id, AA sc.a, AA sc.b]), (9, AQ 11 o E), (16, AG l), (17, AA l.length), (18, AA i), (11, .ptr p 0)] (hset (AS o E (As st s1 H)) p (some (.cells [AA x.kind, AA x.code, AA x.id, .str x.text, Ag h'.props, AA h'.ins, AA h'.move, Aa h'.dels, AO h'.layers, AG x.flow, Ay x.rows]))) m4 ?_ (fun m5 hm5 => ?_)
        · simp [go_sem, Jo, AF.flat, AC, Ai]
        subst hm5
        have hupP : ∀ s' y, As st s' (hset (AS o E (As st s1 H)) p y) = hset (AS o E (As st s' H)) p y := fun s' y => by rw [← C.hset _ _ (by omega), C.acc hn hA, C.up2]
        have hasP : ∀ y k z, st s1 k = some z → hset (AS o E (As st s1 H)) p y k = some z := fun y k z e => by rw [AD _ _ (by rintro rfl; rw [C.lt s1 k (by omega)] at e; cases e)]; exact C.has hn hA Bu k z e
        refine AZ 1 [(0, .fn (.func g) a b), (1, AG l), (3, .bool mid), (6, .iptr [AA sc.id, AA sc.a, AA sc.b]), (9, AQ 11 o E), (16, AG l), (17, AA l.length), (18, AA i), (11, .iptr [AA x.kind, AA x.code, AA x.id, .str x.text, Ag h'.props, AA h'.ins, AA h'.move, Aa h'.dels, AO h'.layers, AG (DD f it mid x s1).1.1, Ay (DD f it mid x s1).1.2])] (AS o E (As st (DD f it mid x s1).2 H)) m4 ?_ (fun m5 hm5 => ?_)
        · by_cases k6 : x.kind = 6
          · have hc3 := fun y => hit x.id x.flow mid s1 (hset (AS o E (As st s1 H)) p y) m4 x3 (by omega) (hasP y)
            simp only [hupP] at hc3
            have hin : DD f it mid x s1 = (((it x.id x.flow mid s1).1, x.rows), (it x.id x.flow mid s1).2) := by rw [DD, if_pos k6]
            rw [hin]
            generalize it x.id x.flow mid s1 = r3 at hc3 ⊢
            obtain ⟨q3, s3⟩ := r3
            dsimp only at hc3 ⊢
            simp [go_sem, AC, k6]
            refine Y9 (by simpa [BD.enc] using hc3 _) ?_
            rintro v H' n' ⟨rfl, rfl, rfl⟩
            simp [go_sem, Jo, AC, Ai]
            exact ⟨AW (Ad (hXb2 _) (JO _)) (AC _ _ _), AJ (hXb2 _) AB⟩
          · by_cases k7 : x.kind = 7
            · have hc3 := fun y => d257 (mid := mid) C hit x.rows x4 x5 s1 (n := m4) (by omega) (hasP y)
              simp only [hupP] at hc3
              have hin : DD f it mid x s1 = ((x.flow, (JR f it mid x.rows s1).1), (JR f it mid x.rows s1).2) := by rw [DD, if_neg k6, if_pos k7]
              rw [hin]
              generalize JR f it mid x.rows s1 = r3 at hc3 ⊢
              obtain ⟨q3, s3⟩ := r3
              dsimp only at hc3 ⊢
              simp [go_sem, AC, k7]
              refine Y9 (by simpa [BD.enc] using hc3 _) ?_
              rintro v H' n' ⟨rfl, rfl, rfl⟩
              simp [go_sem, Jo, AC, Ai]
              exact ⟨AW (Ad (hXb2 _) (JO _)) (AC _ _ _), AJ (hXb2 _) AB⟩
            · have hin : DD f it mid x s1 = ((x.flow, x.rows), s1) := by rw [DD, if_neg k6, if_neg k7]
              rw [hin]
              dsimp only
              simp [go_sem, Jo, AC, k6, k7]
              exact ⟨AW (Ad (hXb2 _) (JO _)) (AC _ _ _), AJ (hXb2 _) AB⟩
        · generalize DD f it mid x s1 = r2
          obtain ⟨⟨q2, q3⟩, s2⟩ := r2
          dsimp only
          refine AK ?_
          simp [go_sem]
          have hpush := hA.push (j := m5 + 1) (m' := m5 + 1 + 1) (e := (x.put h' q2 q3).enc) (AE.E.st _) (AE.E.len _) (by omega) (by omega)
          rw [Fd (es := E) (e := (x.put h' q2 q3).enc) (o := o) (t := 22) (t2 := 22) (el := 70) (z := 11) (by simp [go_sem]) (by simp [go_sem]) (by simp [go_sem]) (by simp) (by simp [go_sem]) (by simp [go_sem]) (by simp [go_sem]) (by omega) hA (AE.E.len _) ?a1 ?a2]
          case a1 => simp [AC, KW, SV.cells, AE.put, AE.kind, AE.code, AE.id, AE.text, AE.head, AE.flow, AE.rows]
          case a2 =>
           intro j e
           have := (hA.lt j e).2
           rw [AD _ _ (by omega)]; exact E3 j e
          have hlive := ES (p := m5 + 1) (v := .sl (m5 + 1) 0 11 (E.length + 1) false) (e := (x.put h' q2 q3).enc) (hUb s2) (by omega) hA (H := hset (AS o E (As st s2 H)) m5 (some (.cells [AA x.kind, AA x.code, AA x.id, .str x.text, Ag h'.props, AA h'.ins, AA h'.move, Aa h'.dels, AO h'.layers, AG q2, Ay q3]))) (AJ (fun j z e => by have := hUb s2 j z e; omega) (DO (hUb s2) hA))
          have hvv : AQ 11 (some (m5 + 1)) (E ++ [(x.put h' q2 q3).enc]) = .sl (m5 + 1) 0 11 (E.length + 1) false := by simp [AQ]
          simp [go_sem]
          exact ⟨some (m5 + 1), ⟨by omega, hpush⟩, hvv.symm, by simpa [Cu.app, SV.cells] using hlive⟩
     · refine AK ?_
       simp [go_sem, w1, Jo, -Int.natCast_add]
       exact ⟨i + 1, by omega, o, ⟨by omega, hm.1, hm.2⟩, ⟨rfl, rfl⟩, AB⟩
   · have : i = l.length := by omega
     subst this
     refine AK ?_
     simp [go_sem]
     exact ⟨o, ⟨hnm, hA⟩, rfl, AB⟩
 · refine AK ?_
   simp [go_sem]
   rw [hRl] at hm ⊢
   exact Hg (hU _) hm.2 (fun e he => by obtain ⟨x, _, rfl⟩ := Y5.1 he; exact AE.cl n x)
end
def trI : Tr := .pure 0 <| .pure 1 <| .pure 2 <| .pure 4 <| .pure 5 <| .pure 6 <| .pure 8 <| .pure 9 <| .pure 10 <| .one 3 <| .one 7 <| .one 11 <| .one 12 <| .one 13 <| .one 14 .nil
section
variable {σ : Type} {st : σ → Nat → Option BY} {n0 : Nat} {g : FuncId} {a b : List SV} {f : σ → B6 → AF × Bool × σ} {ok : AF → Prop} {sc : BD}
theorem CY {h h2 : Hp} {n n' : Nat} {v : SV} (ho : FM h n) (hc : closed n v = true) (hh : ∀ j y, h j = some y → h2 j = some y) : CE n h2 n' v (fun w h' n' => w = v ∧ h' = h ∧ n' = n) :=
 .inr ⟨0, v, h, Jo, hc, fun j x e => ⟨hh j x e, ho j x e⟩, rfl, rfl, rfl⟩
set_option maxHeartbeats 2000000 in
theorem d121 (C : Lm st n0 g a b f ok) (hp : AF → Prop) (K : Nat) (hK : K ≤ 349525) (hok : ∀ h : AF, hp h → ok h ∧ h.sized) : ∀ N, ItC st n0 g a b (A6 f sc N) sc (Ex hp K N)
 | 0 => fun id l mid s H n h => h.elim
 | N + 1 => fun id l mid s H n hl hn hs => by
  have ih := d121 C hp K hK hok N
  have hsz := hl.sized (fun h e => (hok h e).2) (by omega)
  have htx : ∀ x ∈ l, x.text.size ≤ 1048576 := ZC hsz.2
  have hparts : ∀ l, Ex hp K (N + 1) l → ∀ x ∈ l, okI ok (Ex hp K N) x := fun l hl x hx => by
   obtain ⟨h1, h2, h3⟩ := Ds.1 hl
   obtain ⟨h4, h5, h6, h7⟩ := h3 x hx
   exact ⟨(hok _ h4).1, by have := It hx; omega, h5, by omega, fun r hr => ⟨(hok _ (h7 r hr).1).1, by have := (h7 r hr).2.1; omega, fun c hc => ⟨(hok _ ((h7 r hr).2.2 c hc).1).1, ((h7 r hr).2.2 c hc).2⟩⟩⟩
  refine Da Tryz.func121 rfl fun ho => ?_
  have hU : ∀ s', FM (As st s' H) n := fun s' => C.old s' hn ho
  have hUb : ∀ s' j y, As st s' H j = some y → j < n := fun s' j y e => (hU s' j y e).1
  refine AZ 1 [(0, .fn (.func g) a b), (1, AA id), (2, AG l), (4, .bool mid), (8, .iptr [AA sc.id, AA sc.a, AA sc.b])] (As st s H) n ?_ (fun m hm => ?_)
  · simp [go_sem, BD.enc, Jo, DH s H hs]
    refine ⟨AW (ho.none (JO n)) (by simp [hset]), fun j y e => by rw [AD _ _ (by have := (ho j y e).1; omega)]; exact e⟩
  by_cases hin : Ff sc id l mid = true
  · have he : A6 f sc (N + 1) id l mid s = ((Bi f (A6 f sc N) false (Ab l 0 sc.a).1 s).1 ++ (Bi f (A6 f sc N) true (Ab l sc.a sc.b).1 (Bi f (A6 f sc N) false (Ab l 0 sc.a).1 s).2).1 ++ (Bi f (A6 f sc N) false (Ab l sc.b (BI l).1).1 (Bi f (A6 f sc N) true (Ab l sc.a sc.b).1 (Bi f (A6 f sc N) false (Ab l 0 sc.a).1 s).2).2).1, (Bi f (A6 f sc N) false (Ab l sc.b (BI l).1).1 (Bi f (A6 f sc N) true (Ab l sc.a sc.b).1 (Bi f (A6 f sc N) false (Ab l 0 sc.a).1 s).2).2).2) := by rw [A6, if_pos hin]
    simp only [Ff, KB, decide_eq_true_eq, YC] at hin
    obtain ⟨⟨⟨⟨i1, i2⟩, i3⟩, i4⟩, i5⟩ := hin
    subst i1 i2
    rw [he]
    have l1 := Fv 0 sc.a hl
    have l2 := Fv sc.a sc.b hl
    have l3 := Fv sc.b (BI l).1 hl
    have n1 := Dt l 0 sc.a
    have n2 := Dt l sc.a sc.b
    have n3 := Dt l sc.b (BI l).1
    have hlK := hl.1
    have c1 := QP l 0 sc.a hsz.1 hsz.2
    have c2 := QP l sc.a sc.b hsz.1 hsz.2
    have c3 := QP l sc.b (BI l).1 hsz.1 hsz.2
    refine FW ?_
    refine CJ 0 [(0, .fn (.func g) a b), (2, AG l), (8, .iptr [AA sc.id, AA sc.a, AA sc.b]), (26, .bool true)] (As st s H) m ?_ (fun m' hm' => ?_)
    · simp [go_sem, Jo]
    subst hm'
    refine Ap (b := true) (by simp [go_sem]) ?_
    rw [if_pos rfl]
    refine AZ 0 [(0, .fn (.func g) a b), (2, AG l), (8, .iptr [AA sc.id, AA sc.a, AA sc.b]), (11, AA (BI l).1)] (As st s H) m ?_ (fun m' hm' => ?_)
    · simp [go_sem]
      refine Y4 (Ts l hsz.1 htx) ?_
      simp [go_sem, Jo]
    refine CJ 0 [(0, .fn (.func g) a b), (2, AG l), (8, .iptr [AA sc.id, AA sc.a, AA sc.b]), (11, AA (BI l).1), (47, .bool true)] (As st s H) m' ?_ (fun m2 hm2 => ?_)
    · simp [go_sem, Jo, i3, i4, i5]
    subst hm2
    refine Ap (b := true) (by simp [go_sem]) ?_
    rw [if_pos rfl]
    refine AZ 0 [(0, .fn (.func g) a b), (2, AG l), (8, .iptr [AA sc.id, AA sc.a, AA sc.b]), (11, AA (BI l).1), (13, AG (Ab l 0 sc.a).1)] (As st s H) m' ?_ (fun m2 hm2 => ?_)
    · simp [go_sem]
      refine Y4 c1 ?_
      simp [go_sem, Jo]
    refine AZ 0 [(0, .fn (.func g) a b), (2, AG l), (8, .iptr [AA sc.id, AA sc.a, AA sc.b]), (11, AA (BI l).1), (13, AG (Ab l 0 sc.a).1), (15, AG (Ab l sc.a sc.b).1)] (As st s H) m2 ?_ (fun m3 hm3 => ?_)
    · simp [go_sem]
      refine Y4 c2 ?_
      simp [go_sem, Jo]
    refine AZ 0 [(0, .fn (.func g) a b), (8, .iptr [AA sc.id, AA sc.a, AA sc.b]), (13, AG (Ab l 0 sc.a).1), (15, AG (Ab l sc.a sc.b).1), (17, AG (Ab l sc.b (BI l).1).1)] (As st s H) m3 ?_ (fun m4 hm4 => ?_)
    · simp [go_sem]
      refine Y4 c3 ?_
      simp [go_sem, Jo]
    generalize hr1 : (Ab l 0 sc.a).1 = r1 at l1 n1 ⊢
    generalize hr2 : (Ab l sc.a sc.b).1 = r2 at l2 n2 ⊢
    generalize hr3 : (Ab l sc.b (BI l).1).1 = r3 at l3 n3 ⊢
    have w1 := fun m (hm : n ≤ m) => TA (mid := false) (sc := sc) C ih r1 (by omega) (hparts r1 l1) s (H := As st s H) (n := m) (by omega) Bu
    have e1 := G6 (f := f) (it := A6 f sc N) (mid := false) r1 ([], s)
    have z1 : Bi f (A6 f sc N) false r1 s = r1.foldl (DV f (A6 f sc N) false) ([], s) := rfl
    rw [← z1] at e1
    generalize Bi f (A6 f sc N) false r1 s = q1 at w1 e1 ⊢
    obtain ⟨q1, s1⟩ := q1
    have w2 := fun m (hm : n ≤ m) => TA (mid := true) (sc := sc) C ih r2 (by omega) (hparts r2 l2) s1 (H := As st s1 H) (n := m) (by omega) Bu
    have e2 := G6 (f := f) (it := A6 f sc N) (mid := true) r2 ([], s1)
    have z2 : Bi f (A6 f sc N) true r2 s1 = r2.foldl (DV f (A6 f sc N) true) ([], s1) := rfl
    rw [← z2] at e2
    dsimp only at w1 e1 ⊢
    generalize Bi f (A6 f sc N) true r2 s1 = q2 at w2 e2 ⊢
    obtain ⟨q2, s2⟩ := q2
    have w3 := fun m (hm : n ≤ m) => TA (mid := false) (sc := sc) C ih r3 (by omega) (hparts r3 l3) s2 (H := As st s2 H) (n := m) (by omega) Bu
    have e3 := G6 (f := f) (it := A6 f sc N) (mid := false) r3 ([], s2)
    have z3 : Bi f (A6 f sc N) false r3 s2 = r3.foldl (DV f (A6 f sc N) false) ([], s2) := rfl
    rw [← z3] at e3
    dsimp only at w2 e2 ⊢
    generalize Bi f (A6 f sc N) false r3 s2 = q3 at w3 e3 ⊢
    obtain ⟨q3, s3⟩ := q3
    dsimp only at w3 e3 ⊢
    simp only [C.up2, BD.enc] at w1 w2 w3
    have hcc := c189 [q1, q2, q3] (by simp) (by simp at e1 e2 e3 ⊢; omega)
    refine AV 0 (α := Unit) (fun _ => [(10, AG (q1 ++ q2 ++ q3))]) (fun _ => As st s3 H) (fun _ m5 => m4 ≤ m5) (Bt trI rfl (by kernel_rfl) (by kernel_rfl) ?_) (fun _ m5 hm5 => ?_)
    · simp [go_sem, trI]
      refine Y9 (w1 m4 (by omega)) ?_
      rintro v H' n' ⟨rfl, rfl, rfl⟩
      simp [go_sem]
      refine Y9 (w2 _ (by omega)) ?_
      rintro v H' n' ⟨rfl, rfl, rfl⟩
      simp [go_sem]
      refine Y9 (w3 _ (by omega)) ?_
      rintro v H' n' ⟨rfl, rfl, rfl⟩
      simp [go_sem]
      refine ZQ (bs := [.imm 1 ([q1, q2, q3].map AG) false]) (h2 := As st s3 H) 1 (AJ (fun j z e => by have := hUb s3 j z e; omega) AB) ⟨?_, trivial⟩ ?_
      · exact DN (es := [AG q1, AG q2, AG q3]) (Ad (hUb s3) (by omega)) (by simp) (by rw [AC]; simp [SV.cells]) (by simp [SV.storable, SV.cells])
      refine Y4 hcc ?_
      simp [go_sem, Jo]
    · refine AK ?_
      simp [go_sem]
      have := CY (h2 := As st s3 H) (n' := m5) (v := AG (q1 ++ q2 ++ q3)) (hU s3) (AE.E.imm _ _ _ _) AB
      simpa using this
  · have he : A6 f sc (N + 1) id l mid s = Bi f (A6 f sc N) mid l s := by rw [A6, if_neg hin]
    rw [he]
    refine AZ 0 [(0, .fn (.func g) a b), (2, AG l), (4, .bool mid), (8, .iptr [AA sc.id, AA sc.a, AA sc.b])] (As st s H) m ?_ (fun m' hm' => ?_)
    · by_cases c1 : id = sc.id
      · cases mid with
        | true => simp [go_sem, Jo, c1]
        | false =>
         simp [go_sem, c1]
         refine Y4 (Ts l hsz.1 htx) ?_
         by_cases a0 : 0 ≤ sc.a
         · by_cases ab : sc.a ≤ sc.b
           · have bl : ¬ sc.b ≤ (BI l).1 := fun bl => hin (by simp [Ff, c1, a0, ab, bl])
             simp [go_sem, Jo, a0, ab, bl]
           · simp [go_sem, Jo, a0, ab]
         · simp [go_sem, Jo, a0]
      · simp [go_sem, Jo, c1]
    refine AZ 0 [(10, AG (Bi f (A6 f sc N) mid l s).1)] (As st (Bi f (A6 f sc N) mid l s).2 H) n ?_ (fun m' hm' => ?_)
    · have w := TA (mid := mid) (sc := sc) C ih l hsz.1 (hparts l hl) s (H := As st s H) (n := m') (by omega) Bu
      simp only [C.up2, BD.enc] at w
      generalize Bi f (A6 f sc N) mid l s = q at w ⊢
      obtain ⟨q, s1⟩ := q
      dsimp only at w ⊢
      simp [go_sem]
      refine Y9 w ?_
      rintro v H' n' ⟨rfl, rfl, rfl⟩
      simp [go_sem, Jo]
      omega
    · refine AK ?_
      simp [go_sem]
      have := CY (h2 := As st (Bi f (A6 f sc N) mid l s).2 H) (n' := m') (v := AG (Bi f (A6 f sc N) mid l s).1) (hU _) (AE.E.imm _ _ _ _) AB
      simpa using this
end
section
variable {σ : Type} {st : σ → Nat → Option BY} {n0 : Nat} {g : FuncId} {a b : List SV} {f : σ → B6 → AF × Bool × σ} {ok : AF → Prop} {sc : BD}
def Bs (f : σ → B6 → AF × Bool × σ) (sc : BD) (N : Nat) (d : AH) (revs : List Av) (s : σ) : AH × σ :=
 (⟨(A6 f sc N 0 d.flow false s).1, (f (A6 f sc N 0 d.flow false s).2 ⟨d.«end», false, 1⟩).1, revs, d.settings⟩, (f (A6 f sc N 0 d.flow false s).2 ⟨d.«end», false, 1⟩).2.2)
theorem Eg {n : Nat} (hlt : ∀ s o, n ≤ o → st s o = none) {s : σ} {H : Hp} {p : Nat} (hp : n ≤ p) (y : Option BY) (h : ∀ k z, st s k = some z → H k = some z) : ∀ k z, st s k = some z → hset H p y k = some z := fun k z e => by
 rw [AD _ _ (by rintro rfl; rw [hlt s k hp] at e; cases e)]; exact h k z e
theorem EW {n p : Nat} (hp : n ≠ p) (X : Hp) (a b c : Option BY) : hset (hset (hset X n a) p b) n c = hset (hset X n c) p b := by
 funext j; simp only [hset]; grind
def EG : List SV := [.imm 0 [] true, .imm 0 [] true, AA 0, AA 0, .imm 0 [] true, .imm 0 [] true, .imm 0 [] true, .imm 0 [] true, .imm 0 [] true, .imm 0 [] true, .imm 0 [] true]
set_option maxHeartbeats 2000000 in
theorem d49 (C : Lm st n0 g a b f ok) (hp : AF → Prop) (K : Nat) (hK : K ≤ 349525) (hok : ∀ h : AF, hp h → ok h ∧ h.sized) (N : Nat) (d : AH) (revs : List Av) (s : σ) (hl : Ex hp K N d.flow) (hend : hp d.«end»)
 (h1 : (Bs f sc N d revs s).1.sized) (h2 : (Bs f sc N d revs s).1.normal.sized) (h3 : (Bb [] (AE.usL (AP (Bs f sc N d revs s).1.flow) ++ (Bs f sc N d revs s).1.«end».all)).length ≤ 1048576) {H : Hp} {n : Nat} (hn : n0 ≤ n) (hs : ∀ o y, st s o = some y → H o = some y) :
 BN Tryz.prog 49 [.fn (.func g) a b, d.enc, sc.enc, Aj revs] H n (fun v h' n' => v = (Bs f sc N d revs s).1.normal.enc ∧ h' = As st (Bs f sc N d revs s).2 H ∧ n' = n) := by
 refine Da Tryz.func49 rfl fun ho => ?_
 have hU : ∀ s', FM (As st s' H) n := fun s' => C.old s' hn ho
 have hUb : ∀ s' j y, As st s' H j = some y → j < n := fun s' j y e => (hU s' j y e).1
 have e1 : n + 2 ≠ n := by omega
 have e2 : n ≠ n + 2 := by omega
 have hlive : ∀ s' y z, ∀ j w, As st s' H j = some w → hset (hset (As st s' H) n y) (n + 2) z j = some w := fun s' y z => AJ (fun j z e => by have := hUb s' j z e; omega) (AJ (hUb s') AB)
 have hup : ∀ s1 s' y z, As st s' (hset (hset (As st s1 H) n y) (n + 2) z) = hset (hset (As st s' H) n y) (n + 2) z := fun s1 s' y z => by rw [← C.hset _ _ (by omega), ← C.hset _ _ (by omega), C.up2]
 have hhas : ∀ s' y z, ∀ k w, st s' k = some w → hset (hset (As st s' H) n y) (n + 2) z k = some w := fun s' y z => Eg C.lt (by omega) z (Eg C.lt hn y Bu)
 refine Bn 1 [(0, .fn (.func g) a b), (3, Aj revs), (5, .ptr n 0), (6, .iptr [AA sc.id, AA sc.a, AA sc.b]), (8, .ptr (n + 2) 0)] (hset (hset (As st s H) n (some (.cells ([AG d.flow] ++ d.«end».flat ++ [Aj d.revs] ++ d.settings.flat)))) (n + 2) (some (.cells EG))) (fun m => m = n + 3) ?_ (fun m hm => ?_)
 · simp [go_sem, BD.enc, Jo, DH s H hs, AH.enc, AF.flat, AI.flat, Y6, EG]
   refine ⟨AW (by rw [AD _ _ (by omega), AD _ _ (by omega)]; exact ho.none (by omega)) (by simp [hset]), fun j y => ?_⟩
   have := ho j y; simp only [hset]; grind
 subst hm
 have c1 := d121 (sc := sc) C hp K hK hok N 0 d.flow false s
 simp only [Bs] at h1 h2 h3 ⊢
 generalize A6 f sc N 0 d.flow false s = q at c1 h1 h2 h3 ⊢
 obtain ⟨q, s1⟩ := q
 dsimp only at c1 h1 h2 h3 ⊢
 refine Bn 0 [(0, .fn (.func g) a b), (3, Aj revs), (5, .ptr n 0), (8, .ptr (n + 2) 0)] (hset (hset (As st s1 H) n (some (.cells ([AG q] ++ d.«end».flat ++ [Aj d.revs] ++ d.settings.flat)))) (n + 2) (some (.cells EG))) (fun m => n + 3 ≤ m) ?_ (fun m hm => ?_)
 · have c2 := fun y z m (hm : n ≤ m) => c1 (hset (hset (As st s H) n y) (n + 2) z) m hl (by omega) (hhas s y z)
   simp only [hup, BD.enc] at c2
   simp [go_sem, AF.flat, AI.flat, AC, AD]
   refine Y9 (c2 _ _ _ (by omega)) ?_
   rintro v H' n' ⟨rfl, rfl, rfl⟩
   simp [go_sem, Jo, AC, AD, EW e2]
 have c3 := fun y z m (hm : n ≤ m) => C.call s1 ⟨d.«end», false, 1⟩ (hset (hset (As st s1 H) n y) (n + 2) z) m (hok _ hend).1 (by omega) (hhas s1 y z)
 generalize f s1 ⟨d.«end», false, 1⟩ = r at c3 h1 h2 h3 ⊢
 obtain ⟨h', k, s2⟩ := r
 simp only [hup, B6.enc, AF.flat, Y7, Yc, KF] at c3
 dsimp only at c3 h1 h2 h3 ⊢
 refine AZ 0 [(3, Aj revs), (5, .ptr n 0), (8, .ptr (n + 2) 0)] (hset (hset (As st s2 H) n (some (.cells ([AG q] ++ h'.flat ++ [Aj d.revs] ++ d.settings.flat)))) (n + 2) (some (.cells EG))) m ?_ (fun m2 hm2 => ?_)
 · simp [go_sem, AF.flat, AI.flat, AC, AD]
   refine Y9 (c3 _ _ _ (by omega)) ?_
   rintro v H' n' ⟨rfl, rfl, rfl⟩
   simp [go_sem, Jo, AC, AD, EW e2, AF.enc, AF.flat]
 refine AZ 0 [(5, .ptr n 0), (8, .ptr (n + 2) 0)] (hset (hset (As st s2 H) n (some (.cells ([AG q] ++ h'.flat ++ [Aj revs] ++ d.settings.flat)))) (n + 2) (some (.cells EG))) m2 ?_ (fun m3 hm3 => ?_)
 · simp [go_sem, Jo, AF.flat, AI.flat, AC, AD, EW e2]
 generalize hD : (⟨q, h', revs, d.settings⟩ : AH) = D at h1 h2 h3 ⊢
 have hDf : q = D.flow ∧ h' = D.«end» ∧ revs = D.revs ∧ d.settings = D.settings := by rw [← hD]; exact ⟨rfl, rfl, rfl, rfl⟩
 obtain ⟨f1, f2, f3, f4⟩ := hDf
 rw [f1, f2] at h3
 rw [f1, f2, f3, f4]
 refine AK ?_
 simp [go_sem, AF.flat, AI.flat, AC, AD]
 refine Y4 (by simpa [AH.enc, AF.flat, AI.flat] using c21 D h1 h2 h3) ?_
 generalize hE : D.normal = E
 have hcl : closed n E.enc = true := by simp [AH.enc, AF.flat, AI.flat, closed, closedL, AE.E.closedL, Eu.E.closedL, BS.E.closedL, Az.E.closedL, Av.E.closedL, A7.E.closedL, FL.E.closedL, Aw.E.closedL, FX.E.closedL]
 simp [go_sem, AH.enc, AF.flat, AI.flat, AC, EG]
 simp only [AH.enc, AF.flat, AI.flat, Y7, Yc] at hcl
 exact CY (hU s2) hcl (AJ (fun j z e => by have := hUb s2 j z e; omega) (hlive s2 _ _))
end
section
variable {σ : Type} {st : σ → Nat → Option BY} {n0 : Nat} {g : FuncId} {a b : List SV} {u : σ → B6 → σ} {ok : AF → Prop} {sc : BD}
structure Vis (st : σ → Nat → Option BY) (n0 : Nat) (g : FuncId) (a b : List SV) (u : σ → B6 → σ) (ok : AF → Prop) : Prop where
 lt : ∀ s o, n0 ≤ o → st s o = none
 dom : ∀ s s' o, st s o = none → st s' o = none
 cl : ∀ s o y, st s o = some y → BW n0 y = true
 call : ∀ s p H n, ok p.head → n0 ≤ n → (∀ o y, st s o = some y → H o = some y) → BN Tryz.prog g (a ++ [p.enc] ++ b) H n (fun v h' n' => v = .tup [] ∧ h' = As st (u s p) H ∧ n' = n)
def Dj (u : σ → B6 → σ) (s : σ) (p : B6) : AF × Bool × σ := (p.head, true, u s p)
theorem Vis.clo (C : Vis st n0 g a b u ok) : Lm st n0 112 [] [.iptr [.fn (.func g) a b]] (Dj u) ok where
 lt := C.lt
 dom := C.dom
 cl := C.cl
 call s p H n hp hn hs := by
  have Cx : Lm st n0 g a b (Dj u) (fun _ => False) := ⟨C.lt, C.dom, C.cl, fun s p H n h => h.elim⟩
  refine Da Tryz.func112 rfl fun ho => ?_
  have hU : ∀ s', FM (As st s' H) n := fun s' => Cx.old s' hn ho
  have hUb : ∀ s' j y, As st s' H j = some y → j < n := fun s' j y e => (hU s' j y e).1
  have hc := C.call s p (hset H (n + 1) (some (.cells [.imm 0 [] true, AA 0, AA 0, .imm 0 [] true, .imm 0 [] true]))) (n + 2) hp (by omega) (Eg C.lt (by omega) _ hs)
  have hup : ∀ s' y, As st s' (hset H (n + 1) y) = hset (As st s' H) (n + 1) y := fun s' y => by rw [Cx.hset _ _ (by omega)]
  rw [hup] at hc
  refine Bn 1 [(1, .iptr [.fn (.func g) a b]), (2, .iptr (p.head.flat ++ [.bool p.mid, AA p.units])), (3, .ptr (n + 1) 0)] (hset H (n + 1) (some (.cells [.imm 0 [] true, AA 0, AA 0, .imm 0 [] true, .imm 0 [] true]))) (fun m => m = n + 2) ?_ (fun m hm => ?_)
  · simp [go_sem, B6.enc, AF.flat, Jo]
    refine ⟨AW (by rw [AD _ _ (by omega)]; exact ho.none (JO n)) (by simp [hset]), fun j y => ?_⟩
    have := ho j y; simp only [hset]; grind
  subst hm
  refine Bn 0 [(2, .iptr (p.head.flat ++ [.bool p.mid, AA p.units])), (3, .ptr (n + 1) 0)] (hset (As st (u s p) H) (n + 1) (some (.cells [.imm 0 [] true, AA 0, AA 0, .imm 0 [] true, .imm 0 [] true]))) (fun m => n + 2 ≤ m) ?_ (fun m hm => ?_)
  · simp [go_sem, AF.flat]
    refine Y9 (by simpa [B6.enc, AF.flat] using hc) ?_
    rintro v H' n' ⟨rfl, rfl, rfl⟩
    simp [go_sem, Jo]
  refine AK ?_
  simp [go_sem, AF.flat, AC, Ai]
  have := CY (h2 := hset (As st (u s p) H) (n + 1) (some (.cells [Ag p.head.props, AA p.head.ins, AA p.head.move, Aa p.head.dels, AO p.head.layers]))) (n' := m) (v := .tup [p.head.enc, .bool true]) (hU (u s p)) (by simp [closed, closedL, AF.enc, AF.flat, Eu.E.closedL, BS.E.closedL, Az.E.closedL]) (AJ (fun j z e => by have := hUb _ j z e; omega) AB)
  simpa [AF.enc, AF.flat, Dj] using this
set_option maxHeartbeats 2000000 in
theorem d36 (C : Vis st n0 g a b u ok) (hp : AF → Prop) (K : Nat) (hK : K ≤ 349525) (hok : ∀ h : AF, hp h → ok h ∧ h.sized) (N : Nat) (d : AH) (s : σ) (hl : Ex hp K N d.flow) (hend : hp d.«end»)
 (h1 : (Bs (Dj u) sc N d d.revs s).1.sized) (h2 : (Bs (Dj u) sc N d d.revs s).1.normal.sized) (h3 : (Bb [] (AE.usL (AP (Bs (Dj u) sc N d d.revs s).1.flow) ++ (Bs (Dj u) sc N d d.revs s).1.«end».all)).length ≤ 1048576) {H : Hp} {n : Nat} (hn : n0 ≤ n) (hs : ∀ o y, st s o = some y → H o = some y) :
 BN Tryz.prog 36 [d.enc, sc.enc, .fn (.func g) a b] H n (fun v h' n' => v = .tup [] ∧ h' = As st (Bs (Dj u) sc N d d.revs s).2 H ∧ n' = n) := by
 have Cx := C.clo
 refine Da Tryz.func36 rfl fun ho => ?_
 have hU : ∀ s', FM (As st s' H) n := fun s' => Cx.old s' hn ho
 refine AZ 1 [(3, .iptr ([AG d.flow] ++ d.«end».flat ++ [Aj d.revs] ++ d.settings.flat)), (4, .iptr [AA sc.id, AA sc.a, AA sc.b]), (5, .iptr [.fn (.func g) a b])] H n ?_ (fun m hm => ?_)
 · simp [go_sem, BD.enc, AH.enc, AF.flat, AI.flat, Y6]
   refine ⟨⟨AW (ho.none (by omega)) (by simp [hset]), AW (ho.none (by omega)) (by simp [hset]), AW (ho.none (by omega)) (by simp [hset])⟩, fun j y => ?_⟩
   have := ho j y; simp only [hset]; grind
 have c := d49 (sc := sc) Cx hp K hK hok N d d.revs s hl hend h1 h2 h3 (H := H) (n := m) (by omega) hs
 generalize (Bs (Dj u) sc N d d.revs s).1.normal.enc = w at c
 generalize (Bs (Dj u) sc N d d.revs s).2 = s2 at c ⊢
 refine AK ?_
 simp [go_sem, AF.flat, AI.flat]
 refine Y9 (by simpa [BD.enc, AH.enc, AF.flat, AI.flat] using c) ?_
 rintro v H' n' ⟨rfl, rfl, rfl⟩
 simp [go_sem]
 exact CY (hU s2) (by simp [closed, closedL]) AB
end
def IH (p q : Nat) (s : Int × Int) (o : Nat) : Option BY := if o = p then some (.cells [AA s.1]) else if o = q then some (.cells [AA s.2]) else none
def Gv (rev : Int) (s : Int × Int) (x : B6) : Int × Int :=
 if x.head.uses rev then if x.mid then (IntKind.i64.wrap (s.1 + x.units), s.2) else (s.1, IntKind.i64.wrap (s.2 + x.units)) else s
theorem Se {p q : Nat} (hpq : p ≠ q) (s : Int × Int) (H : Hp) : As (IH p q) s H = hset (hset H p (some (.cells [AA s.1]))) q (some (.cells [AA s.2])) := by
 funext o
 simp only [As, IH, hset]
 by_cases h1 : o = p
 · subst h1; simp [hpq]
 · by_cases h2 : o = q
   · subst h2; simp [h1]
   · simp [h1, h2]
theorem v37 {p q n0 : Nat} (hpq : p ≠ q) (hp : p < n0) (hq : q < n0) (rev : Int) : Vis (IH p q) n0 37 [] [.iptr [AA rev], .ptr p 0, .ptr q 0] (Gv rev) (fun h => h.sized ∧ h.revs.length ≤ 1048576) where
 lt s o h := by simp only [IH]; rw [if_neg (by omega), if_neg (by omega)]
 dom s s' o h := by
  simp only [IH] at h ⊢
  by_cases e1 : o = p
  · rw [if_pos e1] at h; cases h
  · by_cases e2 : o = q
    · rw [if_neg e1, if_pos e2] at h; cases h
    · rw [if_neg e1, if_neg e2]
 cl s o y h := by simp only [IH] at h; split at h <;> first | (cases h; simp [BW, closed, closedL]) | (split at h <;> first | (cases h; simp [BW, closed, closedL]) | cases h)
 call s x H n hx hn hs := by
  have a1 : H p = some (.cells [AA s.1]) := hs p _ (by simp [IH])
  have a2 : H q = some (.cells [AA s.2]) := hs q _ (by simp [IH, Ne.symm hpq])
  have b1 : p ≠ n := by omega
  have b2 : q ≠ n := by omega
  have hU : ∀ y1 y2, (∀ z, y1 = some z → BW n z = true) → (∀ z, y2 = some z → BW n z = true) → FM H n → FM (hset (hset H p y1) q y2) n := fun y1 y2 c1 c2 ho j z e => by
   simp only [hset] at e
   split at e
   · subst_vars; exact ⟨by omega, c2 z rfl⟩
   · split at e
     · subst_vars; exact ⟨by omega, c1 z rfl⟩
     · exact ho j z e
  refine Da Tryz.func37 rfl fun ho => ?_
  refine AZ 1 [(1, .iptr [AA rev]), (2, .ptr p 0), (3, .ptr q 0), (4, .iptr (x.head.flat ++ [.bool x.mid, AA x.units]))] H n ?_ (fun m hm => ?_)
  · simp [go_sem, B6.enc, AF.flat, Jo]
    refine ⟨AW (ho.none (JO n)) (by simp [hset]), AJ (fun j z e => (ho j z e).1) AB⟩
  refine AK ?_
  simp [go_sem, AF.flat]
  refine Y4 (by simpa [AF.enc, AF.flat] using c38 x.head hx.1 hx.2 rev) ?_
  rw [Se hpq]
  cases hu : x.head.uses rev with
  | false =>
   simp [go_sem]
   have hk : Gv rev s x = s := by simp [Gv, hu]
   rw [hk]
   have e : hset (hset H p (some (.cells [AA s.1]))) q (some (.cells [AA s.2])) = H := by
    funext j; simp only [hset]; split
    · subst_vars; exact a2.symm
    · split
      · subst_vars; exact a1.symm
      · rfl
   rw [e]
   exact CY ho (by simp [closed, closedL]) AB
  | true =>
   cases hmid : x.mid with
   | true =>
    have hk : Gv rev s x = (IntKind.i64.wrap (s.1 + x.units), s.2) := by simp [Gv, hu, hmid]
    rw [hk]
    simp [go_sem, a1]
    refine CY (hU _ _ (by rintro z e; cases e; simp [BW, closed, closedL]) (by rintro z e; cases e; simp [BW, closed, closedL]) ho) (by simp [closed, closedL]) fun j y e => ?_
    simp only [hset] at e ⊢; grind
   | false =>
    have hk : Gv rev s x = (s.1, IntKind.i64.wrap (s.2 + x.units)) := by simp [Gv, hu, hmid]
    rw [hk]
    simp [go_sem, a2]
    refine CY (hU _ _ (by rintro z e; cases e; simp [BW, closed, closedL]) (by rintro z e; cases e; simp [BW, closed, closedL]) ho) (by simp [closed, closedL]) fun j y e => ?_
    simp only [hset] at e ⊢; grind
def GF (sc : BD) (l : List AE) : Prop := sc.a < 0 ∨ sc.b < sc.a ∨ (BI l).1 < sc.b
instance (sc : BD) (l : List AE) : Decidable (GF sc l) := by unfold GF; infer_instance
def Eo (N : Nat) (d : AH) (rev : Int) (sc : BD) : Int × Int × Int :=
 if (Dp d sc.id).isSome = false then (0, 0, 8)
 else if GF sc (((Dp d sc.id).map Fl.items).getD []) then (0, 0, 2)
 else if (BG d.revs rev).2 = false then (0, 0, 22)
 else ((Bs (Dj (Gv rev)) sc N d d.revs (0, 0)).2.1, (Bs (Dj (Gv rev)) sc N d d.revs (0, 0)).2.2, 0)
def trE : Tr := .two 0 1 (.two 1 2 (.one 2 (.one 3 (.one 4 .nil))) (.one 1 (.one 3 (.one 4 .nil)))) (.one 0 (.one 2 (.one 3 (.one 4 .nil))))
set_option maxHeartbeats 2000000 in
theorem c13 (hp : AF → Prop) (K : Nat) (hK : K ≤ 349525) (hok : ∀ h : AF, hp h → (h.sized ∧ h.revs.length ≤ 1048576) ∧ h.sized) (N : Nat) (d : AH) (rev : Int) (sc : BD) (hl : Ex hp K N d.flow) (hend : hp d.«end») (hr : d.revs.length ≤ 1048576)
 (hfl : ∀ fl, Dp d sc.id = some fl → fl.items.length ≤ 1048576 ∧ ∀ x ∈ fl.items, x.text.size ≤ 1048576)
 (h1 : (Bs (Dj (Gv rev)) sc N d d.revs (0, 0)).1.sized) (h2 : (Bs (Dj (Gv rev)) sc N d d.revs (0, 0)).1.normal.sized) (h3 : (Bb [] (AE.usL (AP (Bs (Dj (Gv rev)) sc N d d.revs (0, 0)).1.flow) ++ (Bs (Dj (Gv rev)) sc N d d.revs (0, 0)).1.«end».all)).length ≤ 1048576) :
 PC 13 [d.enc, AA rev, sc.enc] (.tup [AA (Eo N d rev sc).1, AA (Eo N d rev sc).2.1, AA (Eo N d rev sc).2.2]) := by
 intro h n
 refine Da Tryz.func13 rfl fun ho => ?_
 have e0 : n + 3 ≠ n + 4 := by omega
 have e1 : n + 4 ≠ n + 3 := by omega
 have hsz := hl.sized (fun h e => (hok h e).2) (by omega)
 refine Bn 1 [(3, .iptr ([AG d.flow] ++ d.«end».flat ++ [Aj d.revs] ++ d.settings.flat)), (4, .iptr [AA rev]), (5, .iptr [AA sc.id, AA sc.a, AA sc.b]), (6, .ptr (n + 3) 0), (7, .ptr (n + 4) 0)] (As (IH (n + 3) (n + 4)) (0, 0) h) (fun m => n + 5 = m) ?_ (fun m hm => ?_)
 · rw [Se e0]
   simp [go_sem, BD.enc, AH.enc, AF.flat, AI.flat, Jo, Y6]
   refine ⟨⟨AW (by simp [hset]; exact ho.none (by omega)) (by simp [hset]), AW (by simp [hset]; exact ho.none (by omega)) (by simp [hset]), AW (by simp [hset]; exact ho.none (by omega)) (by simp [hset])⟩, fun j y => ?_⟩
   have := ho j y; simp only [hset]; grind
 subst hm
 have hend2 : ∀ (x y z : Int) (H : Hp), H (n + 3) = some (.cells [AA x]) → H (n + 4) = some (.cells [AA y]) → (∀ j w, j < n → h j = some w → H j = some w) → ∀ m, CE n H m (.tup [AA x, AA y, AA z]) (Is (.tup [AA x, AA y, AA z]) h n) := fun x y z H _ _ hh m => Ax ho (fun j w e => hh j w (ho j w e).1 e) rfl (by simp [closed, closedL])
 have BV : ∀ s j w, j < n → h j = some w → As (IH (n + 3) (n + 4)) s h j = some w := fun s j w hj e => by simp only [As, IH]; rw [if_neg (by omega), if_neg (by omega)]; exact e
 have g3 : ∀ s, As (IH (n + 3) (n + 4)) s h (n + 3) = some (.cells [AA s.1]) := fun s => by simp [As, IH]
 have g4 : ∀ s, As (IH (n + 3) (n + 4)) s h (n + 4) = some (.cells [AA s.2]) := fun s => by simp [As, IH]
 refine Bn 0 [(3, .iptr ([AG d.flow] ++ d.«end».flat ++ [Aj d.revs] ++ d.settings.flat)), (4, .iptr [AA rev]), (5, .iptr [AA sc.id, AA sc.a, AA sc.b]), (6, .ptr (n + 3) 0), (7, .ptr (n + 4) 0), (9, AG (((Dp d sc.id).map Fl.items).getD [])), (10, .bool (Dp d sc.id).isSome)] (As (IH (n + 3) (n + 4)) (0, 0) h) (fun m => n + 5 ≤ m) ?_ (fun m hm => ?_)
 · simp [go_sem, AF.flat, AI.flat]
   refine Y4 (by simpa [AH.enc, AF.flat, AI.flat] using c34 d sc.id hsz.1 hsz.2) ?_
   simp [go_sem, Jo]
 cases hfd : Dp d sc.id with
 | none =>
  have hc : Eo N d rev sc = (0, 0, 8) := by simp [Eo, hfd]
  rw [hc]
  refine AK ?_
  simp [go_sem, g3, g4, AC, AD]
  refine hend2 0 0 8 _ ?_ ?_ ?_ _
  · simp [hset]
  · simp [hset]
  · intro j w hj e; rw [AD _ _ (by omega), AD _ _ (by omega)]; exact BV _ j w hj e
 | some fl =>
 obtain ⟨hfl1, hfl2⟩ := hfl fl hfd
 dsimp only [Option.map_some, Option.getD_some, Option.isSome_some]
 have hcs : Eo N d rev sc = if GF sc fl.items then (0, 0, 2) else if (BG d.revs rev).2 = false then (0, 0, 22) else ((Bs (Dj (Gv rev)) sc N d d.revs (0, 0)).2.1, (Bs (Dj (Gv rev)) sc N d d.revs (0, 0)).2.2, 0) := by simp [Eo, hfd]
 refine CJ 0 [(3, .iptr ([AG d.flow] ++ d.«end».flat ++ [Aj d.revs] ++ d.settings.flat)), (4, .iptr [AA rev]), (5, .iptr [AA sc.id, AA sc.a, AA sc.b]), (6, .ptr (n + 3) 0), (7, .ptr (n + 4) 0), (9, AG fl.items)] (As (IH (n + 3) (n + 4)) (0, 0) h) m ?_ (fun m2 hm2 => ?_)
 · simp [go_sem, Jo]
 subst hm2
 by_cases hb : GF sc fl.items
 · rw [if_pos hb] at hcs
   rw [hcs]
   refine FW ?_
   refine AZ 0 [(3, .iptr ([AG d.flow] ++ d.«end».flat ++ [Aj d.revs] ++ d.settings.flat)), (4, .iptr [AA rev]), (5, .iptr [AA sc.id, AA sc.a, AA sc.b]), (6, .ptr (n + 3) 0), (7, .ptr (n + 4) 0), (11, AA (BI fl.items).1)] (As (IH (n + 3) (n + 4)) (0, 0) h) m ?_ (fun m2 hm2 => ?_)
   · simp [go_sem]
     refine Y4 (Ts fl.items hfl1 hfl2) ?_
     simp [go_sem, Jo]
   have fin : ∀ y1 y2 m', CE n (hset (hset (As (IH (n + 3) (n + 4)) (0, 0) h) (n + 3) y1) (n + 4) y2) m' (.tup [AA 0, AA 0, AA 2]) (Is (.tup [AA 0, AA 0, AA 2]) h n) := fun y1 y2 m' =>
    Ax ho (fun j w e => by have := (ho j w e).1; rw [AD _ _ (by omega), AD _ _ (by omega)]; exact BV _ j w this e) rfl (by simp [closed, closedL])
   unfold GF at hb
   refine AK ?_
   by_cases a0 : sc.a < 0
   · simp [go_sem, g3, g4, AC, AD, a0]
     exact fin _ _ _
   · by_cases a1 : sc.b < sc.a
     · simp [go_sem, g3, g4, AC, AD, a0, a1]
       exact fin _ _ _
     · have a2 : (BI fl.items).1 < sc.b := by omega
       simp [go_sem, g3, g4, AC, AD, a0, a1, a2]
       exact fin _ _ _
 rw [if_neg hb] at hcs
 refine AZ 0 [(3, .iptr ([AG d.flow] ++ d.«end».flat ++ [Aj d.revs] ++ d.settings.flat)), (4, .iptr [AA rev]), (5, .iptr [AA sc.id, AA sc.a, AA sc.b]), (6, .ptr (n + 3) 0), (7, .ptr (n + 4) 0)] (As (IH (n + 3) (n + 4)) (0, 0) h) m ?_ (fun m2 hm2 => ?_)
 · unfold GF at hb
   have a0 : ¬ sc.a < 0 := by omega
   have a1 : ¬ sc.b < sc.a := by omega
   have a2 : ¬ (BI fl.items).1 < sc.b := by omega
   simp [go_sem]
   refine Y4 (Ts fl.items hfl1 hfl2) ?_
   simp [go_sem, Jo, a0, a1, a2]
 have cr := S5 d.revs hr rev
 generalize BG d.revs rev = rf at cr hcs
 obtain ⟨rf, kf⟩ := rf
 cases kf with
 | false =>
  have hcs2 : Eo N d rev sc = (0, 0, 22) := by simpa using hcs
  rw [hcs2]
  have fin : ∀ y1 y2 y3 m', n + 5 ≤ m' → ∀ q, m' ≤ q → ∀ m'', CE n (hset (hset (hset (As (IH (n + 3) (n + 4)) (0, 0) h) q y3) (n + 3) y1) (n + 4) y2) m'' (.tup [AA 0, AA 0, AA 22]) (Is (.tup [AA 0, AA 0, AA 22]) h n) := fun y1 y2 y3 m' _ q _ m'' =>
   Ax ho (fun j w e => by have := (ho j w e).1; rw [AD _ _ (by omega), AD _ _ (by omega), AD _ _ (by omega)]; exact BV _ j w this e) rfl (by simp [closed, closedL])
  refine AK ?_
  have q1 : n + 3 ≠ m2 := by omega
  have q2 : n + 4 ≠ m2 := by omega
  simp [go_sem, AF.flat, AI.flat]
  refine Y4 cr ?_
  simp [go_sem, g3, g4, AC, AD, Ai, q1, q2, Av.enc]
  exact fin _ _ _ m2 (by omega) _ (JO _) _
 | true =>
  have hcs2 : Eo N d rev sc = ((Bs (Dj (Gv rev)) sc N d d.revs (0, 0)).2.1, (Bs (Dj (Gv rev)) sc N d d.revs (0, 0)).2.2, 0) := by simpa using hcs
  rw [hcs2]
  clear hcs hcs2
  refine AZ 0 [(3, .iptr ([AG d.flow] ++ d.«end».flat ++ [Aj d.revs] ++ d.settings.flat)), (4, .iptr [AA rev]), (5, .iptr [AA sc.id, AA sc.a, AA sc.b]), (6, .ptr (n + 3) 0), (7, .ptr (n + 4) 0)] (As (IH (n + 3) (n + 4)) (0, 0) h) m2 ?_ (fun m3 hm3 => ?_)
  · simp [go_sem, AF.flat, AI.flat]
    refine Y4 cr ?_
    simp [go_sem, Jo, AC, Ai, Av.enc]
    exact AJ (fun j z e => by
     simp only [As, IH] at e
     by_cases x1 : j = n + 3
     · omega
     · by_cases x2 : j = n + 4
       · omega
       · rw [if_neg x1, if_neg x2] at e; have := (ho j z e).1; omega) AB
  have c := d36 (sc := sc) (v37 (n0 := n + 5) e0 (by omega) (by omega) rev) hp K hK hok N d (0, 0) hl hend h1 h2 h3 (H := As (IH (n + 3) (n + 4)) (0, 0) h) (n := m3) (by omega) Bu
  generalize (Bs (Dj (Gv rev)) sc N d d.revs (0, 0)).2 = s2 at c ⊢
  have hu2 : As (IH (n + 3) (n + 4)) s2 (As (IH (n + 3) (n + 4)) (0, 0) h) = As (IH (n + 3) (n + 4)) s2 h := (v37 (n0 := n + 5) e0 (by omega) (by omega) rev).clo.up2 _ _ _
  rw [hu2] at c
  refine AZ 0 [(6, .ptr (n + 3) 0), (7, .ptr (n + 4) 0)] (As (IH (n + 3) (n + 4)) s2 h) m3 ?_ (fun m4 hm4 => ?_)
  · simp [go_sem, AF.flat, AI.flat]
    refine ZQ (bs := [d.enc, sc.enc, .fn (.func 37) [] [.iptr [AA rev], .ptr (n + 3) 0, .ptr (n + 4) 0]]) 1 AB ?_ ?_
    · refine ⟨?_, ?_, ?_, trivial⟩
      · simp [AH.enc, AF.flat, AI.flat, Jo]
      · simp [BD.enc, Jo]
      · exact Jo
    refine Y9 c ?_
    rintro v H' n' ⟨rfl, rfl, rfl⟩
    simp [go_sem, Jo]
  have fin : ∀ y1 y2 m'', CE n (hset (hset (As (IH (n + 3) (n + 4)) s2 h) (n + 3) y1) (n + 4) y2) m'' (.tup [AA s2.1, AA s2.2, AA 0]) (Is (.tup [AA s2.1, AA s2.2, AA 0]) h n) := fun y1 y2 m'' =>
   Ax ho (fun j w e => by have := (ho j w e).1; rw [AD _ _ (by omega), AD _ _ (by omega)]; exact BV _ j w this e) rfl (by simp [closed, closedL])
  refine AV 0 (α := Unit) (fun _ => [(6, .ptr (n + 3) 0), (7, .ptr (n + 4) 0), (8, AA 0)]) (fun _ => As (IH (n + 3) (n + 4)) s2 h) (fun _ m5 => m4 ≤ m5) (Bt trE rfl (by kernel_rfl) (by kernel_rfl) ?_) (fun _ m5 hm5 => ?_)
  · have EW : hset (hset (As (IH (n + 3) (n + 4)) s2 h) (n + 3) (some (.cells [AA s2.1]))) (n + 4) (some (.cells [AA s2.2])) = As (IH (n + 3) (n + 4)) s2 h := by
     funext j; simp only [hset, As, IH]; grind
    simp [go_sem, trE, Jo, g3, g4, AD, EW]
  · refine AK ?_
    simp [go_sem, g3, g4]
    exact Ax ho (fun j w e => BV _ j w (ho j w e).1 e) rfl (by simp [closed, closedL])
section
variable {σ : Type} (f : σ → B6 → AF × Bool × σ) (fl : Int → List AE → BD → Bool → σ → List AE × σ) (sc : BD) (mid : Bool)
def Dr (q : List AL × σ) (c : AL) : List AL × σ :=
 (if (f q.2 ⟨c.head, mid, 1⟩).2.1 then q.1 ++ [.mk c.id (f q.2 ⟨c.head, mid, 1⟩).1 (fl c.id c.flow sc mid (f q.2 ⟨c.head, mid, 1⟩).2.2).1] else q.1, (fl c.id c.flow sc mid (f q.2 ⟨c.head, mid, 1⟩).2.2).2)
def FC (l : List AL) (s : σ) : List AL × σ := l.foldl (Dr f fl sc mid) ([], s)
def IL (x : AR) (s : σ) : AR × Bool × σ :=
 (.mk (f s ⟨x.head, mid, 1⟩).1 (FC f fl sc mid x.cells (f s ⟨x.head, mid, 1⟩).2.2).1, (f s ⟨x.head, mid, 1⟩).2.1 && decide (0 < (FC f fl sc mid x.cells (f s ⟨x.head, mid, 1⟩).2.2).1.length), (FC f fl sc mid x.cells (f s ⟨x.head, mid, 1⟩).2.2).2)
def Ei (q : List AR × σ) (x : AR) : List AR × σ := (if (IL f fl sc mid x q.2).2.1 then q.1 ++ [(IL f fl sc mid x q.2).1] else q.1, (IL f fl sc mid x q.2).2.2)
def Ha (l : List AR) (s : σ) : List AR × σ := l.foldl (Ei f fl sc mid) ([], s)
def Ry (x : AE) (s : σ) : List AE × σ := if x.kind = 6 then fl x.id x.flow sc mid s else (x.flow, s)
def HK (q : List AE × σ) (x : AE) : List AE × σ :=
 let r := f q.2 ⟨x.head, mid, (BI [x]).1⟩
 let w := Ry fl sc mid x r.2.2
 let v := Ha f fl sc mid x.rows w.2
 (if r.2.1 && !(decide (x.kind = 7) && decide (v.1.length = 0)) then q.1 ++ [x.put r.1 w.1 v.1] else q.1, v.2)
def Cb (l : List AE) (s : σ) : List AE × σ := l.foldl (HK f fl sc mid) ([], s)
end
def A9 : BD := ⟨-1, 0, 0⟩
def B8 {σ : Type} (f : σ → B6 → AF × Bool × σ) : Nat → Int → List AE → BD → Bool → σ → List AE × σ
 | 0, _, _, _, _, s => ([], s)
 | N + 1, id, l, sc, mid, s =>
  if id = sc.id ∧ mid = false then
   let p1 := Cb f (B8 f N) A9 false (Ab l 0 sc.a).1 s
   let p2 := Cb f (B8 f N) A9 true (Ab l sc.a sc.b).1 p1.2
   let p3 := Cb f (B8 f N) A9 false (Ab l sc.b (BI l).1).1 p2.2
   (p1.1 ++ p2.1 ++ p3.1, p3.2)
  else Cb f (B8 f N) sc mid l s
section
variable {σ : Type} {f : σ → B6 → AF × Bool × σ} {fl : Int → List AE → BD → Bool → σ → List AE × σ} {sc : BD} {mid : Bool}
theorem PQ (l : List AL) (z : List AL × σ) : (l.foldl (Dr f fl sc mid) z).1.length ≤ z.1.length + l.length := by
 induction l generalizing z with
 | nil => simp
 | cons a l ih =>
  have := ih (Dr f fl sc mid z a)
  have h2 : (Dr f fl sc mid z a).1.length ≤ z.1.length + 1 := by unfold Dr; dsimp only; split <;> simp
  simp only [YO, Yl]; omega
theorem Qa (l : List AR) (z : List AR × σ) : (l.foldl (Ei f fl sc mid) z).1.length ≤ z.1.length + l.length := by
 induction l generalizing z with
 | nil => simp
 | cons a l ih =>
  have := ih (Ei f fl sc mid z a)
  have h2 : (Ei f fl sc mid z a).1.length ≤ z.1.length + 1 := by unfold Ei; dsimp only; split <;> simp
  simp only [YO, Yl]; omega
theorem H6 (l : List AE) (z : List AE × σ) : (l.foldl (HK f fl sc mid) z).1.length ≤ z.1.length + l.length := by
 induction l generalizing z with
 | nil => simp
 | cons a l ih =>
  have := ih (HK f fl sc mid z a)
  have h2 : (HK f fl sc mid z a).1.length ≤ z.1.length + 1 := by unfold HK; dsimp only; split <;> simp
  simp only [YO, Yl]; omega
end
section
variable {σ : Type}
structure Ng (st : σ → Nat → Option BY) (n0 : Nat) (g : FuncId) (a b : List SV) (f : σ → B6 → AF × Bool × σ) (ok : AF → Prop) : Prop where
 lt : ∀ s o, n0 ≤ o → st s o = none
 dom : ∀ s s' o, st s o = none → st s' o = none
 cl : ∀ s o y, st s o = some y → BW n0 y = true
 call : ∀ s p H n, ok p.head → n0 ≤ n → (∀ o y, st s o = some y → H o = some y) → BN Tryz.prog g (a ++ [p.head.enc, AA p.units, .bool p.mid] ++ b) H n (fun v h' n' => v = .tup [(f s p).1.enc, .bool (f s p).2.1] ∧ h' = As st (f s p).2.2 H ∧ n' = n)
variable {st : σ → Nat → Option BY} {n0 : Nat} {g : FuncId} {a b : List SV} {f : σ → B6 → AF × Bool × σ} {ok : AF → Prop}
theorem Ng.cx (C : Ng st n0 g a b f ok) : Lm st n0 g a b f (fun _ => False) := ⟨C.lt, C.dom, C.cl, fun _ _ _ _ h => h.elim⟩
variable {fl : Int → List AE → BD → Bool → σ → List AE × σ} {mid : Bool} {P : List AE → Prop} {sc : BD}
def FlC (st : σ → Nat → Option BY) (n0 : Nat) (g : FuncId) (a b : List SV) (fl : Int → List AE → BD → Bool → σ → List AE × σ) (P : List AE → Prop) : Prop :=
 ∀ id l sc mid s H n, P l → n0 ≤ n → (∀ o y, st s o = some y → H o = some y) → BN Tryz.prog 115 [AG l, AA id, sc.enc, .bool mid, .fn (.func g) a b] H n (fun v h' n' => v = AG (fl id l sc mid s).1 ∧ h' = As st (fl id l sc mid s).2 H ∧ n' = n)
def Kb : List SV := [.imm 0 [] true, AA 0, AA 0, .imm 0 [] true, .imm 0 [] true, .imm 0 [] true]
theorem RM {h h' : Hp} {o : Option Nat} {es : List SV} (hh : ∀ j y, h j = some y → h' j = some y) : ∀ j y, AS o es h j = some y → AS o es h' j = some y := fun j y e => by
 cases o with
 | none => exact hh j y e
 | some k =>
  simp only [AS, hset] at e ⊢
  split at e
  · rename_i c; rw [if_pos c]; exact e
  · rename_i c; rw [if_neg c]; exact hh j y e
set_option maxHeartbeats 2000000 in
theorem d181 (C : Ng st n0 g a b f ok) (hfl : FlC st n0 g a b fl P) (x : AR) (hx : ok x.head ∧ x.cells.length ≤ 1048576 ∧ ∀ c ∈ x.cells, ok c.head ∧ P c.flow) (s : σ) {H : Hp} {n : Nat} (hn : n0 ≤ n) (hs : ∀ o y, st s o = some y → H o = some y) :
 BN Tryz.prog 181 [x.enc, sc.enc, .bool mid, .fn (.func g) a b] H n (fun v h' n' => v = .tup [(IL f fl sc mid x s).1.enc, .bool (IL f fl sc mid x s).2.1] ∧ h' = As st (IL f fl sc mid x s).2.2 H ∧ n' = n) := by
 have D := C.cx
 refine Da Tryz.func181 rfl fun ho => ?_
 obtain ⟨x1, x2, x3⟩ := hx
 have hU : ∀ s', FM (As st s' H) n := fun s' => D.old s' hn ho
 have hUb : ∀ s' j y, As st s' H j = some y → j < n := fun s' j y e => (hU s' j y e).1
 have hRb : ∀ s' j y, hset (As st s' H) (n + 2) (some (.cells Kb)) j = some y → j < n + 3 := fun s' j y e => by
  simp only [hset] at e
  split at e
  · omega
  · have := hUb s' j y e; omega
 have hup : ∀ s1 s' z, As st s' (hset (As st s1 H) (n + 2) z) = hset (As st s' H) (n + 2) z := fun s1 s' z => by rw [← D.hset _ _ (by omega), D.up2]
 have hhas : ∀ s' z, ∀ k w, st s' k = some w → hset (As st s' H) (n + 2) z k = some w := fun s' z => Eg C.lt (by omega) z Bu
 refine Bn 1 [(2, .bool mid), (3, .fn (.func g) a b), (4, .iptr (x.head.flat ++ [BT x.cells])), (5, .iptr [AA sc.id, AA sc.a, AA sc.b]), (8, .ptr (n + 2) 0)] (hset (As st s H) (n + 2) (some (.cells Kb))) (fun m => n + 3 = m) ?_ (fun m hm => ?_)
 · simp [go_sem, BD.enc, Yj, AF.flat, Jo, DH s H hs, Kb, Y6]
   refine ⟨⟨AW (by rw [AD _ _ (by omega)]; exact ho.none (by omega)) (by simp [hset]), AW (by rw [AD _ _ (by omega)]; exact ho.none (by omega)) (by simp [hset])⟩, fun j y => ?_⟩
   have := ho j y; simp only [hset]; grind
 subst hm
 have hcall := fun z => C.call s ⟨x.head, mid, 1⟩ (hset (As st s H) (n + 2) z) (n + 3) x1 (by omega) (hhas s z)
 simp only [IL]
 generalize f s ⟨x.head, mid, 1⟩ = r at hcall ⊢
 obtain ⟨h', k, s1⟩ := r
 dsimp only at hcall ⊢
 simp only [hup, Y7, Yc, KF] at hcall
 refine Bn 1 [(2, .bool mid), (3, .fn (.func g) a b), (4, .iptr (x.head.flat ++ [BT x.cells])), (5, .iptr [AA sc.id, AA sc.a, AA sc.b]), (8, .ptr (n + 2) 0), (10, .iptr h'.flat), (11, .bool k)] (hset (As st s1 H) (n + 2) (some (.cells Kb))) (fun m => n + 3 ≤ m) ?_ (fun m hm => ?_)
 · simp [go_sem, AF.flat]
   refine Y9 (by simpa [AF.enc, AF.flat] using hcall _) ?_
   rintro v H' n' ⟨rfl, rfl, rfl⟩
   simp [go_sem, Jo, AC]
   exact ⟨AW (Ad (hRb _) (JO _)) (AC _ _ _), AJ (hRb _) (AJ (hRb _) AB)⟩
 obtain ⟨Q, hQ⟩ : ∃ Q : Nat → List AL × σ, ∀ i, Q i = (x.cells.take i).foldl (Dr f fl sc mid) ([], s1) := ⟨_, fun _ => rfl⟩
 have hQ0 : Q 0 = ([], s1) := by rw [hQ]; rfl
 have hQs : ∀ i y, (h : i < x.cells.length) → x.cells[i] = y → Q (i + 1) = Dr f fl sc mid (Q i) y := fun i y h hy => by rw [hQ, hQ, FB _ _ _ _ _ h hy]
 have hQl : Q x.cells.length = FC f fl sc mid x.cells s1 := by rw [hQ, KE]; rfl
 have hQn : ∀ i, (Q i).1.length ≤ i := fun i => by rw [hQ]; have := PQ (f := f) (fl := fl) (sc := sc) (mid := mid) (x.cells.take i) ([], s1); simp at this; omega
 clear hQ
 refine BO 0 (α := Nat) (fun p => [(2, .bool mid), (3, .fn (.func g) a b), (4, .iptr (x.head.flat ++ [BT x.cells])), (5, .iptr [AA sc.id, AA sc.a, AA sc.b]), (8, .ptr (n + 2) 0), (11, .bool k), (12, .ptr p 0)]) (fun p => hset (hset (As st s1 H) (n + 2) (some (.cells Kb))) p (some (.cells (h'.flat ++ [AQ 7 none []])))) (fun p m2 => n + 3 ≤ p ∧ p + 1 = m2) ?_ (fun p m2 hm2 => ?_)
 · simp [go_sem, Jo, AF.flat, AC, Ai, AQ]
   exact ⟨m, ⟨hm, rfl⟩, rfl, AB⟩
 obtain ⟨hp1, rfl⟩ := hm2
 obtain ⟨B, hB⟩ : ∃ B : σ → SV → Hp, ∀ s' v, B s' v = hset (hset (As st s' H) (n + 2) (some (.cells Kb))) p (some (.cells (h'.flat ++ [v]))) := ⟨_, fun _ _ => rfl⟩
 have hBp : ∀ s' v, B s' v p = some (.cells (h'.flat ++ [v])) := fun s' v => by rw [hB, AC]
 have hBb : ∀ s' v j y, B s' v j = some y → j < p + 1 := fun s' v j y e => by
  rw [hB] at e
  by_cases h : j = p
  · omega
  · rw [AD _ _ h] at e; have := hRb s' j y e; omega
 have hBu : ∀ s1 s' v, As st s' (B s1 v) = B s' v := fun s1 s' v => by rw [hB, hB, ← D.hset _ _ (by omega), hup]
 have hBh : ∀ s' v, ∀ k w, st s' k = some w → B s' v k = some w := fun s' v => by rw [hB]; exact Eg C.lt (by omega) _ (hhas s' _)
 refine CD 2 [(8, .ptr (n + 2) 0), (11, .bool k), (12, .iptr (h'.flat ++ [BT (FC f fl sc mid x.cells s1).1]))] (hset (As st (FC f fl sc mid x.cells s1).2 H) (n + 2) (some (.cells Kb))) (fun m => p + 1 ≤ m) ?_ (fun m3 hm3 => ?_)
 · refine Bn 0 [(2, .bool mid), (3, .fn (.func g) a b), (4, .iptr (x.head.flat ++ [BT x.cells])), (5, .iptr [AA sc.id, AA sc.a, AA sc.b]), (8, .ptr (n + 2) 0), (11, .bool k), (12, .ptr p 0), (13, AA 0)] (B s1 (AQ 7 none [])) (fun m => p + 1 = m) ?_ (fun m4 hm4 => ?_)
   · simp [go_sem, Jo, hB]
   subst hm4
   refine AX (BX 0 (α := Nat × Option Nat) (fun q => [(2, .bool mid), (3, .fn (.func g) a b), (4, .iptr (x.head.flat ++ [BT x.cells])), (5, .iptr [AA sc.id, AA sc.a, AA sc.b]), (8, .ptr (n + 2) 0), (11, .bool k), (12, .ptr p 0), (13, AA q.1)])
    (fun q => AS q.2 ((Q q.1).1.map AL.enc) (B (Q q.1).2 (AQ 7 q.2 ((Q q.1).1.map AL.enc)))) (fun q m => q.1 ≤ x.cells.length ∧ p + 1 ≤ m ∧ BQ (p + 1) m 7 q.2 ((Q q.1).1.map AL.enc)) (fun q => x.cells.length - q.1) (0, none) ⟨K2 _, JO _, by simp only [hQ0]; exact Zp _ _ _⟩ ?_ ?_ ?_)
   · simp [go_sem, Am, Jo]
   · simp only [hQ0]; exact AB
   rintro ⟨j, o2⟩ m4 ⟨hj, hm4, hA2⟩
   dsimp only at hj hA2 ⊢
   have hCn : ((Q j).1.map AL.enc).length ≤ j := by rw [Kj]; exact hQn j
   by_cases hjt : j < x.cells.length
   · obtain ⟨y, hy⟩ : ∃ y, x.cells[j] = y := ⟨_, rfl⟩
     have hym : y ∈ x.cells := by rw [← hy]; exact Kn hjt
     obtain ⟨y1, y2⟩ := x3 y hym
     have hqt := hQs j y hjt hy
     have w2 := wS j (by omega)
     generalize hSj : (Q j).2 = sj at hqt
     generalize hGj : (Q j).1.map AL.enc = G at hA2 hCn ⊢
     generalize hV : AQ 7 o2 G = V
     have hYb : ∀ s' j y, AS o2 G (B s' V) j = some y → j < m4 := fun s' => HP (hBb s' V) hm4 hA2
     refine CJ 0 [(2, .bool mid), (3, .fn (.func g) a b), (4, .iptr (x.head.flat ++ [BT x.cells])), (5, .iptr [AA sc.id, AA sc.a, AA sc.b]), (8, .ptr (n + 2) 0), (11, .bool k), (12, .ptr p 0), (13, AA j)] (AS o2 G (B sj V)) m4 ?_ (fun m' hm' => ?_)
     · simp [go_sem, Jo, hjt, AF.flat]
     subst hm'
     refine AV 0 (α := Option Nat) (fun o2 => [(2, .bool mid), (3, .fn (.func g) a b), (4, .iptr (x.head.flat ++ [BT x.cells])), (5, .iptr [AA sc.id, AA sc.a, AA sc.b]), (8, .ptr (n + 2) 0), (11, .bool k), (12, .ptr p 0), (13, AA j)]) (fun o2 => AS o2 ((Q (j + 1)).1.map AL.enc) (B (Q (j + 1)).2 (AQ 7 o2 ((Q (j + 1)).1.map AL.enc)))) (fun o2 m => p + 1 ≤ m ∧ BQ (p + 1) m 7 o2 ((Q (j + 1)).1.map AL.enc)) ?_ (fun o2 m hm => ?_)
     · refine AX ?_
       refine Bn 0 [(2, .bool mid), (3, .fn (.func g) a b), (4, .iptr (x.head.flat ++ [BT x.cells])), (5, .iptr [AA sc.id, AA sc.a, AA sc.b]), (8, .ptr (n + 2) 0), (11, .bool k), (12, .ptr p 0), (13, AA j), (14, .ptr m4 0)] (hset (AS o2 G (B sj V)) m4 (some (.cells ([AA y.id] ++ y.head.flat ++ [AG y.flow])))) (fun m5 => m4 + 1 = m5) ?_ (fun m5 hm5 => ?_)
       · simp [go_sem, Jo, hjt, hy, YP, AF.flat, AC, Ai]
       subst hm5
       have hZb : ∀ s' z j y, hset (AS o2 G (B s' V)) m4 z j = some y → j < m4 + 1 := fun s' z j y e => by
        by_cases h : j = m4
        · omega
        · rw [AD _ _ h] at e; have := hYb s' j y e; omega
       have hZu : ∀ s1 s' z, As st s' (hset (AS o2 G (B s1 V)) m4 z) = hset (AS o2 G (B s' V)) m4 z := fun s1 s' z => by rw [← D.hset _ _ (by omega), D.acc (by omega) hA2, hBu]
       have hZh : ∀ s' z, ∀ k w, st s' k = some w → hset (AS o2 G (B s' V)) m4 z k = some w := fun s' z => Eg C.lt (by omega) _ (D.has (by omega) hA2 (hBh s' V))
       have hcall2 := fun z m (hm : n0 ≤ m) => C.call sj ⟨y.head, mid, 1⟩ (hset (AS o2 G (B sj V)) m4 z) m y1 hm (hZh sj z)
       simp only [Dr, hSj] at hqt
       generalize f sj ⟨y.head, mid, 1⟩ = r2 at hcall2 hqt
       obtain ⟨h2, k2, s2⟩ := r2
       dsimp only at hcall2 hqt
       simp only [hZu, Y7, Yc, KF] at hcall2
       refine Bn 1 [(2, .bool mid), (3, .fn (.func g) a b), (4, .iptr (x.head.flat ++ [BT x.cells])), (5, .iptr [AA sc.id, AA sc.a, AA sc.b]), (8, .ptr (n + 2) 0), (11, .bool k), (12, .ptr p 0), (13, AA j), (14, .ptr m4 0), (15, .iptr h2.flat), (16, .bool k2)] (hset (AS o2 G (B s2 V)) m4 (some (.cells ([AA y.id] ++ y.head.flat ++ [AG y.flow])))) (fun m6 => m4 + 1 ≤ m6) ?_ (fun m6 hm6 => ?_)
       · simp [go_sem, AF.flat, AC]
         refine Y9 (by simpa [AF.enc, AF.flat] using hcall2 _ _ (by omega)) ?_
         rintro v H' n' ⟨rfl, rfl, rfl⟩
         simp [go_sem, Jo, AC]
         exact ⟨AW (Ad (hZb _ _) (JO _)) (AC _ _ _), AJ (hZb _ _) (AJ (hZb _ _) AB)⟩
       refine CJ 0 [(2, .bool mid), (3, .fn (.func g) a b), (4, .iptr (x.head.flat ++ [BT x.cells])), (5, .iptr [AA sc.id, AA sc.a, AA sc.b]), (8, .ptr (n + 2) 0), (11, .bool k), (12, .ptr p 0), (13, AA j), (14, .ptr m4 0), (16, .bool k2)] (hset (AS o2 G (B s2 V)) m4 (some (.cells ([AA y.id] ++ h2.flat ++ [AG y.flow])))) m6 ?_ (fun m7 hm7 => ?_)
       · simp [go_sem, Jo, AF.flat, AC, Ai]
       subst hm7
       have hc3 := fun z m (hm : n0 ≤ m) => hfl y.id y.flow sc mid s2 (hset (AS o2 G (B s2 V)) m4 z) m y2 hm (hZh s2 z)
       generalize fl y.id y.flow sc mid s2 = r3 at hc3 hqt
       obtain ⟨q3, s3⟩ := r3
       dsimp only at hc3 hqt
       simp only [hZu, BD.enc] at hc3
       refine AZ 1 [(2, .bool mid), (3, .fn (.func g) a b), (4, .iptr (x.head.flat ++ [BT x.cells])), (5, .iptr [AA sc.id, AA sc.a, AA sc.b]), (8, .ptr (n + 2) 0), (11, .bool k), (12, .ptr p 0), (13, AA j), (14, .iptr ([AA y.id] ++ h2.flat ++ [AG q3])), (16, .bool k2)] (AS o2 G (B s3 V)) m6 ?_ (fun m7 hm7 => ?_)
       · simp [go_sem, AF.flat, AC]
         refine Y9 (hc3 _ _ (by omega)) ?_
         rintro v H' n' ⟨rfl, rfl, rfl⟩
         simp [go_sem, Jo, AC, Ai]
         exact ⟨AW (Ad (hYb _) (JO _)) (AC _ _ _), AJ (hYb _) AB⟩
       rw [hqt]
       cases k2 with
       | false =>
        simp only [KC, if_false, hGj]
        refine AK ?_
        simp [go_sem, Jo]
        exact ⟨o2, ⟨by omega, hA2.mono (by omega)⟩, by rw [hV]; exact AB⟩
       | true =>
        simp only [if_true, K1, hGj, Y3, YR]
        clear hqt hc3 hcall2
        subst hV
        have hpA : (AS o2 G (B s3 (AQ 7 o2 G))) p = some (.cells [Ag h'.props, AA h'.ins, AA h'.move, Aa h'.dels, AO h'.layers, AQ 7 o2 G]) := by
         cases o2 with
         | none => exact hBp _ _
         | some q => have := (hA2.lt q rfl).1; simp only [AS]; rw [AD _ _ (by omega)]; exact hBp _ _
        have pm : p ≠ m7 := by omega
        have pm1 : p ≠ m7 + 1 := by omega
        have hpush := hA2.push (j := m7 + 1) (m' := m7 + 1 + 1) (e := (AL.mk y.id h2 q3).enc) (AL.E.st _) (AL.E.len _) (by omega) (by omega)
        have hap := fun (X : Hp) (a1 : X m7 = some (.cells (AL.mk y.id h2 q3).enc.cells)) (a2 : ∀ j, o2 = some j → X j = some (.cells (G.flatMap SV.cells))) => Fd (P := Tryz.prog) (H := X) (k := m7) (es := G) (e := (AL.mk y.id h2 q3).enc) (o := o2) (t := 167) (t2 := 167) (el := 171) (z := 7) (by simp [go_sem]) (by simp [go_sem]) (by simp [go_sem]) (by simp) (by simp [go_sem]) (by simp [go_sem]) (by simp [go_sem]) (by omega) hA2 (AL.E.len _) a1 a2 (m7 + 1)
        have hvv : AQ 7 (some (m7 + 1)) (G ++ [(AL.mk y.id h2 q3).enc]) = .sl (m7 + 1) 0 7 (G.length + 1) false := by simp [AQ]
        have hX0 : ∀ j w, hset (As st s3 H) (n + 2) (some (.cells Kb)) j = some w → AS o2 G (B s3 (AQ 7 o2 G)) j = some w := fun j w e => by
         have := hRb s3 j w e
         refine DO (hBb s3 _) hA2 j w ?_
         rw [hB, AD _ _ (by omega)]; exact e
        have hlive := ES (n := p + 1) (p := m7 + 1) (v := .sl (m7 + 1) 0 7 (G.length + 1) false) (e := (AL.mk y.id h2 q3).enc) (fun j w e => by have := hRb s3 j w e; omega) (by omega) hA2 (H := hset (AS o2 G (B s3 (AQ 7 o2 G))) m7 (some (.cells [AA y.id, Ag h2.props, AA h2.ins, AA h2.move, Aa h2.dels, AO h2.layers, AG q3]))) (AJ (fun j z e => by have := hRb s3 j z e; omega) hX0)
        have hfin : ∀ X : Hp, (∀ j w, AS (some (m7 + 1)) (G ++ [(AL.mk y.id h2 q3).enc]) (hset (As st s3 H) (n + 2) (some (.cells Kb))) j = some w → X j = some w) → ∀ j w, AS (some (m7 + 1)) (G ++ [(AL.mk y.id h2 q3).enc]) (B s3 (.sl (m7 + 1) 0 7 (G.length + 1) false)) j = some w → hset X p (some (.cells [Ag h'.props, AA h'.ins, AA h'.move, Aa h'.dels, AO h'.layers, .sl (m7 + 1) 0 7 (G.length + 1) false])) j = some w := fun X hX j w e => by
         by_cases h : j = p
         · subst h
           simp only [AS] at e
           rw [AD _ _ pm1, hBp] at e
           rw [AC]; exact e
         · rw [AD _ _ h]
           refine hX j w ?_
           simp only [AS] at e ⊢
           by_cases h2 : j = m7 + 1
           · subst h2; rw [AC] at e ⊢; exact e
           · rw [AD _ _ h2] at e ⊢; rw [hB, AD _ _ h] at e; exact e
        refine AK ?_
        rcases o2 with _ | q
        · simp [go_sem, AF.flat, hpA]
          rw [hap _ (by simp [AC, YP, SV.cells, AL.id, AL.head, AL.flow]) (by simp)]
          simp [go_sem, AD, pm, pm1, hpA]
          refine ⟨some (m7 + 1), ⟨by omega, hpush⟩, ?_⟩
          rw [hvv]
          refine hfin _ ?_
          simpa [Cu.app, SV.cells] using hlive
        · have hq := hA2.lt q rfl
          have pq : p ≠ q := by omega
          have qm : q ≠ m7 := by omega
          simp [go_sem, AF.flat, hpA]
          rw [hap _ (by simp [AC, YP, SV.cells, AL.id, AL.head, AL.flow]) (by rintro j e; cases e; rw [AD _ _ qm]; exact E3 q rfl)]
          simp [go_sem, AD, pm, pm1, pq, hpA]
          refine ⟨some (m7 + 1), ⟨by omega, hpush⟩, ?_⟩
          rw [hvv]
          refine hfin _ ?_
          simpa [Cu.app, SV.cells] using hlive
     · refine AK ?_
       simp [go_sem, w2, Jo, -Int.natCast_add]
       exact ⟨j + 1, by omega, o2, ⟨by omega, hm.1, hm.2⟩, rfl, AB⟩
   · have : j = x.cells.length := by omega
     subst this
     rw [hQl] at hA2 ⊢
     refine AK ?_
     simp [go_sem, Jo, AF.flat]
     generalize FC f fl sc mid x.cells s1 = r2 at hA2 ⊢
     obtain ⟨q2, s2⟩ := r2
     dsimp only at hA2 ⊢
     have hB0 : ∀ v, ∀ j w, hset (As st s2 H) (n + 2) (some (.cells Kb)) j = some w → B s2 v j = some w := fun v j w e => by
      have := hRb s2 j w e
      rw [hB, AD _ _ (by omega)]; exact e
     have hpA : ∀ v, (AS o2 (q2.map AL.enc) (B s2 v)) p = some (.cells (h'.flat ++ [v])) := fun v => by
      cases o2 with
      | none => exact hBp _ _
      | some q => have := (hA2.lt q rfl).1; simp only [AS]; rw [AD _ _ (by omega)]; exact hBp _ _
     refine ⟨by omega, .inr ⟨Ad (hRb _) (by omega), _, hpA _, by simp, ?_⟩, fun j w e => DO (hBb s2 _) hA2 j w (hB0 _ j w e)⟩
     exact ⟨Jo, Jo, Jo, Jo, Jo, AQ.fz' (fun j hj => Ad (hRb _) (by omega)) hA2 (RM (hB0 _)), trivial⟩
 · generalize FC f fl sc mid x.cells s1 = r2
   obtain ⟨q2, s2⟩ := r2
   dsimp only
   have hret : ∀ (z : BY) (m : Nat) (w : Bool), CE n (hset (As st s2 H) (n + 2) (some z)) m (.tup [(AR.mk h' q2).enc, .bool w]) (fun v h2 n' => v = .tup [(AR.mk h' q2).enc, .bool w] ∧ h2 = As st s2 H ∧ n' = n) := fun z m w =>
    CY (hU s2) (by rw [closed, closedL, closedL, closedL]; simp only [Bool.and_true, KB]; exact ⟨AR.cl n _, by simp [closed]⟩) (AJ (fun j z e => by have := hUb s2 j z e; omega) AB)
   simp only [Yj, AR.head, AR.cells] at hret
   refine AK ?_
   cases k with
   | false =>
    simp [go_sem, AF.flat, AC, Kb]
    repeat first | refine nq ?_ | refine sq ?_ | refine aq ?_
    have := hret (.cells [Ag h'.props, AA h'.ins, AA h'.move, Aa h'.dels, AO h'.layers, BT q2]) m3 false
    simpa [Yj, AR.head, AR.cells, Ai] using this
   | true =>
    simp [go_sem, AF.flat, AC, Kb]
    repeat first | refine nq ?_ | refine sq ?_ | refine aq ?_
    have := hret (.cells [Ag h'.props, AA h'.ins, AA h'.move, Aa h'.dels, AO h'.layers, BT q2]) m3 (decide (0 < q2.length))
    simpa [Yj, AR.head, AR.cells, Ai] using this
end
def trF : Tr := .pure 2 <| .pure 5 <| .pure 6 <| .pure 7 <| .pure 0 <| .two 1 12
 (.pure 3 <| .two 4 12
   (.two 8 12 (.pure 9 <| .pure 10 <| .pure 11 <| .one 12 <| .one 13 <| .one 14 .nil)
     (.one 8 <| .pure 9 <| .pure 10 <| .pure 11 <| .one 13 <| .one 14 .nil))
   (.one 4 <| .one 8 <| .pure 9 <| .pure 10 <| .pure 11 <| .one 13 <| .one 14 .nil))
 (.one 1 <| .pure 3 <| .one 4 <| .one 8 <| .pure 9 <| .pure 10 <| .pure 11 <| .one 13 <| .one 14 .nil)
section
variable {σ : Type} {st : σ → Nat → Option BY} {n0 : Nat} {g : FuncId} {a b : List SV} {f : σ → B6 → AF × Bool × σ} {ok : AF → Prop} {fl : Int → List AE → BD → Bool → σ → List AE × σ} {mid : Bool} {P : List AE → Prop} {sc : BD}
set_option maxHeartbeats 4000000 in
theorem Tt (C : Ng st n0 g a b f ok) (hfl : FlC st n0 g a b fl P) (l : List AE) (hl : l.length ≤ 1048576) (hr : ∀ x ∈ l, okI ok P x) (id : Int) (hns : ¬ (id = sc.id ∧ mid = false)) (s : σ) {H : Hp} {n : Nat} (hn : n0 ≤ n) (hs : ∀ o y, st s o = some y → H o = some y)
 {Q : SV → Hp → Nat → Prop} (hQ : FM H n → ∀ o m, n ≤ m → BQ n m 11 o ((Cb f fl sc mid l s).1.map AE.enc) → CE n (AS o ((Cb f fl sc mid l s).1.map AE.enc) (As st (Cb f fl sc mid l s).2 H)) m (AQ 11 o ((Cb f fl sc mid l s).1.map AE.enc)) Q) :
 BN Tryz.prog 115 [AG l, AA id, sc.enc, .bool mid, .fn (.func g) a b] H n Q := by
 have D := C.cx
 refine Da Tryz.func115 rfl fun ho => ?_
 obtain ⟨R, hR⟩ : ∃ R : Nat → List AE × σ, ∀ i, R i = (l.take i).foldl (HK f fl sc mid) ([], s) := ⟨_, fun _ => rfl⟩
 have hR0 : R 0 = ([], s) := by rw [hR]; rfl
 have hRs : ∀ i x, (h : i < l.length) → l[i] = x → R (i + 1) = HK f fl sc mid (R i) x := fun i x h hx => by rw [hR, hR, FB _ _ _ _ _ h hx]
 have hRl : R l.length = Cb f fl sc mid l s := by rw [hR, KE]; rfl
 have hRn : ∀ i, (R i).1.length ≤ i := fun i => by rw [hR]; have := H6 (f := f) (fl := fl) (sc := sc) (mid := mid) (l.take i) ([], s); simp at this; omega
 clear hR
 have hU : ∀ s', FM (As st s' H) n := fun s' => D.old s' hn ho
 have hUb : ∀ s' j y, As st s' H j = some y → j < n := fun s' j y e => (hU s' j y e).1
 refine AZ 1 [(0, AG l), (3, .bool mid), (4, .fn (.func g) a b), (7, .iptr [AA sc.id, AA sc.a, AA sc.b]), (1, AA id)] (As st s H) n ?_ (fun m hm => ?_)
 · simp [go_sem, BD.enc, Jo, DH s H hs]
   refine ⟨AW (ho.none (JO n)) (by simp [hset]), fun j y e => by rw [AD _ _ (by have := (ho j y e).1; omega)]; exact e⟩
 refine AZ 0 [(0, AG l), (3, .bool mid), (4, .fn (.func g) a b), (7, .iptr [AA sc.id, AA sc.a, AA sc.b])] (As st s H) n ?_ (fun m hm => ?_)
 · by_cases h1 : id = sc.id
   · have h2 : mid = true := by cases mid <;> simp_all
     simp [go_sem, Jo, h1, h2, hm]
   · simp [go_sem, Jo, h1, hm]
 refine AZ 0 [(0, AG l), (3, .bool mid), (4, .fn (.func g) a b), (7, .iptr [AA sc.id, AA sc.a, AA sc.b]), (21, .imm 0 [] true)] (As st s H) n ?_ (fun m hm => ?_)
 · simp [go_sem, Jo, hm]
 refine AV 0 (α := Option Nat) (fun o => [(21, AQ 11 o ((R l.length).1.map AE.enc))]) (fun o => AS o ((R l.length).1.map AE.enc) (As st (R l.length).2 H)) (fun o m => n ≤ m ∧ BQ n m 11 o ((R l.length).1.map AE.enc)) ?_ (fun o m hm => ?_)
 · refine AZ 0 [(0, AG l), (3, .bool mid), (4, .fn (.func g) a b), (7, .iptr [AA sc.id, AA sc.a, AA sc.b]), (21, .imm 0 [] true), (22, AA 0)] (As st s H) n ?_ (fun m hm => ?_)
   · simp [go_sem, Jo, hm]
   refine AX (BX 0 (α := Nat × Option Nat) (fun q => [(0, AG l), (3, .bool mid), (4, .fn (.func g) a b), (7, .iptr [AA sc.id, AA sc.a, AA sc.b]), (21, AQ 11 q.2 ((R q.1).1.map AE.enc)), (22, AA q.1)])
    (fun q => AS q.2 ((R q.1).1.map AE.enc) (As st (R q.1).2 H)) (fun q m => q.1 ≤ l.length ∧ n ≤ m ∧ BQ n m 11 q.2 ((R q.1).1.map AE.enc)) (fun q => l.length - q.1) (0, none) ⟨K2 _, hm, by simp only [hR0]; exact Zp _ _ _⟩ ?_ ?_ ?_)
   · simp [go_sem, Am, AQ, Jo]
   · simp only [hR0]; exact AB
   clear hm m
   rintro ⟨i, o⟩ m ⟨hi, hnm, hA⟩
   dsimp only at hi hA ⊢
   have hEn : ((R i).1.map AE.enc).length ≤ i := by rw [Kj]; exact hRn i
   by_cases hlt : i < l.length
   · obtain ⟨x, hx⟩ : ∃ x, l[i] = x := ⟨_, rfl⟩
     have hxm : x ∈ l := by rw [← hx]; exact Kn hlt
     obtain ⟨x1, x2, x3, x4, x5⟩ := hr x hxm
     have hgx : (l.map AE.enc)[i]? = some x.enc := by simp [hlt, hx]
     have hst := hRs i x hlt hx
     have w1 := wS i (by omega)
     generalize hSi : (R i).2 = si at hst
     generalize hEi : (R i).1.map AE.enc = E at hA hEn ⊢
     have hXb : ∀ s' j y, AS o E (As st s' H) j = some y → j < m := fun s' => HP (hUb s') hnm hA
     refine CJ 0 [(0, AG l), (3, .bool mid), (4, .fn (.func g) a b), (7, .iptr [AA sc.id, AA sc.a, AA sc.b]), (21, AQ 11 o E), (22, AA i)] (AS o E (As st si H)) m ?_ (fun m' hm' => ?_)
     · simp [go_sem, Jo, hlt]
     subst hm'
     refine AV 0 (α := Option Nat) (fun o => [(0, AG l), (3, .bool mid), (4, .fn (.func g) a b), (7, .iptr [AA sc.id, AA sc.a, AA sc.b]), (21, AQ 11 o ((R (i + 1)).1.map AE.enc)), (22, AA i)]) (fun o => AS o ((R (i + 1)).1.map AE.enc) (As st (R (i + 1)).2 H)) (fun o m => n ≤ m ∧ BQ n m 11 o ((R (i + 1)).1.map AE.enc)) ?_ (fun o m hm => ?_)
     · refine AX ?_
       refine BO 0 (α := Nat) (fun p => [(0, AG l), (3, .bool mid), (4, .fn (.func g) a b), (7, .iptr [AA sc.id, AA sc.a, AA sc.b]), (21, AQ 11 o E), (22, AA i), (23, .ptr p 0)]) (fun p => hset (AS o E (As st si H)) p (some (.cells [AA x.kind, AA x.code, AA x.id, .str x.text, Ag x.head.props, AA x.head.ins, AA x.head.move, Aa x.head.dels, AO x.head.layers, AG x.flow, Ay x.rows]))) (fun p m2 => m ≤ p ∧ p < m2) ?_ (fun p m2 hm2 => ?_)
       · simp [go_sem, Jo, hlt, hx, KW, AC, Ai]
         exact ⟨m, by omega, rfl, AB⟩
       have hXb2 : ∀ s' j y, AS o E (As st s' H) j = some y → j < p := fun s' j y e => by have := hXb s' j y e; omega
       refine AZ 0 [(0, AG l), (3, .bool mid), (4, .fn (.func g) a b), (7, .iptr [AA sc.id, AA sc.a, AA sc.b]), (21, AQ 11 o E), (22, AA i), (23, .ptr p 0), (24, AA (BI [x]).1)] (hset (AS o E (As st si H)) p (some (.cells [AA x.kind, AA x.code, AA x.id, .str x.text, Ag x.head.props, AA x.head.ins, AA x.head.move, Aa x.head.dels, AO x.head.layers, AG x.flow, Ay x.rows]))) m2 ?_ (fun m3 hm3 => ?_)
       · have hle : i + 1 ≤ l.length := hlt
         have hsl : List.drop i (List.take (i + 1) (l.map AE.enc)) = [x.enc] := by rw [List.drop_take, Nat.add_sub_cancel_left, Yi (by simpa using hlt)]; simp [hx]
         simp [go_sem, w1, hle, hsl, -Int.natCast_add, -List.map_take, -List.map_drop]
         refine Y4 (Ts [x] (by simp) (by simpa using x2)) ?_
         simp [go_sem, Jo]
       have hcall := fun y => C.call si ⟨x.head, mid, (BI [x]).1⟩ (hset (AS o E (As st si H)) p y) m3 x1 (by omega) (fun k z e => by rw [AD _ _ (by rintro rfl; rw [C.lt si k (by omega)] at e; cases e)]; exact D.has hn hA Bu k z e)
       have hup : ∀ s1 s' y, As st s' (hset (AS o E (As st s1 H)) p y) = hset (AS o E (As st s' H)) p y := fun s1 s' y => by rw [← D.hset _ _ (by omega), D.acc hn hA, D.up2]
       have hasP : ∀ s' y k z, st s' k = some z → hset (AS o E (As st s' H)) p y k = some z := fun s' y k z e => by rw [AD _ _ (by rintro rfl; rw [C.lt s' k (by omega)] at e; cases e)]; exact D.has hn hA Bu k z e
       simp only [HK, hSi] at hst
       generalize f si ⟨x.head, mid, (BI [x]).1⟩ = r1 at hcall hst
       obtain ⟨h', k, s1⟩ := r1
       dsimp only at hcall hst
       simp only [hup, Y7, Yc, KF] at hcall
       have hYb : ∀ s' y j z, hset (AS o E (As st s' H)) p y j = some z → j < m3 := fun s' y j z e => by
        by_cases h : j = p
        · omega
        · rw [AD _ _ h] at e; have := hXb2 s' j z e; omega
       refine AZ 1 [(0, AG l), (3, .bool mid), (4, .fn (.func g) a b), (7, .iptr [AA sc.id, AA sc.a, AA sc.b]), (21, AQ 11 o E), (22, AA i), (23, .ptr p 0), (26, .iptr h'.flat), (27, .bool k)] (hset (AS o E (As st s1 H)) p (some (.cells [AA x.kind, AA x.code, AA x.id, .str x.text, Ag x.head.props, AA x.head.ins, AA x.head.move, Aa x.head.dels, AO x.head.layers, AG x.flow, Ay x.rows]))) m3 ?_ (fun m4 hm4 => ?_)
       · simp [go_sem, AF.flat, AC]
         refine Y9 (by simpa [AF.enc, AF.flat] using hcall _) ?_
         rintro v H' n' ⟨rfl, rfl, rfl⟩
         simp [go_sem, Jo, AC]
         exact ⟨AW (Ad (hYb _ _) (JO _)) (AC _ _ _), AJ (hYb _ _) (AJ (hYb _ _) AB)⟩
       refine CJ 0 [(0, AG l), (3, .bool mid), (4, .fn (.func g) a b), (7, .iptr [AA sc.id, AA sc.a, AA sc.b]), (21, AQ 11 o E), (22, AA i), (23, .ptr p 0), (27, .bool k)] (hset (AS o E (As st s1 H)) p (some (.cells [AA x.kind, AA x.code, AA x.id, .str x.text, Ag h'.props, AA h'.ins, AA h'.move, Aa h'.dels, AO h'.layers, AG x.flow, Ay x.rows]))) m4 ?_ (fun m5 hm5 => ?_)
       · simp [go_sem, Jo, AF.flat, AC, Ai]
       subst hm5
       refine AZ 0 [(0, AG l), (3, .bool mid), (4, .fn (.func g) a b), (7, .iptr [AA sc.id, AA sc.a, AA sc.b]), (21, AQ 11 o E), (22, AA i), (23, .ptr p 0), (27, .bool k)] (hset (AS o E (As st (Ry fl sc mid x s1).2 H)) p (some (.cells [AA x.kind, AA x.code, AA x.id, .str x.text, Ag h'.props, AA h'.ins, AA h'.move, Aa h'.dels, AO h'.layers, AG (Ry fl sc mid x s1).1, Ay x.rows]))) m4 ?_ (fun m5 hm5 => ?_)
       · by_cases k6 : x.kind = 6
         · have hin : Ry fl sc mid x s1 = fl x.id x.flow sc mid s1 := by rw [Ry, if_pos k6]
           have hc3 := fun z m (hm : n0 ≤ m) => hfl x.id x.flow sc mid s1 (hset (AS o E (As st s1 H)) p z) m x3 hm (hasP s1 z)
           rw [hin]
           clear hst
           generalize fl x.id x.flow sc mid s1 = r3 at hc3 ⊢
           obtain ⟨q3, s3⟩ := r3
           dsimp only at hc3 ⊢
           simp only [hup, BD.enc] at hc3
           simp [go_sem, AC, k6]
           refine Y9 (hc3 _ _ (by omega)) ?_
           rintro v H' n' ⟨rfl, rfl, rfl⟩
           simp [go_sem, Jo, AC, Ai]
         · have hin : Ry fl sc mid x s1 = (x.flow, s1) := by rw [Ry, if_neg k6]
           rw [hin]
           simp [go_sem, Jo, AC, k6]
       generalize Ry fl sc mid x s1 = w2 at hst ⊢
       obtain ⟨q2, s2⟩ := w2
       dsimp only at hst ⊢
       obtain ⟨BB, hBB⟩ : ∃ B : σ → Hp, ∀ s', B s' = hset (AS o E (As st s' H)) p (some (.cells [AA x.kind, AA x.code, AA x.id, .str x.text, Ag h'.props, AA h'.ins, AA h'.move, Aa h'.dels, AO h'.layers, AG q2, Ay x.rows])) := ⟨_, fun _ => rfl⟩
       have hBBp : ∀ s', BB s' p = some (.cells [AA x.kind, AA x.code, AA x.id, .str x.text, Ag h'.props, AA h'.ins, AA h'.move, Aa h'.dels, AO h'.layers, AG q2, Ay x.rows]) := fun s' => by rw [hBB, AC]
       have hBBb : ∀ s' j y, BB s' j = some y → j < m5 := fun s' j y e => by rw [hBB] at e; have := hYb s' _ j y e; omega
       have hBBu : ∀ s1 s', As st s' (BB s1) = BB s' := fun s1 s' => by rw [hBB, hBB, hup]
       have hBBh : ∀ s', ∀ k w, st s' k = some w → BB s' k = some w := fun s' => by rw [hBB]; exact hasP s' _
       rw [← hBB]
       refine CJ 0 [(0, AG l), (3, .bool mid), (4, .fn (.func g) a b), (7, .iptr [AA sc.id, AA sc.a, AA sc.b]), (21, AQ 11 o E), (22, AA i), (23, .ptr p 0), (27, .bool k), (28, AQ 6 none [])] (BB s2) m5 ?_ (fun m6 hm6 => ?_)
       · simp [go_sem, Jo, AQ]
       subst hm6
       obtain ⟨V, hV⟩ : ∃ V : Nat → List AR × σ, ∀ i, V i = (x.rows.take i).foldl (Ei f fl sc mid) ([], s2) := ⟨_, fun _ => rfl⟩
       have hV0 : V 0 = ([], s2) := by rw [hV]; rfl
       have hVs : ∀ i y, (h : i < x.rows.length) → x.rows[i] = y → V (i + 1) = Ei f fl sc mid (V i) y := fun i y h hy => by rw [hV, hV, FB _ _ _ _ _ h hy]
       have hVl : V x.rows.length = Ha f fl sc mid x.rows s2 := by rw [hV, KE]; rfl
       have hVn : ∀ i, (V i).1.length ≤ i := fun i => by rw [hV]; have := Qa (f := f) (fl := fl) (sc := sc) (mid := mid) (x.rows.take i) ([], s2); simp at this; omega
       clear hV
       refine Bf 1 [(0, AG l), (3, .bool mid), (4, .fn (.func g) a b), (7, .iptr [AA sc.id, AA sc.a, AA sc.b]), (21, AQ 11 o E), (22, AA i), (23, .ptr p 0), (27, .bool k), (28, Ay (Ha f fl sc mid x.rows s2).1)] (BB (Ha f fl sc mid x.rows s2).2) m5 ?_ (fun m6 hm6 => ?_)
       · refine CJ 0 [(0, AG l), (3, .bool mid), (4, .fn (.func g) a b), (7, .iptr [AA sc.id, AA sc.a, AA sc.b]), (21, AQ 11 o E), (22, AA i), (23, .ptr p 0), (27, .bool k), (28, AQ 6 none []), (29, AA 0)] (BB s2) m5 ?_ (fun m6 hm6 => ?_)
         · simp [go_sem, Jo]
         subst hm6
         refine AX (BX 0 (α := Nat × Option Nat) (fun q => [(0, AG l), (3, .bool mid), (4, .fn (.func g) a b), (7, .iptr [AA sc.id, AA sc.a, AA sc.b]), (21, AQ 11 o E), (22, AA i), (23, .ptr p 0), (27, .bool k), (28, AQ 6 q.2 ((V q.1).1.map AR.enc)), (29, AA q.1)])
          (fun q => AS q.2 ((V q.1).1.map AR.enc) (BB (V q.1).2)) (fun q m => q.1 ≤ x.rows.length ∧ m5 ≤ m ∧ BQ m5 m 6 q.2 ((V q.1).1.map AR.enc)) (fun q => x.rows.length - q.1) (0, none) ⟨K2 _, JO _, by simp only [hV0]; exact Zp _ _ _⟩ ?_ ?_ ?_)
         · simp only [hV0]; simp [go_sem, Am, Jo]
         · simp only [hV0]; exact AB
         rintro ⟨j, o2⟩ m6 ⟨hj, hm6, hA2⟩
         dsimp only at hj hA2 ⊢
         have hGn : ((V j).1.map AR.enc).length ≤ j := by rw [Kj]; exact hVn j
         have hpA : ∀ s' G, BQ m5 m6 6 o2 G → (AS o2 G (BB s')) p = some (.cells [AA x.kind, AA x.code, AA x.id, .str x.text, Ag h'.props, AA h'.ins, AA h'.move, Aa h'.dels, AO h'.layers, AG q2, Ay x.rows]) := fun s' G hA2 => by
          cases o2 with
          | none => exact hBBp _
          | some q => have := (hA2.lt q rfl).1; simp only [AS]; rw [AD _ _ (by omega)]; exact hBBp _
         by_cases hjt : j < x.rows.length
         · obtain ⟨y, hy⟩ : ∃ y, x.rows[j] = y := ⟨_, rfl⟩
           have hym : y ∈ x.rows := by rw [← hy]; exact Kn hjt
           have hgy : (x.rows.map AR.enc)[j]? = some y.enc := by simp [hjt, hy]
           have hvt := hVs j y hjt hy
           have w2 := wS j (by omega)
           generalize hSj : (V j).2 = sj at hvt
           generalize hGj : (V j).1.map AR.enc = G at hA2 hGn ⊢
           have hZb : ∀ s' j y, AS o2 G (BB s') j = some y → j < m6 := fun s' => HP (hBBb s') hm6 hA2
           have hpG := fun s' => hpA s' G hA2
           have hZh : ∀ s', ∀ k w, st s' k = some w → AS o2 G (BB s') k = some w := fun s' => D.has (by omega) hA2 (hBBh s')
           have hZu : ∀ s1 s', As st s' (AS o2 G (BB s1)) = AS o2 G (BB s') := fun s1 s' => by rw [D.acc (by omega) hA2, hBBu]
           refine CJ 0 [(0, AG l), (3, .bool mid), (4, .fn (.func g) a b), (7, .iptr [AA sc.id, AA sc.a, AA sc.b]), (21, AQ 11 o E), (22, AA i), (23, .ptr p 0), (27, .bool k), (28, AQ 6 o2 G), (29, AA j)] (AS o2 G (BB sj)) m6 ?_ (fun m' hm' => ?_)
           · simp [go_sem, Jo, hjt, hpG]
           subst hm'
           refine AV 0 (α := Option Nat) (fun o2 => [(0, AG l), (3, .bool mid), (4, .fn (.func g) a b), (7, .iptr [AA sc.id, AA sc.a, AA sc.b]), (21, AQ 11 o E), (22, AA i), (23, .ptr p 0), (27, .bool k), (28, AQ 6 o2 ((V (j + 1)).1.map AR.enc)), (29, AA j)]) (fun o2 => AS o2 ((V (j + 1)).1.map AR.enc) (BB (V (j + 1)).2)) (fun o2 m => m5 ≤ m ∧ BQ m5 m 6 o2 ((V (j + 1)).1.map AR.enc)) ?_ (fun o2 m hm => ?_)
           · refine AX ?_
             have hd := fun (X : Hp) (m : Nat) (hm : n0 ≤ m) (hX : ∀ k w, st sj k = some w → X k = some w) => d181 (mid := mid) (sc := sc) C hfl y (x5 y hym) sj (H := X) (n := m) hm hX
             simp only [Ei, hSj] at hvt
             generalize IL f fl sc mid y sj = r4 at hd hvt
             obtain ⟨ry, kr, s3⟩ := r4
             dsimp only at hd hvt
             have hd0 := fun m (hm : n0 ≤ m) => hd (AS o2 G (BB sj)) m hm (hZh sj)
             have hd1 := fun z m (hm : n0 ≤ m) => hd (hset (AS o2 G (BB sj)) m6 z) m hm (Eg C.lt (by omega) z (hZh sj))
             have hZu1 : ∀ s' z, As st s' (hset (AS o2 G (BB sj)) m6 z) = hset (AS o2 G (BB s')) m6 z := fun s' z => by rw [← D.hset _ _ (by omega), hZu]
             simp only [hZu, BD.enc] at hd0
             simp only [hZu1, BD.enc] at hd1
             clear hd
             have hzb1 : ∀ s' z j y, hset (AS o2 G (BB s')) m6 z j = some y → j < m6 + 1 := fun s' z j y e => by
              by_cases h : j = m6
              · omega
              · rw [AD _ _ h] at e; have := hZb s' j y e; omega
             have pm6 : p ≠ m6 := by omega
             refine AV 1 (α := Unit) (fun _ => [(0, AG l), (3, .bool mid), (4, .fn (.func g) a b), (7, .iptr [AA sc.id, AA sc.a, AA sc.b]), (21, AQ 11 o E), (22, AA i), (23, .ptr p 0), (27, .bool k), (28, AQ 6 o2 G), (29, AA j), (30, .iptr (ry.head.flat ++ [BT ry.cells])), (31, .bool kr)]) (fun _ => AS o2 G (BB s3)) (fun _ m7 => m6 ≤ m7) (Bt trF rfl (by kernel_rfl) (by kernel_rfl) ?_) (fun _ m7 hm7 => ?_)
             · simp only [Yj] at hd0 hd1
               simp [go_sem, trF, hpG, hjt, hy, AD, pm6, Yj]
               refine ⟨⟨⟨?_, ?_⟩, ?_⟩, ?_⟩
               all_goals first
                | (refine Y9 (hd0 _ (by omega)) ?_
                   rintro v H' n' ⟨rfl, rfl, rfl⟩
                   simp [go_sem, Jo, AF.flat, AC]
                   exact ⟨AW (Ad (hZb _) (JO _)) (AC _ _ _), AJ (hZb _) (AJ (hZb _) AB)⟩)
                | (refine Y9 (hd1 _ _ (by omega)) ?_
                   rintro v H' n' ⟨rfl, rfl, rfl⟩
                   simp [go_sem, Jo, AF.flat, AC]
                   exact ⟨AW (Ad (hZb _) (JO _)) (AC _ _ _), AJ (hZb _) (AJ (hZb _) AB)⟩)
             rw [hvt]
             cases kr with
             | false =>
              simp only [KC, if_false, hGj]
              refine AK ?_
              simp [go_sem, Jo]
              exact ⟨o2, ⟨by omega, hA2.mono (by omega)⟩, rfl, AB⟩
             | true =>
              simp only [if_true, K1, hGj, Y3, YR]
              refine AK ?_
              simp [go_sem, AF.flat]
              have hpush := hA2.push (j := m7 + 1) (m' := m7 + 1 + 1) (e := ry.enc) (AR.E.st _) (AR.E.len _) (by omega) (by omega)
              rw [Fd (es := G) (e := ry.enc) (o := o2) (t := 68) (t2 := 68) (el := 169) (z := 6) (by simp [go_sem]) (by simp [go_sem]) (by simp [go_sem]) (by simp) (by simp [go_sem]) (by simp [go_sem]) (by simp [go_sem]) (by omega) hA2 (AR.E.len _) ?a1 ?a2]
              case a1 => simp [AC, Yj, SV.cells]
              case a2 =>
               intro j e
               have := (hA2.lt j e).2
               rw [AD _ _ (by omega)]; exact E3 j e
              have hlive := ES (p := m7 + 1) (v := .sl (m7 + 1) 0 6 (G.length + 1) false) (e := ry.enc) (hBBb s3) (by omega) hA2 (H := hset (AS o2 G (BB s3)) m7 (some (.cells [Ag ry.head.props, AA ry.head.ins, AA ry.head.move, Aa ry.head.dels, AO ry.head.layers, BT ry.cells]))) (AJ (fun j z e => by have := hBBb s3 j z e; omega) (DO (hBBb s3) hA2))
              have hvv : AQ 6 (some (m7 + 1)) (G ++ [ry.enc]) = .sl (m7 + 1) 0 6 (G.length + 1) false := by simp [AQ]
              simp [go_sem]
              exact ⟨some (m7 + 1), ⟨by omega, hpush⟩, hvv.symm, by simpa [Cu.app, SV.cells] using hlive⟩
           · refine AK ?_
             simp [go_sem, w2, Jo, -Int.natCast_add]
             exact ⟨j + 1, by omega, o2, ⟨by omega, hm.1, hm.2⟩, ⟨rfl, rfl⟩, AB⟩
         · have : j = x.rows.length := by omega
           subst this
           rw [hVl] at hA2 ⊢
           have hpG := fun s' => hpA s' _ hA2
           refine AK ?_
           simp [go_sem, Jo, hpG]
           exact ⟨by omega, AQ.fz' (fun j hj => Ad (hBBb _) hj) hA2 AB, DO (hBBb _) hA2⟩
       generalize Ha f fl sc mid x.rows s2 = v2 at hst ⊢
       obtain ⟨q3, s3⟩ := v2
       dsimp only at hst ⊢
       have hq0 : (((q3.length : Nat) : Int) = 0) ↔ q3.length = 0 := by omega
       refine CJ 0 [(0, AG l), (3, .bool mid), (4, .fn (.func g) a b), (7, .iptr [AA sc.id, AA sc.a, AA sc.b]), (21, AQ 11 o E), (22, AA i), (23, .ptr p 0), (27, .bool (k && !(decide (x.kind = 7) && decide (q3.length = 0)))), (28, Ay q3)] (BB s3) m6 ?_ (fun m7 hm7 => ?_)
       · by_cases k7 : x.kind = 7
         · by_cases q0 : q3 = []
           · subst q0; simp [go_sem, Jo, hBBp, k7]
           · simp [go_sem, Jo, hBBp, k7, q0]
         · simp [go_sem, Jo, hBBp, k7]
       subst hm7
       generalize (k && !(decide (x.kind = 7) && decide (q3.length = 0))) = k2 at hst ⊢
       refine CJ 1 [(0, AG l), (3, .bool mid), (4, .fn (.func g) a b), (7, .iptr [AA sc.id, AA sc.a, AA sc.b]), (21, AQ 11 o E), (22, AA i), (23, .iptr [AA x.kind, AA x.code, AA x.id, .str x.text, Ag h'.props, AA h'.ins, AA h'.move, Aa h'.dels, AO h'.layers, AG q2, Ay q3]), (27, .bool k2)] (AS o E (As st s3 H)) m6 ?_ (fun m7 hm7 => ?_)
       · simp [go_sem, Jo, hBB, AC, Ai]
         exact ⟨AW (Ad (hXb2 _) (JO _)) (AC _ _ _), AJ (hXb2 _) AB⟩
       subst hm7
       rw [hst]
       cases k2 with
       | false =>
        simp only [KC, if_false, hEi]
        refine AK ?_
        simp [go_sem, Jo]
        exact ⟨o, ⟨by omega, hA.mono (by omega)⟩, rfl, AB⟩
       | true =>
        simp only [if_true, K1, hEi, Y3, YR]
        refine AK ?_
        simp [go_sem]
        have hpush := hA.push (j := m6 + 1) (m' := m6 + 1 + 1) (e := (x.put h' q2 q3).enc) (AE.E.st _) (AE.E.len _) (by omega) (by omega)
        rw [Fd (es := E) (e := (x.put h' q2 q3).enc) (o := o) (t := 22) (t2 := 22) (el := 70) (z := 11) (by simp [go_sem]) (by simp [go_sem]) (by simp [go_sem]) (by simp) (by simp [go_sem]) (by simp [go_sem]) (by simp [go_sem]) (by omega) hA (AE.E.len _) ?a1 ?a2]
        case a1 => simp [AC, KW, SV.cells, AE.put, AE.kind, AE.code, AE.id, AE.text, AE.head, AE.flow, AE.rows]
        case a2 =>
         intro j e
         have := (hA.lt j e).2
         rw [AD _ _ (by omega)]; exact E3 j e
        have hlive := ES (p := m6 + 1) (v := .sl (m6 + 1) 0 11 (E.length + 1) false) (e := (x.put h' q2 q3).enc) (hUb s3) (by omega) hA (H := hset (AS o E (As st s3 H)) m6 (some (.cells [AA x.kind, AA x.code, AA x.id, .str x.text, Ag h'.props, AA h'.ins, AA h'.move, Aa h'.dels, AO h'.layers, AG q2, Ay q3]))) (AJ (fun j z e => by have := hUb s3 j z e; omega) (DO (hUb s3) hA))
        have hvv : AQ 11 (some (m6 + 1)) (E ++ [(x.put h' q2 q3).enc]) = .sl (m6 + 1) 0 11 (E.length + 1) false := by simp [AQ]
        simp [go_sem]
        exact ⟨some (m6 + 1), ⟨by omega, hpush⟩, hvv.symm, by simpa [Cu.app, SV.cells] using hlive⟩
     · refine AK ?_
       simp [go_sem, w1, Jo, -Int.natCast_add]
       exact ⟨i + 1, by omega, o, ⟨by omega, hm.1, hm.2⟩, ⟨rfl, rfl⟩, AB⟩
   · have : i = l.length := by omega
     subst this
     refine AK ?_
     simp [go_sem]
     exact ⟨o, ⟨hnm, hA⟩, rfl, AB⟩
 · refine AK ?_
   simp [go_sem]
   rw [hRl] at hm ⊢
   exact hQ ho o m hm.1 hm.2
end
end Go.Proofs.YtgakninlhfkkmaaGreat.Sh
