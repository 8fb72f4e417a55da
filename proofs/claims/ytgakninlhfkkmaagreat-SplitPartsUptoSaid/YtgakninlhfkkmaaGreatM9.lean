/- SplitPartsUptoSaid: a part of its proof (part 9 of 14). -/
import Derived.Test.YtgakninlhfkkmaaGreatM8
namespace Go.Proofs.YtgakninlhfkkmaaGreat.Sh
open Proofs
set_option maxRecDepth 10000
mutual
theorem DZ {n m : Nat} (h : n ≤ m) : ∀ v : SV, closed n v = true → closed m v = true
 | .agg cs, e => by rw [closed] at *; exact Cl h cs e
 | .tup cs, e => by rw [closed] at *; exact Cl h cs e
 | .fn _ a b, e => by rw [closed, Bool.and_eq_true] at *; exact ⟨Cl h a e.1, Cl h b e.2⟩
 | .ptr o _, e => by simp only [closed, decide_eq_true_eq] at *; omega
 | .iptr cs, e => by rw [closed] at *; exact Cl h cs e
 | .sl o _ _ _ _, e => by simp only [closed, decide_eq_true_eq] at *; omega
 | .slc o _ _ _ _, e => by simp only [closed, decide_eq_true_eq] at *; omega
 | .imm _ es _, e => by rw [closed] at *; exact Cl h es e
 | .map o, e => by simp only [closed, decide_eq_true_eq] at *; omega
 | .int _ _, _ | .bool _, _ | .str _, _ | .junk, _ | .nilp, _ | .nilf, _ | .nilm, _ => by simp [closed]
theorem Cl {n m : Nat} (h : n ≤ m) : ∀ l : List SV, closedL n l = true → closedL m l = true
 | [], _ => by rw [closedL]
 | s :: l, e => by rw [closedL, Bool.and_eq_true] at *; exact ⟨DZ h s e.1, Cl h l e.2⟩
end
theorem Gw {n m : Nat} (h : n ≤ m) {y : BV} (hc : BJ n y = true) : BJ m y = true := by
 cases y with
 | cells cs ty => exact Cl h _ hc
 | map es =>
  simp only [BJ, List.all_eq_true, Bool.and_eq_true] at hc ⊢
  exact fun p hp => ⟨DZ h _ (hc p hp).1, DZ h _ (hc p hp).2⟩
 | loop l => rfl
 | iter l r =>
  simp only [BJ, List.all_eq_true, Bool.and_eq_true, Option.all_eq_true] at hc ⊢
  exact ⟨fun p hp => ⟨DZ h _ (hc.1 p hp).1, DZ h _ (hc.1 p hp).2⟩, fun p hp => ⟨DZ h _ (hc.2 p hp).1, DZ h _ (hc.2 p hp).2⟩⟩
section
variable {σ : Type}
def Az (st : σ → Nat → Option BV) (s : σ) (H : Hp) : Hp := fun o => match st s o with | some y => some y | none => H o
structure L0 (st : σ → Nat → Option BV) (n0 : Nat) (g : FuncId) (a b : List SV) (f : σ → Br → AF × Bool × σ) (ok : AF → Prop) : Prop where
 lt : ∀ s o, n0 ≤ o → st s o = none
 dom : ∀ s s' o, st s o = none → st s' o = none
 cl : ∀ s o y, st s o = some y → BJ n0 y = true
 call : ∀ s p H n, ok p.head → n0 ≤ n → (∀ o y, st s o = some y → H o = some y) → BO Tryz.prog g (a ++ [p.enc] ++ b) H n (fun v h' n' => v = .tup [(f s p).1.enc, .bool (f s p).2.1] ∧ h' = Az st (f s p).2.2 H ∧ n' = n)
variable {st : σ → Nat → Option BV} {n0 : Nat} {g : FuncId} {a b : List SV} {f : σ → Br → AF × Bool × σ} {ok : AF → Prop}
theorem L0.ne (C : L0 st n0 g a b f ok) (s : σ) (H : Hp) {o : Nat} (h : n0 ≤ o) : Az st s H o = H o := by simp [Az, C.lt s o h]
theorem L0.up2 (C : L0 st n0 g a b f ok) (s s' : σ) (H : Hp) : Az st s' (Az st s H) = Az st s' H := by
 funext o
 simp only [Az]
 cases h : st s' o with
 | some y => rfl
 | none => simp [C.dom s' s o h]
theorem L0.hset (C : L0 st n0 g a b f ok) (s : σ) (H : Hp) {o : Nat} (h : n0 ≤ o) (y : Option BV) : hset (Az st s H) o y = Az st s (hset H o y) := by
 funext j
 simp only [Az, Sh.hset]
 split
 · subst_vars; rw [C.lt s _ h]
 · rfl
theorem Et (s : σ) (H : Hp) (h : ∀ o y, st s o = some y → H o = some y) : Az st s H = H := by
 funext o
 simp only [Az]
 cases e : st s o with
 | some y => rw [h o y e]
 | none => rfl
theorem L0.old (C : L0 st n0 g a b f ok) (s : σ) {H : Hp} {n : Nat} (hn : n0 ≤ n) (ho : Fd H n) : Fd (Az st s H) n := fun o y e => by
 simp only [Az] at e
 cases e1 : st s o with
 | some z =>
  rw [e1] at e; cases e
  refine ⟨?_, Gw hn (C.cl s o y e1)⟩
  by_cases h : n0 ≤ o
  · rw [C.lt s o h] at e1; cases e1
  · omega
 | none => rw [e1] at e; exact ho o y e
theorem L0.acc (C : L0 st n0 g a b f ok) {n m z : Nat} {o : Option Nat} {es : List SV} (hn : n0 ≤ n) (hA : BZ n m z o es) (s' : σ) (H : Hp) : Az st s' (Aj o es H) = Aj o es (Az st s' H) := by
 cases o with
 | none => rfl
 | some j => have := (hA.lt j rfl).1; simp only [Aj]; rw [C.hset s' H (by omega)]
theorem L0.has (C : L0 st n0 g a b f ok) {n m z : Nat} {o : Option Nat} {es : List SV} (hn : n0 ≤ n) (hA : BZ n m z o es) {s : σ} {H : Hp} (h : ∀ k y, st s k = some y → H k = some y) : ∀ k y, st s k = some y → Aj o es H k = some y := fun k y e => by
 cases o with
 | none => exact h k y e
 | some j =>
  have := (hA.lt j rfl).1
  simp only [Aj]
  rw [AD _ _ ?_]
  · exact h k y e
  · rintro rfl; rw [C.lt s k (by omega)] at e; cases e
theorem CL {s : σ} {H : Hp} : ∀ k y, st s k = some y → Az st s H k = some y := fun k y e => by simp [Az, e]
theorem M7 {n m z : Nat} {o : Option Nat} {es : List SV} {h : Hp} (hb : ∀ j y, h j = some y → j < n) (hnm : n ≤ m) (hA : BZ n m z o es) : ∀ j y, Aj o es h j = some y → j < m := fun j y e => by
 cases o with
 | none => have := hb j y e; omega
 | some k =>
  have := (hA.lt k rfl).2
  simp only [Aj, hset] at e
  split at e
  · omega
  · have := hb j y e; omega
theorem Af {h : Hp} {m : Nat} (hb : ∀ j y, h j = some y → j < m) {k : Nat} (hk : m ≤ k) : h k = none := by
 cases e : h k with
 | none => rfl
 | some y => have := hb k y e; omega
theorem Aa.fz' {h : Hp} {n m z k : Nat} {o : Option Nat} {es : List SV} (hn : ∀ j, n ≤ j → h j = none) (H : BZ n m z o es) {h' : Hp} (hh : ∀ j y, Aj o es h j = some y → h' j = some y) : Fz h' h (k + 1) (Aa z o es) (.imm z es false) := by
 cases o with
 | none => rw [H.none rfl]; exact .inr ⟨by simp, .inl rfl, trivial, by simp⟩
 | some j =>
  have hj := hh j (.cells (es.flatMap SV.cells)) (by simp [Aj, hset])
  refine .inr ⟨hn j (H.lt j rfl).1, by simp, rfl, rfl, _, _, hj, by simp [Bi, BH H.size]; rfl, H.size, ?_⟩
  have : ∀ l : List SV, AQ (Fz h' h k) l l := by
   intro l; induction l with
   | nil => trivial
   | cons a l ih => exact ⟨Fz.same, ih⟩
  simp only [← BH H.size, List.take_length]
  exact this _
theorem It {h : Hp} {n m z : Nat} {o : Option Nat} {es : List SV} (hb : ∀ j y, h j = some y → j < n) (H : BZ n m z o es) : ∀ j x, h j = some x → Aj o es h j = some x := fun j x e => by
 cases o with
 | none => exact e
 | some k =>
  have h1 := (H.lt k rfl).1
  have h2 := hb j x e
  simp only [Aj]; rw [AD _ _ (by omega)]; exact e
theorem H3 {h H : Hp} {n m p z : Nat} {es : List SV} {e : SV} {o : Option Nat} {v : SV} (hb : ∀ j y, h j = some y → j < n) (hn : n ≤ p) (hA : BZ n m z o es) (hH : ∀ j y, h j = some y → H j = some y) :
 ∀ j y, Aj (some p) (es ++ [e]) h j = some y → (DC.app H p { val := v, upd := o.map fun j => (j, none), new := some (.cells (es.flatMap SV.cells ++ e.cells)) }) j = some y := by
 intro j y hj
 simp only [Aj] at hj
 by_cases e1 : j = p
 · subst e1
   rw [AC] at hj
   simp only [DC.app, AC]
   rw [← hj]; simp
 · rw [AD _ _ e1] at hj
   have hlt := hb j y hj
   have := hH j y hj
   cases o with
   | none => simp [DC.app, AD _ _ e1, this]
   | some k =>
    have hk : j ≠ k := by have := (hA.lt k rfl).1; omega
    simp [DC.app, AD _ _ e1, AD _ _ hk, this]
theorem Lc {h : Hp} {n n' m z : Nat} {o : Option Nat} {es : List SV} (ho : Fd h n) (H : BZ n m z o es) (hc : ∀ e ∈ es, closed n e = true) : CG n (Aj o es h) n' (Aa z o es) (fun v h' n' => v = .imm z es false ∧ h' = h ∧ n' = n) :=
 .inr ⟨1, .imm z es false, h, Aa.fz ho H AB, by rw [closed]; exact DY.2 hc, fun j x e => ⟨Aj.old ho H j x e, ho j x e⟩, rfl, rfl, rfl⟩
theorem AL {h h' : Hp} {m : Nat} {y : Option BV} (hb : ∀ j z, h j = some z → j < m) (hh : ∀ j z, h j = some z → h' j = some z) : ∀ j z, h j = some z → hset h' m y j = some z := fun j z e => by
 rw [AD _ _ (by have := hb j z e; omega)]; exact hh j z e
def trR : Tr := .pure 0 <| .pure 1 <| .pure 2 <| .pure 3 <| .pure 4 <| .pure 5 <| .pure 6 <| .pure 7 <| .pure 8 <| .pure 9 <| .pure 10 <| .one 11 <| .one 12 <| .one 13 <| .one 14 <| .one 15 .nil
variable {it : Int → List AE → Bool → σ → List AE × σ} {mid : Bool} {P : List AE → Prop} {sc : BG}
def ItC (st : σ → Nat → Option BV) (n0 : Nat) (g : FuncId) (a b : List SV) (it : Int → List AE → Bool → σ → List AE × σ) (sc : BG) (P : List AE → Prop) : Prop :=
 ∀ id l mid s H n, P l → n0 ≤ n → (∀ o y, st s o = some y → H o = some y) → BO Tryz.prog 121 [.fn (.func g) a b, AA id, AG l, sc.enc, .bool mid] H n (fun v h' n' => v = AG (it id l mid s).1 ∧ h' = Az st (it id l mid s).2 H ∧ n' = n)
set_option maxHeartbeats 2000000 in
theorem d257 (C : L0 st n0 g a b f ok) (hit : ItC st n0 g a b it sc P) (l : List AS) (hl : l.length ≤ 1048576) (hr : ∀ r ∈ l, ok r.head ∧ r.cells.length ≤ 1048576 ∧ ∀ c ∈ r.cells, ok c.head ∧ P c.flow) (s : σ) {H : Hp} {n : Nat} (hn : n0 ≤ n) (hs : ∀ o y, st s o = some y → H o = some y) :
 BO Tryz.prog 257 [.fn (.func g) a b, Ay l, sc.enc, .bool mid] H n (fun v h' n' => v = Ay (Gk f it mid l s).1 ∧ h' = Az st (Gk f it mid l s).2 H ∧ n' = n) := by
 refine ED Tryz.func257 rfl fun ho => ?_
 obtain ⟨R, hR⟩ : ∃ R : Nat → List AS × σ, ∀ i, R i = (l.take i).foldl (Ei f it mid) ([], s) := ⟨_, fun _ => rfl⟩
 have hR0 : R 0 = ([], s) := by rw [hR]; rfl
 have hRs : ∀ i x, (h : i < l.length) → l[i] = x → R (i + 1) = Ei f it mid (R i) x := fun i x h hx => by rw [hR, hR, Ib _ _ _ _ _ h hx]
 have hRl : R l.length = Gk f it mid l s := by rw [hR, List.take_length]; rfl
 have hRn : ∀ i, (R i).1.length ≤ i := fun i => by rw [hR]; have := Mn (f := f) (it := it) (mid := mid) (l.take i) ([], s); simp at this; omega
 clear hR
 have hU : ∀ s', Fd (Az st s' H) n := fun s' => C.old s' hn ho
 have hUb : ∀ s' j y, Az st s' H j = some y → j < n := fun s' j y e => (hU s' j y e).1
 refine Ae 1 [(0, .fn (.func g) a b), (1, Ay l), (3, .bool mid), (6, .iptr [AA sc.id, AA sc.a, AA sc.b])] (Az st s H) n ?_ (fun m hm => ?_)
 · simp [go_sem, BG.enc, Fz.same, Et s H hs]
   refine ⟨Ac (ho.none (Nat.le_refl n)) (by simp [hset]), fun j y e => by rw [AD _ _ (by have := (ho j y e).1; omega)]; exact e⟩
 refine Ae 0 [(0, .fn (.func g) a b), (1, Ay l), (3, .bool mid), (6, .iptr [AA sc.id, AA sc.a, AA sc.b]), (9, .imm 0 [] true)] (Az st s H) n ?_ (fun m hm => ?_)
 · simp [go_sem, Fz.same, hm]
 refine AX 0 (α := Option Nat) (fun o => [(9, Aa 6 o ((R l.length).1.map AS.enc))]) (fun o => Aj o ((R l.length).1.map AS.enc) (Az st (R l.length).2 H)) (fun o m => n ≤ m ∧ BZ n m 6 o ((R l.length).1.map AS.enc)) ?_ (fun o m hm => ?_)
 · refine Ae 0 [(0, .fn (.func g) a b), (3, .bool mid), (6, .iptr [AA sc.id, AA sc.a, AA sc.b]), (9, .imm 0 [] true), (19, Ay l), (20, AA l.length), (21, AA 0)] (Az st s H) n ?_ (fun m hm => ?_)
   · simp [go_sem, Fz.same, hm]
   refine Ab (Bf 0 (α := Nat × Option Nat) (fun q => [(0, .fn (.func g) a b), (3, .bool mid), (6, .iptr [AA sc.id, AA sc.a, AA sc.b]), (9, Aa 6 q.2 ((R q.1).1.map AS.enc)), (19, Ay l), (20, AA l.length), (21, AA q.1)])
    (fun q => Aj q.2 ((R q.1).1.map AS.enc) (Az st (R q.1).2 H)) (fun q m => q.1 ≤ l.length ∧ n ≤ m ∧ BZ n m 6 q.2 ((R q.1).1.map AS.enc)) (fun q => l.length - q.1) (0, none) ⟨Nat.zero_le _, hm, by simp only [hR0]; exact BZ.nil _ _ _⟩ ?_ ?_ ?_)
   · simp [go_sem, Ai, Aa, Fz.same]
   · simp only [hR0]; exact AB
   clear hm m
   rintro ⟨i, o⟩ m ⟨hi, hnm, hA⟩
   dsimp only at hi hA ⊢
   have hEn : ((R i).1.map AS.enc).length ≤ i := by rw [List.length_map]; exact hRn i
   by_cases hlt : i < l.length
   · obtain ⟨x, hx⟩ : ∃ x, l[i] = x := ⟨_, rfl⟩
     have hxm : x ∈ l := by rw [← hx]; exact List.getElem_mem hlt
     obtain ⟨x1, x2, x3⟩ := hr x hxm
     have hgx : (l.map AS.enc)[i]? = some x.enc := by simp [hlt, hx]
     have hst := hRs i x hlt hx
     have w1 := wS i (by omega)
     generalize hSi : (R i).2 = si at hst
     generalize hEi : (R i).1.map AS.enc = E at hA hEn ⊢
     have hXb : ∀ s' j y, Aj o E (Az st s' H) j = some y → j < m := fun s' => M7 (hUb s') hnm hA
     refine DA 0 [(0, .fn (.func g) a b), (3, .bool mid), (6, .iptr [AA sc.id, AA sc.a, AA sc.b]), (9, Aa 6 o E), (19, Ay l), (20, AA l.length), (21, AA i), (22, .bool true)] (Aj o E (Az st si H)) m ?_ (fun m' hm' => ?_)
     · simp [go_sem, Fz.same, hlt]
     subst hm'
     refine DA 0 [(0, .fn (.func g) a b), (3, .bool mid), (6, .iptr [AA sc.id, AA sc.a, AA sc.b]), (9, Aa 6 o E), (19, Ay l), (20, AA l.length), (21, AA i)] (Aj o E (Az st si H)) m ?_ (fun m2 hm2 => ?_)
     · simp [go_sem, Fz.same]
     subst hm2
     refine AX 0 (α := Option Nat) (fun o => [(0, .fn (.func g) a b), (3, .bool mid), (6, .iptr [AA sc.id, AA sc.a, AA sc.b]), (9, Aa 6 o ((R (i + 1)).1.map AS.enc)), (19, Ay l), (20, AA l.length), (21, AA i)]) (fun o => Aj o ((R (i + 1)).1.map AS.enc) (Az st (R (i + 1)).2 H)) (fun o m => n ≤ m ∧ BZ n m 6 o ((R (i + 1)).1.map AS.enc)) ?_ (fun o m hm => ?_)
     · refine Ab ?_
       refine Ae 1 [(0, .fn (.func g) a b), (3, .bool mid), (6, .iptr [AA sc.id, AA sc.a, AA sc.b]), (9, Aa 6 o E), (19, Ay l), (20, AA l.length), (21, AA i), (11, .iptr (x.head.flat ++ [Bt x.cells]))] (Aj o E (Az st si H)) m ?_ (fun m2 hm2 => ?_)
       · simp [go_sem, Fz.same, hlt, hx, AS.enc_eq, AF.flat, AC]
         refine ⟨Ac (Af (hXb _) (Nat.le_refl m)) (AC _ _ _), AL (hXb _) (AL (hXb _) AB)⟩
       have hXb2 : ∀ s' j y, Aj o E (Az st s' H) j = some y → j < m2 := fun s' j y e => by have := hXb s' j y e; omega
       obtain ⟨p, hp⟩ : ∃ p : Br, p = ⟨x.head, mid, 1⟩ := ⟨_, rfl⟩
       have hcall := C.call si p (Aj o E (Az st si H)) m2 (by rw [hp]; exact x1) (by omega) (C.has hn hA CL)
       have hst' : R (i + 1) = if (f si p).2.1 then ((R i).1 ++ [.mk (f si p).1 (EG f it mid x.cells (f si p).2.2).1], (EG f it mid x.cells (f si p).2.2).2) else ((R i).1, (f si p).2.2) := by rw [hst, hp, Ei, hSi]
       rw [C.acc hn hA, C.up2] at hcall
       have hpe : p.enc = .agg (x.head.flat ++ [.bool mid, AA 1]) := by rw [hp]; rfl
       clear hst hSi
       rcases hf : f si p with ⟨h', k, s1⟩
       rw [hf] at hcall hst'
       dsimp only at hcall hst'
       refine Ae 1 [(0, .fn (.func g) a b), (3, .bool mid), (6, .iptr [AA sc.id, AA sc.a, AA sc.b]), (9, Aa 6 o E), (19, Ay l), (20, AA l.length), (21, AA i), (11, .iptr (x.head.flat ++ [Bt x.cells])), (12, .iptr h'.flat), (13, .bool k)] (Aj o E (Az st s1 H)) m2 ?_ (fun m3 hm3 => ?_)
       · rw [hpe] at hcall
         simp only [AF.flat, List.cons_append, List.nil_append, List.append_assoc] at hcall
         simp [go_sem, AF.flat]
         refine SC.use hcall ?_
         rintro v H' n' ⟨rfl, rfl, rfl⟩
         simp [go_sem, Fz.same, AF.enc, AF.flat, AC]
         exact ⟨Ac (Af (hXb2 _) (Nat.le_refl _)) (AC _ _ _), AL (hXb2 _) (AL (hXb2 _) AB)⟩
       cases k with
       | false =>
        have hst2 : R (i + 1) = ((R i).1, s1) := by simpa using hst'
        simp only [hst2, hEi]
        refine AH ?_
        simp [go_sem, Fz.same]
        exact ⟨o, ⟨by omega, hA.mono (by omega)⟩, rfl, AB⟩
       | true =>
        have hst2 : R (i + 1) = ((R i).1 ++ [.mk h' (EG f it mid x.cells s1).1], (EG f it mid x.cells s1).2) := by simpa using hst'
        simp only [hst2, List.map_append, hEi, List.map_cons, List.map_nil]
        clear hst' hst2 hcall hpe hf
        refine DA 0 [(0, .fn (.func g) a b), (3, .bool mid), (6, .iptr [AA sc.id, AA sc.a, AA sc.b]), (9, Aa 6 o E), (19, Ay l), (20, AA l.length), (21, AA i), (11, .iptr (x.head.flat ++ [Bt x.cells])), (12, .iptr h'.flat)] (Aj o E (Az st s1 H)) m3 ?_ (fun m4 hm4 => ?_)
        · simp [go_sem, Fz.same]
        subst hm4
        refine DA 0 [(0, .fn (.func g) a b), (3, .bool mid), (6, .iptr [AA sc.id, AA sc.a, AA sc.b]), (9, Aa 6 o E), (19, Ay l), (20, AA l.length), (21, AA i), (11, .iptr (x.head.flat ++ [Bt x.cells])), (12, .iptr h'.flat), (14, .imm 0 [] true)] (Aj o E (Az st s1 H)) m3 ?_ (fun m4 hm4 => ?_)
        · simp [go_sem, Fz.same]
        subst hm4
        refine Bs 1 [(0, .fn (.func g) a b), (3, .bool mid), (6, .iptr [AA sc.id, AA sc.a, AA sc.b]), (9, Aa 6 o E), (19, Ay l), (20, AA l.length), (21, AA i), (12, .iptr h'.flat), (14, Bt (EG f it mid x.cells s1).1)] (Aj o E (Az st (EG f it mid x.cells s1).2 H)) m3 ?_ (fun m4 hm4 => ?_)
        · refine DA 0 [(0, .fn (.func g) a b), (3, .bool mid), (6, .iptr [AA sc.id, AA sc.a, AA sc.b]), (9, Aa 6 o E), (19, Ay l), (20, AA l.length), (21, AA i), (12, .iptr h'.flat), (14, .imm 0 [] true), (37, Bt x.cells), (38, AA x.cells.length), (39, AA 0)] (Aj o E (Az st s1 H)) m3 ?_ (fun m4 hm4 => ?_)
          · simp [go_sem, Fz.same, AF.flat]
          subst hm4
          obtain ⟨Q, hQ⟩ : ∃ Q : Nat → List AK × σ, ∀ i, Q i = (x.cells.take i).foldl (DX f it mid) ([], s1) := ⟨_, fun _ => rfl⟩
          have hQ0 : Q 0 = ([], s1) := by rw [hQ]; rfl
          have hQs : ∀ i y, (h : i < x.cells.length) → x.cells[i] = y → Q (i + 1) = DX f it mid (Q i) y := fun i y h hy => by rw [hQ, hQ, Ib _ _ _ _ _ h hy]
          have hQl : Q x.cells.length = EG f it mid x.cells s1 := by rw [hQ, List.take_length]; rfl
          have hQn : ∀ i, (Q i).1.length ≤ i := fun i => by rw [hQ]; have := K2 (f := f) (it := it) (mid := mid) (x.cells.take i) ([], s1); simp at this; omega
          clear hQ
          have hBb : ∀ s' j y, Aj o E (Az st s' H) j = some y → j < m3 := fun s' j y e => by have := hXb s' j y e; omega
          refine Ab (Bf 0 (α := Nat × Option Nat) (fun q => [(0, .fn (.func g) a b), (3, .bool mid), (6, .iptr [AA sc.id, AA sc.a, AA sc.b]), (9, Aa 6 o E), (19, Ay l), (20, AA l.length), (21, AA i), (12, .iptr h'.flat), (14, Aa 7 q.2 ((Q q.1).1.map AK.enc)), (37, Bt x.cells), (38, AA x.cells.length), (39, AA q.1)])
           (fun q => Aj q.2 ((Q q.1).1.map AK.enc) (Aj o E (Az st (Q q.1).2 H))) (fun q m => q.1 ≤ x.cells.length ∧ m3 ≤ m ∧ BZ m3 m 7 q.2 ((Q q.1).1.map AK.enc)) (fun q => x.cells.length - q.1) (0, none) ⟨Nat.zero_le _, Nat.le_refl _, by simp only [hQ0]; exact BZ.nil _ _ _⟩ ?_ ?_ ?_)
          · simp [go_sem, Ai, Aa, Fz.same]
          · simp only [hQ0]; exact AB
          rintro ⟨j, o2⟩ m4 ⟨hj, hm4, hA2⟩
          dsimp only at hj hA2 ⊢
          have hCn : ((Q j).1.map AK.enc).length ≤ j := by rw [List.length_map]; exact hQn j
          by_cases hjt : j < x.cells.length
          · obtain ⟨y, hy⟩ : ∃ y, x.cells[j] = y := ⟨_, rfl⟩
            have hym : y ∈ x.cells := by rw [← hy]; exact List.getElem_mem hjt
            obtain ⟨y1, y2⟩ := x3 y hym
            have hgy : (x.cells.map AK.enc)[j]? = some y.enc := by simp [hjt, hy]
            have hqt := hQs j y hjt hy
            have w2 := wS j (by omega)
            generalize hSj : (Q j).2 = sj at hqt
            generalize hGj : (Q j).1.map AK.enc = G at hA2 hCn ⊢
            have hYb : ∀ s' j y, Aj o2 G (Aj o E (Az st s' H)) j = some y → j < m4 := fun s' => M7 (hBb s') hm4 hA2
            refine DA 0 [(0, .fn (.func g) a b), (3, .bool mid), (6, .iptr [AA sc.id, AA sc.a, AA sc.b]), (9, Aa 6 o E), (19, Ay l), (20, AA l.length), (21, AA i), (12, .iptr h'.flat), (14, Aa 7 o2 G), (37, Bt x.cells), (38, AA x.cells.length), (39, AA j), (40, .bool true)] (Aj o2 G (Aj o E (Az st sj H))) m4 ?_ (fun m' hm' => ?_)
            · simp [go_sem, Fz.same, hjt]
            subst hm'
            refine DA 0 [(0, .fn (.func g) a b), (3, .bool mid), (6, .iptr [AA sc.id, AA sc.a, AA sc.b]), (9, Aa 6 o E), (19, Ay l), (20, AA l.length), (21, AA i), (12, .iptr h'.flat), (14, Aa 7 o2 G), (37, Bt x.cells), (38, AA x.cells.length), (39, AA j)] (Aj o2 G (Aj o E (Az st sj H))) m4 ?_ (fun m' hm' => ?_)
            · simp [go_sem, Fz.same]
            subst hm'
            refine AX 0 (α := Option Nat) (fun o2 => [(0, .fn (.func g) a b), (3, .bool mid), (6, .iptr [AA sc.id, AA sc.a, AA sc.b]), (9, Aa 6 o E), (19, Ay l), (20, AA l.length), (21, AA i), (12, .iptr h'.flat), (14, Aa 7 o2 ((Q (j + 1)).1.map AK.enc)), (37, Bt x.cells), (38, AA x.cells.length), (39, AA j)]) (fun o2 => Aj o2 ((Q (j + 1)).1.map AK.enc) (Aj o E (Az st (Q (j + 1)).2 H))) (fun o2 m => m3 ≤ m ∧ BZ m3 m 7 o2 ((Q (j + 1)).1.map AK.enc)) ?_ (fun o2 m hm => ?_)
            · refine Ab ?_
              refine Ae 1 [(0, .fn (.func g) a b), (3, .bool mid), (6, .iptr [AA sc.id, AA sc.a, AA sc.b]), (9, Aa 6 o E), (19, Ay l), (20, AA l.length), (21, AA i), (12, .iptr h'.flat), (14, Aa 7 o2 G), (37, Bt x.cells), (38, AA x.cells.length), (39, AA j), (16, .iptr ([AA y.id] ++ y.head.flat ++ [AG y.flow]))] (Aj o2 G (Aj o E (Az st sj H))) m4 ?_ (fun m5 hm5 => ?_)
              · simp [go_sem, Fz.same, hjt, hy, AK.enc_eq, AF.flat, AC]
                refine ⟨Ac (Af (hYb _) (Nat.le_refl m4)) (AC _ _ _), AL (hYb _) (AL (hYb _) AB)⟩
              have hYb2 : ∀ s' j y, Aj o2 G (Aj o E (Az st s' H)) j = some y → j < m5 := fun s' j y e => by have := hYb s' j y e; omega
              obtain ⟨p2, hp2⟩ : ∃ p : Br, p = ⟨y.head, mid, 1⟩ := ⟨_, rfl⟩
              have hcall2 := C.call sj p2 (Aj o2 G (Aj o E (Az st sj H))) m5 (by rw [hp2]; exact y1) (by omega) (C.has (by omega) hA2 (C.has hn hA CL))
              have hqt' : Q (j + 1) = if (f sj p2).2.1 then ((Q j).1 ++ [.mk y.id (f sj p2).1 (it y.id y.flow mid (f sj p2).2.2).1], (it y.id y.flow mid (f sj p2).2.2).2) else ((Q j).1, (f sj p2).2.2) := by rw [hqt, hp2, DX, hSj]
              rw [C.acc (by omega) hA2, C.acc hn hA, C.up2] at hcall2
              have hpe2 : p2.enc = .agg (y.head.flat ++ [.bool mid, AA 1]) := by rw [hp2]; rfl
              clear hqt hSj
              rcases hf2 : f sj p2 with ⟨h2, k2, s2⟩
              rw [hf2] at hcall2 hqt'
              dsimp only at hcall2 hqt'
              refine Ae 1 [(0, .fn (.func g) a b), (3, .bool mid), (6, .iptr [AA sc.id, AA sc.a, AA sc.b]), (9, Aa 6 o E), (19, Ay l), (20, AA l.length), (21, AA i), (12, .iptr h'.flat), (14, Aa 7 o2 G), (37, Bt x.cells), (38, AA x.cells.length), (39, AA j), (16, .iptr ([AA y.id] ++ y.head.flat ++ [AG y.flow])), (17, .iptr h2.flat), (18, .bool k2)] (Aj o2 G (Aj o E (Az st s2 H))) m5 ?_ (fun m6 hm6 => ?_)
              · rw [hpe2] at hcall2
                simp only [AF.flat, List.cons_append, List.nil_append, List.append_assoc] at hcall2
                simp [go_sem, AF.flat]
                refine SC.use hcall2 ?_
                rintro v H' n' ⟨rfl, rfl, rfl⟩
                simp [go_sem, Fz.same, AF.enc, AF.flat, AC]
                exact ⟨Ac (Af (hYb2 _) (Nat.le_refl _)) (AC _ _ _), AL (hYb2 _) (AL (hYb2 _) AB)⟩
              cases k2 with
              | false =>
               have hst3 : Q (j + 1) = ((Q j).1, s2) := by simpa using hqt'
               simp only [hst3, hGj]
               refine AH ?_
               simp [go_sem, Fz.same]
               exact ⟨o2, ⟨by omega, hA2.mono (by omega)⟩, rfl, AB⟩
              | true =>
               have hst3 : Q (j + 1) = ((Q j).1 ++ [.mk y.id h2 (it y.id y.flow mid s2).1], (it y.id y.flow mid s2).2) := by simpa using hqt'
               simp only [hst3, List.map_append, hGj, List.map_cons, List.map_nil]
               clear hqt' hst3 hcall2 hpe2 hf2
               refine DA 0 [(0, .fn (.func g) a b), (3, .bool mid), (6, .iptr [AA sc.id, AA sc.a, AA sc.b]), (9, Aa 6 o E), (19, Ay l), (20, AA l.length), (21, AA i), (12, .iptr h'.flat), (14, Aa 7 o2 G), (37, Bt x.cells), (38, AA x.cells.length), (39, AA j), (16, .iptr ([AA y.id] ++ y.head.flat ++ [AG y.flow])), (17, .iptr h2.flat), (52, .bool true)] (Aj o2 G (Aj o E (Az st s2 H))) m6 ?_ (fun m7 hm7 => ?_)
               · simp [go_sem, Fz.same]
               subst hm7
               refine Ak (b := true) (by simp [go_sem]) ?_
               rw [if_pos rfl]
               have hc3 := hit y.id y.flow mid s2 (Aj o2 G (Aj o E (Az st s2 H))) m6 y2 (by omega) (C.has (by omega) hA2 (C.has hn hA CL))
               rw [C.acc (by omega) hA2, C.acc hn hA, C.up2] at hc3
               generalize it y.id y.flow mid s2 = r3 at hc3 ⊢
               obtain ⟨q3, s3⟩ := r3
               dsimp only at hc3 ⊢
               refine CK trR rfl (by kernel_rfl) (by kernel_rfl) ?_
               simp [go_sem, trR, AF.flat]
               refine SC.use (by simpa [BG.enc] using hc3) ?_
               rintro v H' n' ⟨rfl, rfl, rfl⟩
               simp [go_sem]
               have hpush := hA2.push (j := n' + 1) (m' := n' + 1 + 1) (e := (AK.mk y.id h2 q3).enc) (AK.E.st _) (AK.E.len _) (by omega) (by omega)
               rw [HH (es := G) (e := (AK.mk y.id h2 q3).enc) (o := o2) (t := 167) (t2 := 167) (el := 171) (z := 7) (by simp [go_sem]) (by simp [go_sem]) (by simp [go_sem]) (by simp) (by simp [go_sem]) (by simp [go_sem]) (by simp [go_sem]) (by omega) hA2 (AK.E.len _) ?a1 ?a2]
               case a1 => simp [AC, AK.enc_eq, SV.cells, AK.id, AK.head, AK.flow]
               case a2 =>
                intro j e
                have := (hA2.lt j e).2
                rw [AD _ _ (by omega)]; exact HR j e
               have hlive := H3 (p := n' + 1) (v := .sl (n' + 1) 0 7 (G.length + 1) false) (e := (AK.mk y.id h2 q3).enc) (hBb s3) (by omega) hA2 (H := hset (Aj o2 G (Aj o E (Az st s3 H))) n' (some (.cells [AA y.id, Ah h2.props, AA h2.ins, AA h2.move, Ao h2.dels, AV h2.layers, AG q3]))) (AL (fun j z e => by have := hBb s3 j z e; omega) (It (hBb s3) hA2))
               have hvv : Aa 7 (some (n' + 1)) (G ++ [(AK.mk y.id h2 q3).enc]) = .sl (n' + 1) 0 7 (G.length + 1) false := by simp [Aa]
               simp [go_sem]
               exact ⟨some (n' + 1), ⟨by omega, hpush⟩, hvv.symm, by simpa [DC.app, SV.cells] using hlive⟩
            · refine AH ?_
              simp [go_sem, w2, Fz.same, -Int.natCast_add]
              exact ⟨j + 1, by omega, o2, ⟨by omega, hm.1, hm.2⟩, ⟨rfl, rfl⟩, AB⟩
          · have : j = x.cells.length := by omega
            subst this
            rw [hQl] at hA2 ⊢
            refine AH ?_
            simp [go_sem, Fz.same]
            exact ⟨by omega, Aa.fz' (fun j hj => Af (hBb _) hj) hA2 AB, It (hBb _) hA2⟩
        · generalize EG f it mid x.cells s1 = r2
          obtain ⟨q2, s2⟩ := r2
          dsimp only
          refine AH ?_
          simp [go_sem, AF.flat]
          have hpush := hA.push (j := m4 + 1) (m' := m4 + 1 + 1) (e := (AS.mk h' q2).enc) (AS.E.st _) (AS.E.len _) (by omega) (by omega)
          rw [HH (es := E) (e := (AS.mk h' q2).enc) (o := o) (t := 68) (t2 := 68) (el := 169) (z := 6) (by simp [go_sem]) (by simp [go_sem]) (by simp [go_sem]) (by simp) (by simp [go_sem]) (by simp [go_sem]) (by simp [go_sem]) (by omega) hA (AS.E.len _) ?a1 ?a2]
          case a1 => simp [AC, AS.enc_eq, SV.cells, AS.head, AS.cells]
          case a2 =>
           intro j e
           have := (hA.lt j e).2
           rw [AD _ _ (by omega)]; exact HR j e
          have hlive := H3 (p := m4 + 1) (v := .sl (m4 + 1) 0 6 (E.length + 1) false) (e := (AS.mk h' q2).enc) (hUb s2) (by omega) hA (H := hset (Aj o E (Az st s2 H)) m4 (some (.cells [Ah h'.props, AA h'.ins, AA h'.move, Ao h'.dels, AV h'.layers, Bt q2]))) (AL (fun j z e => by have := hUb s2 j z e; omega) (It (hUb s2) hA))
          have hvv : Aa 6 (some (m4 + 1)) (E ++ [(AS.mk h' q2).enc]) = .sl (m4 + 1) 0 6 (E.length + 1) false := by simp [Aa]
          simp [go_sem]
          exact ⟨some (m4 + 1), ⟨by omega, hpush⟩, hvv.symm, by simpa [DC.app, SV.cells] using hlive⟩
     · refine AH ?_
       simp [go_sem, w1, Fz.same, -Int.natCast_add]
       exact ⟨i + 1, by omega, o, ⟨by omega, hm.1, hm.2⟩, ⟨rfl, rfl⟩, AB⟩
   · have : i = l.length := by omega
     subst this
     refine AH ?_
     simp [go_sem]
     exact ⟨o, ⟨hnm, hA⟩, rfl, AB⟩
 · refine AH ?_
   simp [go_sem]
   rw [hRl] at hm ⊢
   exact Lc (hU _) hm.2 (fun e he => by obtain ⟨x, _, rfl⟩ := List.mem_map.1 he; exact AS.cl n x)
end
section
variable {σ : Type} {st : σ → Nat → Option BV} {n0 : Nat} {g : FuncId} {a b : List SV} {f : σ → Br → AF × Bool × σ} {ok : AF → Prop} {it : Int → List AE → Bool → σ → List AE × σ} {mid : Bool} {P : List AE → Prop} {sc : BG}
def okI (ok : AF → Prop) (P : List AE → Prop) (x : AE) : Prop := ok x.head ∧ x.text.size ≤ 1048576 ∧ P x.flow ∧ x.rows.length ≤ 1048576 ∧ ∀ r ∈ x.rows, ok r.head ∧ r.cells.length ≤ 1048576 ∧ ∀ c ∈ r.cells, ok c.head ∧ P c.flow
set_option maxHeartbeats 2000000 in
theorem Sk (C : L0 st n0 g a b f ok) (hit : ItC st n0 g a b it sc P) (l : List AE) (hl : l.length ≤ 1048576) (hr : ∀ x ∈ l, okI ok P x) (s : σ) {H : Hp} {n : Nat} (hn : n0 ≤ n) (hs : ∀ o y, st s o = some y → H o = some y) :
 BO Tryz.prog 190 [.fn (.func g) a b, AG l, sc.enc, .bool mid] H n (fun v h' n' => v = AG (A8 f it mid l s).1 ∧ h' = Az st (A8 f it mid l s).2 H ∧ n' = n) := by
 refine ED Tryz.func190 rfl fun ho => ?_
 obtain ⟨R, hR⟩ : ∃ R : Nat → List AE × σ, ∀ i, R i = (l.take i).foldl (CE f it mid) ([], s) := ⟨_, fun _ => rfl⟩
 have hR0 : R 0 = ([], s) := by rw [hR]; rfl
 have hRs : ∀ i x, (h : i < l.length) → l[i] = x → R (i + 1) = CE f it mid (R i) x := fun i x h hx => by rw [hR, hR, Ib _ _ _ _ _ h hx]
 have hRl : R l.length = A8 f it mid l s := by rw [hR, List.take_length]; rfl
 have hRn : ∀ i, (R i).1.length ≤ i := fun i => by rw [hR]; have := F9 (f := f) (it := it) (mid := mid) (l.take i) ([], s); simp at this; omega
 clear hR
 have hU : ∀ s', Fd (Az st s' H) n := fun s' => C.old s' hn ho
 have hUb : ∀ s' j y, Az st s' H j = some y → j < n := fun s' j y e => (hU s' j y e).1
 refine Ae 1 [(0, .fn (.func g) a b), (1, AG l), (3, .bool mid), (6, .iptr [AA sc.id, AA sc.a, AA sc.b])] (Az st s H) n ?_ (fun m hm => ?_)
 · simp [go_sem, BG.enc, Fz.same, Et s H hs]
   refine ⟨Ac (ho.none (Nat.le_refl n)) (by simp [hset]), fun j y e => by rw [AD _ _ (by have := (ho j y e).1; omega)]; exact e⟩
 refine Ae 0 [(0, .fn (.func g) a b), (1, AG l), (3, .bool mid), (6, .iptr [AA sc.id, AA sc.a, AA sc.b]), (9, .imm 0 [] true)] (Az st s H) n ?_ (fun m hm => ?_)
 · simp [go_sem, Fz.same, hm]
 refine AX 0 (α := Option Nat) (fun o => [(9, Aa 11 o ((R l.length).1.map AE.enc))]) (fun o => Aj o ((R l.length).1.map AE.enc) (Az st (R l.length).2 H)) (fun o m => n ≤ m ∧ BZ n m 11 o ((R l.length).1.map AE.enc)) ?_ (fun o m hm => ?_)
 · refine Ae 0 [(0, .fn (.func g) a b), (1, AG l), (3, .bool mid), (6, .iptr [AA sc.id, AA sc.a, AA sc.b]), (9, .imm 0 [] true), (16, AG l), (17, AA l.length), (18, AA 0)] (Az st s H) n ?_ (fun m hm => ?_)
   · simp [go_sem, Fz.same, hm]
   refine Ab (Bf 0 (α := Nat × Option Nat) (fun q => [(0, .fn (.func g) a b), (1, AG l), (3, .bool mid), (6, .iptr [AA sc.id, AA sc.a, AA sc.b]), (9, Aa 11 q.2 ((R q.1).1.map AE.enc)), (16, AG l), (17, AA l.length), (18, AA q.1)])
    (fun q => Aj q.2 ((R q.1).1.map AE.enc) (Az st (R q.1).2 H)) (fun q m => q.1 ≤ l.length ∧ n ≤ m ∧ BZ n m 11 q.2 ((R q.1).1.map AE.enc)) (fun q => l.length - q.1) (0, none) ⟨Nat.zero_le _, hm, by simp only [hR0]; exact BZ.nil _ _ _⟩ ?_ ?_ ?_)
   · simp [go_sem, Ai, Aa, Fz.same]
   · simp only [hR0]; exact AB
   clear hm m
   rintro ⟨i, o⟩ m ⟨hi, hnm, hA⟩
   dsimp only at hi hA ⊢
   have hEn : ((R i).1.map AE.enc).length ≤ i := by rw [List.length_map]; exact hRn i
   by_cases hlt : i < l.length
   · obtain ⟨x, hx⟩ : ∃ x, l[i] = x := ⟨_, rfl⟩
     have hxm : x ∈ l := by rw [← hx]; exact List.getElem_mem hlt
     obtain ⟨x1, x2, x3, x4, x5⟩ := hr x hxm
     have hgx : (l.map AE.enc)[i]? = some x.enc := by simp [hlt, hx]
     have hst := hRs i x hlt hx
     have w1 := wS i (by omega)
     generalize hSi : (R i).2 = si at hst
     generalize hEi : (R i).1.map AE.enc = E at hA hEn ⊢
     have hXb : ∀ s' j y, Aj o E (Az st s' H) j = some y → j < m := fun s' => M7 (hUb s') hnm hA
     refine DA 0 [(0, .fn (.func g) a b), (1, AG l), (3, .bool mid), (6, .iptr [AA sc.id, AA sc.a, AA sc.b]), (9, Aa 11 o E), (16, AG l), (17, AA l.length), (18, AA i), (19, .bool true)] (Aj o E (Az st si H)) m ?_ (fun m' hm' => ?_)
     · simp [go_sem, Fz.same, hlt]
     subst hm'
     refine DA 0 [(0, .fn (.func g) a b), (1, AG l), (3, .bool mid), (6, .iptr [AA sc.id, AA sc.a, AA sc.b]), (9, Aa 11 o E), (16, AG l), (17, AA l.length), (18, AA i)] (Aj o E (Az st si H)) m ?_ (fun m2 hm2 => ?_)
     · simp [go_sem, Fz.same]
     subst hm2
     refine AX 0 (α := Option Nat) (fun o => [(0, .fn (.func g) a b), (1, AG l), (3, .bool mid), (6, .iptr [AA sc.id, AA sc.a, AA sc.b]), (9, Aa 11 o ((R (i + 1)).1.map AE.enc)), (16, AG l), (17, AA l.length), (18, AA i)]) (fun o => Aj o ((R (i + 1)).1.map AE.enc) (Az st (R (i + 1)).2 H)) (fun o m => n ≤ m ∧ BZ n m 11 o ((R (i + 1)).1.map AE.enc)) ?_ (fun o m hm => ?_)
     · refine Ab ?_
       refine BM 0 (α := Nat) (fun p => [(0, .fn (.func g) a b), (1, AG l), (3, .bool mid), (6, .iptr [AA sc.id, AA sc.a, AA sc.b]), (9, Aa 11 o E), (16, AG l), (17, AA l.length), (18, AA i), (10, AA i), (11, .ptr p 0)]) (fun p => hset (Aj o E (Az st si H)) p (some (.cells [AA x.kind, AA x.code, AA x.id, .str x.text, Ah x.head.props, AA x.head.ins, AA x.head.move, Ao x.head.dels, AV x.head.layers, AG x.flow, Ay x.rows]))) (fun p m2 => m ≤ p ∧ p < m2) ?_ (fun p m2 hm2 => ?_)
       · simp [go_sem, Fz.same, hlt, hx, AE.enc_eq, AC, Aq]
         exact ⟨m, by omega, rfl, AB⟩
       have hXb2 : ∀ s' j y, Aj o E (Az st s' H) j = some y → j < p := fun s' j y e => by have := hXb s' j y e; omega
       refine Ae 0 [(0, .fn (.func g) a b), (1, AG l), (3, .bool mid), (6, .iptr [AA sc.id, AA sc.a, AA sc.b]), (9, Aa 11 o E), (16, AG l), (17, AA l.length), (18, AA i), (10, AA i), (11, .ptr p 0), (12, AA (Ap [x]).1)] (hset (Aj o E (Az st si H)) p (some (.cells [AA x.kind, AA x.code, AA x.id, .str x.text, Ah x.head.props, AA x.head.ins, AA x.head.move, Ao x.head.dels, AV x.head.layers, AG x.flow, Ay x.rows]))) m2 ?_ (fun m3 hm3 => ?_)
       · have hle : i + 1 ≤ l.length := hlt
         have hsl : List.drop i (List.take (i + 1) (l.map AE.enc)) = [x.enc] := by rw [List.drop_take, Nat.add_sub_cancel_left, List.drop_eq_getElem_cons (by simpa using hlt)]; simp [hx]
         simp [go_sem, w1, hle, hsl, -Int.natCast_add, -List.map_take, -List.map_drop]
         refine PC.use (c35 [x] (by simp) (by simpa using x2)) ?_
         simp [go_sem, Fz.same]
       obtain ⟨pt, hp⟩ : ∃ q : Br, q = ⟨x.head, mid, (Ap [x]).1⟩ := ⟨_, rfl⟩
       have hcall := fun y => C.call si pt (hset (Aj o E (Az st si H)) p y) m3 (by rw [hp]; exact x1) (by omega) (fun k z e => by rw [AD _ _ (by rintro rfl; rw [C.lt si k (by omega)] at e; cases e)]; exact C.has hn hA CL k z e)
       have hst' : R (i + 1) = if (f si pt).2.1 then ((R i).1 ++ [x.put (f si pt).1 (Ci f it mid x (f si pt).2.2).1.1 (Ci f it mid x (f si pt).2.2).1.2], (Ci f it mid x (f si pt).2.2).2) else ((R i).1, (f si pt).2.2) := by rw [hst, hp, CE, hSi]
       have hup : ∀ s' y, Az st s' (hset (Aj o E (Az st si H)) p y) = hset (Aj o E (Az st s' H)) p y := fun s' y => by rw [← C.hset _ _ (by omega), C.acc hn hA, C.up2]
       simp only [hup] at hcall
       have hpe : pt.enc = .agg (x.head.flat ++ [.bool mid, AA (Ap [x]).1]) := by rw [hp]; rfl
       clear hst hSi hup
       rcases hf : f si pt with ⟨h', k, s1⟩
       rw [hf] at hcall hst'
       dsimp only at hcall hst'
       have hYb : ∀ s' y j z, hset (Aj o E (Az st s' H)) p y j = some z → j < m3 := fun s' y j z e => by
        by_cases h : j = p
        · omega
        · rw [AD _ _ h] at e; have := hXb2 s' j z e; omega
       refine Ae 1 [(0, .fn (.func g) a b), (1, AG l), (3, .bool mid), (6, .iptr [AA sc.id, AA sc.a, AA sc.b]), (9, Aa 11 o E), (16, AG l), (17, AA l.length), (18, AA i), (11, .ptr p 0), (14, .iptr h'.flat), (15, .bool k)] (hset (Aj o E (Az st s1 H)) p (some (.cells [AA x.kind, AA x.code, AA x.id, .str x.text, Ah x.head.props, AA x.head.ins, AA x.head.move, Ao x.head.dels, AV x.head.layers, AG x.flow, Ay x.rows]))) m3 ?_ (fun m4 hm4 => ?_)
       · rw [hpe] at hcall
         simp only [AF.flat, List.cons_append, List.nil_append, List.append_assoc] at hcall
         simp [go_sem, AF.flat, AC]
         refine SC.use (hcall _) ?_
         rintro v H' n' ⟨rfl, rfl, rfl⟩
         simp [go_sem, Fz.same, AF.enc, AF.flat, AC]
         exact ⟨Ac (Af (hYb _ _) (Nat.le_refl _)) (AC _ _ _), AL (hYb _ _) (AL (hYb _ _) AB)⟩
       cases k with
       | false =>
        have hst2 : R (i + 1) = ((R i).1, s1) := by simpa using hst'
        simp only [hst2, hEi]
        refine AH ?_
        simp [go_sem, Fz.same, AF.flat, AC, Aq]
        exact ⟨o, ⟨by omega, hA.mono (by omega)⟩, rfl, AL (hXb2 _) AB⟩
       | true =>
        have hst2 : R (i + 1) = ((R i).1 ++ [x.put h' (Ci f it mid x s1).1.1 (Ci f it mid x s1).1.2], (Ci f it mid x s1).2) := by simpa using hst'
        simp only [hst2, List.map_append, hEi, List.map_cons, List.map_nil]
        clear hst' hst2 hcall hpe hf
        refine DA 0 [(0, .fn (.func g) a b), (1, AG l), (3, .bool mid), (6, .iptr [AA sc.id, AA sc.a, AA sc.b]), (9, Aa 11 o E), (16, AG l), (17, AA l.length), (18, AA i), (11, .ptr p 0)] (hset (Aj o E (Az st s1 H)) p (some (.cells [AA x.kind, AA x.code, AA x.id, .str x.text, Ah h'.props, AA h'.ins, AA h'.move, Ao h'.dels, AV h'.layers, AG x.flow, Ay x.rows]))) m4 ?_ (fun m5 hm5 => ?_)
        · simp [go_sem, Fz.same, AF.flat, AC, Aq]
        subst hm5
        have hupP : ∀ s' y, Az st s' (hset (Aj o E (Az st s1 H)) p y) = hset (Aj o E (Az st s' H)) p y := fun s' y => by rw [← C.hset _ _ (by omega), C.acc hn hA, C.up2]
        have hasP : ∀ y k z, st s1 k = some z → hset (Aj o E (Az st s1 H)) p y k = some z := fun y k z e => by rw [AD _ _ (by rintro rfl; rw [C.lt s1 k (by omega)] at e; cases e)]; exact C.has hn hA CL k z e
        refine Ae 1 [(0, .fn (.func g) a b), (1, AG l), (3, .bool mid), (6, .iptr [AA sc.id, AA sc.a, AA sc.b]), (9, Aa 11 o E), (16, AG l), (17, AA l.length), (18, AA i), (11, .iptr [AA x.kind, AA x.code, AA x.id, .str x.text, Ah h'.props, AA h'.ins, AA h'.move, Ao h'.dels, AV h'.layers, AG (Ci f it mid x s1).1.1, Ay (Ci f it mid x s1).1.2])] (Aj o E (Az st (Ci f it mid x s1).2 H)) m4 ?_ (fun m5 hm5 => ?_)
        · by_cases k6 : x.kind = 6
          · have hc3 := fun y => hit x.id x.flow mid s1 (hset (Aj o E (Az st s1 H)) p y) m4 x3 (by omega) (hasP y)
            simp only [hupP] at hc3
            have hin : Ci f it mid x s1 = (((it x.id x.flow mid s1).1, x.rows), (it x.id x.flow mid s1).2) := by rw [Ci, if_pos k6]
            rw [hin]
            generalize it x.id x.flow mid s1 = r3 at hc3 ⊢
            obtain ⟨q3, s3⟩ := r3
            dsimp only at hc3 ⊢
            simp [go_sem, AC, k6]
            refine SC.use (by simpa [BG.enc] using hc3 _) ?_
            rintro v H' n' ⟨rfl, rfl, rfl⟩
            simp [go_sem, Fz.same, AC, Aq]
            exact ⟨Ac (Af (hXb2 _) (Nat.le_refl _)) (AC _ _ _), AL (hXb2 _) AB⟩
          · by_cases k7 : x.kind = 7
            · have hc3 := fun y => d257 (mid := mid) C hit x.rows x4 x5 s1 (n := m4) (by omega) (hasP y)
              simp only [hupP] at hc3
              have hin : Ci f it mid x s1 = ((x.flow, (Gk f it mid x.rows s1).1), (Gk f it mid x.rows s1).2) := by rw [Ci, if_neg k6, if_pos k7]
              rw [hin]
              generalize Gk f it mid x.rows s1 = r3 at hc3 ⊢
              obtain ⟨q3, s3⟩ := r3
              dsimp only at hc3 ⊢
              simp [go_sem, AC, k7]
              refine SC.use (by simpa [BG.enc] using hc3 _) ?_
              rintro v H' n' ⟨rfl, rfl, rfl⟩
              simp [go_sem, Fz.same, AC, Aq]
              exact ⟨Ac (Af (hXb2 _) (Nat.le_refl _)) (AC _ _ _), AL (hXb2 _) AB⟩
            · have hin : Ci f it mid x s1 = ((x.flow, x.rows), s1) := by rw [Ci, if_neg k6, if_neg k7]
              rw [hin]
              dsimp only
              simp [go_sem, Fz.same, AC, k6, k7]
              exact ⟨Ac (Af (hXb2 _) (Nat.le_refl _)) (AC _ _ _), AL (hXb2 _) AB⟩
        · generalize Ci f it mid x s1 = r2
          obtain ⟨⟨q2, q3⟩, s2⟩ := r2
          dsimp only
          refine AH ?_
          simp [go_sem]
          have hpush := hA.push (j := m5 + 1) (m' := m5 + 1 + 1) (e := (x.put h' q2 q3).enc) (AE.E.st _) (AE.E.len _) (by omega) (by omega)
          rw [HH (es := E) (e := (x.put h' q2 q3).enc) (o := o) (t := 22) (t2 := 22) (el := 70) (z := 11) (by simp [go_sem]) (by simp [go_sem]) (by simp [go_sem]) (by simp) (by simp [go_sem]) (by simp [go_sem]) (by simp [go_sem]) (by omega) hA (AE.E.len _) ?a1 ?a2]
          case a1 => simp [AC, AE.enc_eq, SV.cells, AE.put, AE.kind, AE.code, AE.id, AE.text, AE.head, AE.flow, AE.rows]
          case a2 =>
           intro j e
           have := (hA.lt j e).2
           rw [AD _ _ (by omega)]; exact HR j e
          have hlive := H3 (p := m5 + 1) (v := .sl (m5 + 1) 0 11 (E.length + 1) false) (e := (x.put h' q2 q3).enc) (hUb s2) (by omega) hA (H := hset (Aj o E (Az st s2 H)) m5 (some (.cells [AA x.kind, AA x.code, AA x.id, .str x.text, Ah h'.props, AA h'.ins, AA h'.move, Ao h'.dels, AV h'.layers, AG q2, Ay q3]))) (AL (fun j z e => by have := hUb s2 j z e; omega) (It (hUb s2) hA))
          have hvv : Aa 11 (some (m5 + 1)) (E ++ [(x.put h' q2 q3).enc]) = .sl (m5 + 1) 0 11 (E.length + 1) false := by simp [Aa]
          simp [go_sem]
          exact ⟨some (m5 + 1), ⟨by omega, hpush⟩, hvv.symm, by simpa [DC.app, SV.cells] using hlive⟩
     · refine AH ?_
       simp [go_sem, w1, Fz.same, -Int.natCast_add]
       exact ⟨i + 1, by omega, o, ⟨by omega, hm.1, hm.2⟩, ⟨rfl, rfl⟩, AB⟩
   · have : i = l.length := by omega
     subst this
     refine AH ?_
     simp [go_sem]
     exact ⟨o, ⟨hnm, hA⟩, rfl, AB⟩
 · refine AH ?_
   simp [go_sem]
   rw [hRl] at hm ⊢
   exact Lc (hU _) hm.2 (fun e he => by obtain ⟨x, _, rfl⟩ := List.mem_map.1 he; exact AE.cl n x)
end
def trI : Tr := .pure 0 <| .pure 1 <| .pure 2 <| .pure 4 <| .pure 5 <| .pure 6 <| .pure 8 <| .pure 9 <| .pure 10 <| .one 3 <| .one 7 <| .one 11 <| .one 12 <| .one 13 <| .one 14 .nil
section
variable {σ : Type} {st : σ → Nat → Option BV} {n0 : Nat} {g : FuncId} {a b : List SV} {f : σ → Br → AF × Bool × σ} {ok : AF → Prop} {sc : BG}
theorem Cb {h h2 : Hp} {n n' : Nat} {v : SV} (ho : Fd h n) (hc : closed n v = true) (hh : ∀ j y, h j = some y → h2 j = some y) : CG n h2 n' v (fun w h' n' => w = v ∧ h' = h ∧ n' = n) :=
 .inr ⟨0, v, h, Fz.same, hc, fun j x e => ⟨hh j x e, ho j x e⟩, rfl, rfl, rfl⟩
set_option maxHeartbeats 2000000 in
theorem d121 (C : L0 st n0 g a b f ok) (hp : AF → Prop) (K : Nat) (hK : K ≤ 349525) (hok : ∀ h : AF, hp h → ok h ∧ h.sized) : ∀ N, ItC st n0 g a b (AN f sc N) sc (EZ hp K N)
 | 0 => fun id l mid s H n h => h.elim
 | N + 1 => fun id l mid s H n hl hn hs => by
  have ih := d121 C hp K hK hok N
  have hsz := hl.sized (fun h e => (hok h e).2) (by omega)
  have htx : ∀ x ∈ l, x.text.size ≤ 1048576 := AE.sizedL_text hsz.2
  have hparts : ∀ l, EZ hp K (N + 1) l → ∀ x ∈ l, okI ok (EZ hp K N) x := fun l hl x hx => by
   obtain ⟨h1, h2, h3⟩ := Dl.1 hl
   obtain ⟨h4, h5, h6, h7⟩ := h3 x hx
   exact ⟨(hok _ h4).1, by have := Lr hx; omega, h5, by omega, fun r hr => ⟨(hok _ (h7 r hr).1).1, by have := (h7 r hr).2.1; omega, fun c hc => ⟨(hok _ ((h7 r hr).2.2 c hc).1).1, ((h7 r hr).2.2 c hc).2⟩⟩⟩
  refine ED Tryz.func121 rfl fun ho => ?_
  have hU : ∀ s', Fd (Az st s' H) n := fun s' => C.old s' hn ho
  have hUb : ∀ s' j y, Az st s' H j = some y → j < n := fun s' j y e => (hU s' j y e).1
  refine Ae 1 [(0, .fn (.func g) a b), (1, AA id), (2, AG l), (4, .bool mid), (8, .iptr [AA sc.id, AA sc.a, AA sc.b])] (Az st s H) n ?_ (fun m hm => ?_)
  · simp [go_sem, BG.enc, Fz.same, Et s H hs]
    refine ⟨Ac (ho.none (Nat.le_refl n)) (by simp [hset]), fun j y e => by rw [AD _ _ (by have := (ho j y e).1; omega)]; exact e⟩
  by_cases hin : CJ sc id l mid = true
  · have he : AN f sc (N + 1) id l mid s = ((A8 f (AN f sc N) false (AR l 0 sc.a).1 s).1 ++ (A8 f (AN f sc N) true (AR l sc.a sc.b).1 (A8 f (AN f sc N) false (AR l 0 sc.a).1 s).2).1 ++ (A8 f (AN f sc N) false (AR l sc.b (Ap l).1).1 (A8 f (AN f sc N) true (AR l sc.a sc.b).1 (A8 f (AN f sc N) false (AR l 0 sc.a).1 s).2).2).1, (A8 f (AN f sc N) false (AR l sc.b (Ap l).1).1 (A8 f (AN f sc N) true (AR l sc.a sc.b).1 (A8 f (AN f sc N) false (AR l 0 sc.a).1 s).2).2).2) := by rw [AN, if_pos hin]
    simp only [CJ, Bool.and_eq_true, decide_eq_true_eq, Bool.not_eq_true'] at hin
    obtain ⟨⟨⟨⟨i1, i2⟩, i3⟩, i4⟩, i5⟩ := hin
    subst i1 i2
    rw [he]
    have l1 := Dm 0 sc.a hl
    have l2 := Dm sc.a sc.b hl
    have l3 := Dm sc.b (Ap l).1 hl
    have n1 := G7 l 0 sc.a
    have n2 := G7 l sc.a sc.b
    have n3 := G7 l sc.b (Ap l).1
    have hlK := hl.1
    have c1 := Tq l 0 sc.a hsz.1 hsz.2
    have c2 := Tq l sc.a sc.b hsz.1 hsz.2
    have c3 := Tq l sc.b (Ap l).1 hsz.1 hsz.2
    refine Gt ?_
    refine DA 0 [(0, .fn (.func g) a b), (2, AG l), (8, .iptr [AA sc.id, AA sc.a, AA sc.b]), (26, .bool true)] (Az st s H) m ?_ (fun m' hm' => ?_)
    · simp [go_sem, Fz.same]
    subst hm'
    refine Ak (b := true) (by simp [go_sem]) ?_
    rw [if_pos rfl]
    refine Ae 0 [(0, .fn (.func g) a b), (2, AG l), (8, .iptr [AA sc.id, AA sc.a, AA sc.b]), (11, AA (Ap l).1)] (Az st s H) m ?_ (fun m' hm' => ?_)
    · simp [go_sem]
      refine PC.use (c35 l hsz.1 htx) ?_
      simp [go_sem, Fz.same]
    refine DA 0 [(0, .fn (.func g) a b), (2, AG l), (8, .iptr [AA sc.id, AA sc.a, AA sc.b]), (11, AA (Ap l).1), (47, .bool true)] (Az st s H) m' ?_ (fun m2 hm2 => ?_)
    · simp [go_sem, Fz.same, i3, i4, i5]
    subst hm2
    refine Ak (b := true) (by simp [go_sem]) ?_
    rw [if_pos rfl]
    refine Ae 0 [(0, .fn (.func g) a b), (2, AG l), (8, .iptr [AA sc.id, AA sc.a, AA sc.b]), (11, AA (Ap l).1), (13, AG (AR l 0 sc.a).1)] (Az st s H) m' ?_ (fun m2 hm2 => ?_)
    · simp [go_sem]
      refine PC.use c1 ?_
      simp [go_sem, Fz.same]
    refine Ae 0 [(0, .fn (.func g) a b), (2, AG l), (8, .iptr [AA sc.id, AA sc.a, AA sc.b]), (11, AA (Ap l).1), (13, AG (AR l 0 sc.a).1), (15, AG (AR l sc.a sc.b).1)] (Az st s H) m2 ?_ (fun m3 hm3 => ?_)
    · simp [go_sem]
      refine PC.use c2 ?_
      simp [go_sem, Fz.same]
    refine Ae 0 [(0, .fn (.func g) a b), (8, .iptr [AA sc.id, AA sc.a, AA sc.b]), (13, AG (AR l 0 sc.a).1), (15, AG (AR l sc.a sc.b).1), (17, AG (AR l sc.b (Ap l).1).1)] (Az st s H) m3 ?_ (fun m4 hm4 => ?_)
    · simp [go_sem]
      refine PC.use c3 ?_
      simp [go_sem, Fz.same]
    generalize hr1 : (AR l 0 sc.a).1 = r1 at l1 n1 ⊢
    generalize hr2 : (AR l sc.a sc.b).1 = r2 at l2 n2 ⊢
    generalize hr3 : (AR l sc.b (Ap l).1).1 = r3 at l3 n3 ⊢
    have w1 := fun m (hm : n ≤ m) => Sk (mid := false) (sc := sc) C ih r1 (by omega) (hparts r1 l1) s (H := Az st s H) (n := m) (by omega) CL
    have e1 := F9 (f := f) (it := AN f sc N) (mid := false) r1 ([], s)
    have z1 : A8 f (AN f sc N) false r1 s = r1.foldl (CE f (AN f sc N) false) ([], s) := rfl
    rw [← z1] at e1
    generalize A8 f (AN f sc N) false r1 s = q1 at w1 e1 ⊢
    obtain ⟨q1, s1⟩ := q1
    have w2 := fun m (hm : n ≤ m) => Sk (mid := true) (sc := sc) C ih r2 (by omega) (hparts r2 l2) s1 (H := Az st s1 H) (n := m) (by omega) CL
    have e2 := F9 (f := f) (it := AN f sc N) (mid := true) r2 ([], s1)
    have z2 : A8 f (AN f sc N) true r2 s1 = r2.foldl (CE f (AN f sc N) true) ([], s1) := rfl
    rw [← z2] at e2
    dsimp only at w1 e1 ⊢
    generalize A8 f (AN f sc N) true r2 s1 = q2 at w2 e2 ⊢
    obtain ⟨q2, s2⟩ := q2
    have w3 := fun m (hm : n ≤ m) => Sk (mid := false) (sc := sc) C ih r3 (by omega) (hparts r3 l3) s2 (H := Az st s2 H) (n := m) (by omega) CL
    have e3 := F9 (f := f) (it := AN f sc N) (mid := false) r3 ([], s2)
    have z3 : A8 f (AN f sc N) false r3 s2 = r3.foldl (CE f (AN f sc N) false) ([], s2) := rfl
    rw [← z3] at e3
    dsimp only at w2 e2 ⊢
    generalize A8 f (AN f sc N) false r3 s2 = q3 at w3 e3 ⊢
    obtain ⟨q3, s3⟩ := q3
    dsimp only at w3 e3 ⊢
    simp only [C.up2, BG.enc] at w1 w2 w3
    have hcc := c189 [q1, q2, q3] (by simp) (by simp at e1 e2 e3 ⊢; omega)
    refine AX 0 (α := Unit) (fun _ => [(10, AG (q1 ++ q2 ++ q3))]) (fun _ => Az st s3 H) (fun _ m5 => m4 ≤ m5) (CK trI rfl (by kernel_rfl) (by kernel_rfl) ?_) (fun _ m5 hm5 => ?_)
    · simp [go_sem, trI]
      refine SC.use (w1 m4 (by omega)) ?_
      rintro v H' n' ⟨rfl, rfl, rfl⟩
      simp [go_sem]
      refine SC.use (w2 _ (by omega)) ?_
      rintro v H' n' ⟨rfl, rfl, rfl⟩
      simp [go_sem]
      refine SC.use (w3 _ (by omega)) ?_
      rintro v H' n' ⟨rfl, rfl, rfl⟩
      simp [go_sem]
      refine Ag.fz (bs := [.imm 1 ([q1, q2, q3].map AG) false]) (h2 := Az st s3 H) 1 (AL (fun j z e => by have := hUb s3 j z e; omega) AB) ⟨?_, trivial⟩ ?_
      · exact Dq (es := [AG q1, AG q2, AG q3]) (Af (hUb s3) (by omega)) (by simp) (by rw [AC]; simp [SV.cells]) (by simp [SV.storable, SV.cells])
      refine PC.use hcc ?_
      simp [go_sem, Fz.same]
    · refine AH ?_
      simp [go_sem]
      have := Cb (h2 := Az st s3 H) (n' := m5) (v := AG (q1 ++ q2 ++ q3)) (hU s3) (AE.E.imm _ _ _ _) AB
      simpa using this
  · have he : AN f sc (N + 1) id l mid s = A8 f (AN f sc N) mid l s := by rw [AN, if_neg hin]
    rw [he]
    refine Ae 0 [(0, .fn (.func g) a b), (2, AG l), (4, .bool mid), (8, .iptr [AA sc.id, AA sc.a, AA sc.b])] (Az st s H) m ?_ (fun m' hm' => ?_)
    · by_cases c1 : id = sc.id
      · cases mid with
        | true => simp [go_sem, Fz.same, c1]
        | false =>
         simp [go_sem, c1]
         refine PC.use (c35 l hsz.1 htx) ?_
         by_cases a0 : 0 ≤ sc.a
         · by_cases ab : sc.a ≤ sc.b
           · have bl : ¬ sc.b ≤ (Ap l).1 := fun bl => hin (by simp [CJ, c1, a0, ab, bl])
             simp [go_sem, Fz.same, a0, ab, bl]
           · simp [go_sem, Fz.same, a0, ab]
         · simp [go_sem, Fz.same, a0]
      · simp [go_sem, Fz.same, c1]
    refine Ae 0 [(10, AG (A8 f (AN f sc N) mid l s).1)] (Az st (A8 f (AN f sc N) mid l s).2 H) n ?_ (fun m' hm' => ?_)
    · have w := Sk (mid := mid) (sc := sc) C ih l hsz.1 (hparts l hl) s (H := Az st s H) (n := m') (by omega) CL
      simp only [C.up2, BG.enc] at w
      generalize A8 f (AN f sc N) mid l s = q at w ⊢
      obtain ⟨q, s1⟩ := q
      dsimp only at w ⊢
      simp [go_sem]
      refine SC.use w ?_
      rintro v H' n' ⟨rfl, rfl, rfl⟩
      simp [go_sem, Fz.same]
      omega
    · refine AH ?_
      simp [go_sem]
      have := Cb (h2 := Az st (A8 f (AN f sc N) mid l s).2 H) (n' := m') (v := AG (A8 f (AN f sc N) mid l s).1) (hU _) (AE.E.imm _ _ _ _) AB
      simpa using this
end
section
variable {σ : Type} {st : σ → Nat → Option BV} {n0 : Nat} {g : FuncId} {a b : List SV} {f : σ → Br → AF × Bool × σ} {ok : AF → Prop} {sc : BG}
def BP (f : σ → Br → AF × Bool × σ) (sc : BG) (N : Nat) (d : AI) (revs : List BF) (s : σ) : AI × σ :=
 (⟨(AN f sc N 0 d.flow false s).1, (f (AN f sc N 0 d.flow false s).2 ⟨d.«end», false, 1⟩).1, revs, d.settings⟩, (f (AN f sc N 0 d.flow false s).2 ⟨d.«end», false, 1⟩).2.2)
theorem I9 {n : Nat} (hlt : ∀ s o, n ≤ o → st s o = none) {s : σ} {H : Hp} {p : Nat} (hp : n ≤ p) (y : Option BV) (h : ∀ k z, st s k = some z → H k = some z) : ∀ k z, st s k = some z → hset H p y k = some z := fun k z e => by
 rw [AD _ _ (by rintro rfl; rw [hlt s k hp] at e; cases e)]; exact h k z e
theorem Gd {n p : Nat} (hp : n ≠ p) (X : Hp) (a b c : Option BV) : hset (hset (hset X n a) p b) n c = hset (hset X n c) p b := by
 funext j; simp only [hset]; grind
def FX : List SV := [.imm 0 [] true, .imm 0 [] true, AA 0, AA 0, .imm 0 [] true, .imm 0 [] true, .imm 0 [] true, .imm 0 [] true, .imm 0 [] true, .imm 0 [] true, .imm 0 [] true]
set_option maxHeartbeats 2000000 in
theorem d49 (C : L0 st n0 g a b f ok) (hp : AF → Prop) (K : Nat) (hK : K ≤ 349525) (hok : ∀ h : AF, hp h → ok h ∧ h.sized) (N : Nat) (d : AI) (revs : List BF) (s : σ) (hl : EZ hp K N d.flow) (hend : hp d.«end»)
 (h1 : (BP f sc N d revs s).1.sized) (h2 : (BP f sc N d revs s).1.normal.sized) (h3 : (BU [] (AE.usL (AU (BP f sc N d revs s).1.flow) ++ (BP f sc N d revs s).1.«end».all)).length ≤ 1048576) {H : Hp} {n : Nat} (hn : n0 ≤ n) (hs : ∀ o y, st s o = some y → H o = some y) :
 BO Tryz.prog 49 [.fn (.func g) a b, d.enc, sc.enc, A3 revs] H n (fun v h' n' => v = (BP f sc N d revs s).1.normal.enc ∧ h' = Az st (BP f sc N d revs s).2 H ∧ n' = n) := by
 refine ED Tryz.func49 rfl fun ho => ?_
 have hU : ∀ s', Fd (Az st s' H) n := fun s' => C.old s' hn ho
 have hUb : ∀ s' j y, Az st s' H j = some y → j < n := fun s' j y e => (hU s' j y e).1
 have e1 : n + 2 ≠ n := by omega
 have e2 : n ≠ n + 2 := by omega
 have hlive : ∀ s' y z, ∀ j w, Az st s' H j = some w → hset (hset (Az st s' H) n y) (n + 2) z j = some w := fun s' y z => AL (fun j z e => by have := hUb s' j z e; omega) (AL (hUb s') AB)
 have hup : ∀ s1 s' y z, Az st s' (hset (hset (Az st s1 H) n y) (n + 2) z) = hset (hset (Az st s' H) n y) (n + 2) z := fun s1 s' y z => by rw [← C.hset _ _ (by omega), ← C.hset _ _ (by omega), C.up2]
 have hhas : ∀ s' y z, ∀ k w, st s' k = some w → hset (hset (Az st s' H) n y) (n + 2) z k = some w := fun s' y z => I9 C.lt (by omega) z (I9 C.lt hn y CL)
 refine Bn 1 [(0, .fn (.func g) a b), (3, A3 revs), (5, .ptr n 0), (6, .iptr [AA sc.id, AA sc.a, AA sc.b]), (8, .ptr (n + 2) 0)] (hset (hset (Az st s H) n (some (.cells ([AG d.flow] ++ d.«end».flat ++ [A3 d.revs] ++ d.settings.flat)))) (n + 2) (some (.cells FX))) (fun m => m = n + 3) ?_ (fun m hm => ?_)
 · simp [go_sem, BG.enc, Fz.same, Et s H hs, AI.enc, AF.flat, AM.flat, Nat.add_assoc, FX]
   refine ⟨Ac (by rw [AD _ _ (by omega), AD _ _ (by omega)]; exact ho.none (by omega)) (by simp [hset]), fun j y => ?_⟩
   have := ho j y; simp only [hset]; grind
 subst hm
 have c1 := d121 (sc := sc) C hp K hK hok N 0 d.flow false s
 simp only [BP] at h1 h2 h3 ⊢
 generalize AN f sc N 0 d.flow false s = q at c1 h1 h2 h3 ⊢
 obtain ⟨q, s1⟩ := q
 dsimp only at c1 h1 h2 h3 ⊢
 refine Bn 0 [(0, .fn (.func g) a b), (3, A3 revs), (5, .ptr n 0), (8, .ptr (n + 2) 0)] (hset (hset (Az st s1 H) n (some (.cells ([AG q] ++ d.«end».flat ++ [A3 d.revs] ++ d.settings.flat)))) (n + 2) (some (.cells FX))) (fun m => n + 3 ≤ m) ?_ (fun m hm => ?_)
 · have c2 := fun y z m (hm : n ≤ m) => c1 (hset (hset (Az st s H) n y) (n + 2) z) m hl (by omega) (hhas s y z)
   simp only [hup, BG.enc] at c2
   simp [go_sem, AF.flat, AM.flat, AC, AD]
   refine SC.use (c2 _ _ _ (by omega)) ?_
   rintro v H' n' ⟨rfl, rfl, rfl⟩
   simp [go_sem, Fz.same, AC, AD, Gd e2]
 have c3 := fun y z m (hm : n ≤ m) => C.call s1 ⟨d.«end», false, 1⟩ (hset (hset (Az st s1 H) n y) (n + 2) z) m (hok _ hend).1 (by omega) (hhas s1 y z)
 generalize f s1 ⟨d.«end», false, 1⟩ = r at c3 h1 h2 h3 ⊢
 obtain ⟨h', k, s2⟩ := r
 simp only [hup, Br.enc, AF.flat, List.cons_append, List.nil_append, List.append_assoc] at c3
 dsimp only at c3 h1 h2 h3 ⊢
 refine Ae 0 [(3, A3 revs), (5, .ptr n 0), (8, .ptr (n + 2) 0)] (hset (hset (Az st s2 H) n (some (.cells ([AG q] ++ h'.flat ++ [A3 d.revs] ++ d.settings.flat)))) (n + 2) (some (.cells FX))) m ?_ (fun m2 hm2 => ?_)
 · simp [go_sem, AF.flat, AM.flat, AC, AD]
   refine SC.use (c3 _ _ _ (by omega)) ?_
   rintro v H' n' ⟨rfl, rfl, rfl⟩
   simp [go_sem, Fz.same, AC, AD, Gd e2, AF.enc, AF.flat]
 refine Ae 0 [(5, .ptr n 0), (8, .ptr (n + 2) 0)] (hset (hset (Az st s2 H) n (some (.cells ([AG q] ++ h'.flat ++ [A3 revs] ++ d.settings.flat)))) (n + 2) (some (.cells FX))) m2 ?_ (fun m3 hm3 => ?_)
 · simp [go_sem, Fz.same, AF.flat, AM.flat, AC, AD, Gd e2]
 generalize hD : (⟨q, h', revs, d.settings⟩ : AI) = D at h1 h2 h3 ⊢
 have hDf : q = D.flow ∧ h' = D.«end» ∧ revs = D.revs ∧ d.settings = D.settings := by rw [← hD]; exact ⟨rfl, rfl, rfl, rfl⟩
 obtain ⟨f1, f2, f3, f4⟩ := hDf
 rw [f1, f2] at h3
 rw [f1, f2, f3, f4]
 refine AH ?_
 simp [go_sem, AF.flat, AM.flat, AC, AD]
 refine PC.use (by simpa [AI.enc, AF.flat, AM.flat] using c21 D h1 h2 h3) ?_
 generalize hE : D.normal = E
 have hcl : closed n E.enc = true := by simp [AI.enc, AF.flat, AM.flat, closed, closedL, AE.E.closedL, FH.E.closedL, CF.E.closedL, BD.E.closedL, BF.E.closedL, A6.E.closedL, GY.E.closedL, Aw.E.closedL, GV.E.closedL]
 simp [go_sem, AI.enc, AF.flat, AM.flat, AC, FX]
 simp only [AI.enc, AF.flat, AM.flat, List.cons_append, List.nil_append] at hcl
 exact Cb (hU s2) hcl (AL (fun j z e => by have := hUb s2 j z e; omega) (hlive s2 _ _))
end
section
variable {σ : Type} {st : σ → Nat → Option BV} {n0 : Nat} {g : FuncId} {a b : List SV} {u : σ → Br → σ} {ok : AF → Prop} {sc : BG}
structure Vis (st : σ → Nat → Option BV) (n0 : Nat) (g : FuncId) (a b : List SV) (u : σ → Br → σ) (ok : AF → Prop) : Prop where
 lt : ∀ s o, n0 ≤ o → st s o = none
 dom : ∀ s s' o, st s o = none → st s' o = none
 cl : ∀ s o y, st s o = some y → BJ n0 y = true
 call : ∀ s p H n, ok p.head → n0 ≤ n → (∀ o y, st s o = some y → H o = some y) → BO Tryz.prog g (a ++ [p.enc] ++ b) H n (fun v h' n' => v = .tup [] ∧ h' = Az st (u s p) H ∧ n' = n)
def Bz (u : σ → Br → σ) (s : σ) (p : Br) : AF × Bool × σ := (p.head, true, u s p)
theorem Vis.clo (C : Vis st n0 g a b u ok) : L0 st n0 112 [] [.iptr [.fn (.func g) a b]] (Bz u) ok where
 lt := C.lt
 dom := C.dom
 cl := C.cl
 call s p H n hp hn hs := by
  have Cx : L0 st n0 g a b (Bz u) (fun _ => False) := ⟨C.lt, C.dom, C.cl, fun s p H n h => h.elim⟩
  refine ED Tryz.func112 rfl fun ho => ?_
  have hU : ∀ s', Fd (Az st s' H) n := fun s' => Cx.old s' hn ho
  have hUb : ∀ s' j y, Az st s' H j = some y → j < n := fun s' j y e => (hU s' j y e).1
  have hc := C.call s p (hset H (n + 1) (some (.cells [.imm 0 [] true, AA 0, AA 0, .imm 0 [] true, .imm 0 [] true]))) (n + 2) hp (by omega) (I9 C.lt (by omega) _ hs)
  have hup : ∀ s' y, Az st s' (hset H (n + 1) y) = hset (Az st s' H) (n + 1) y := fun s' y => by rw [Cx.hset _ _ (by omega)]
  rw [hup] at hc
  refine Bn 1 [(1, .iptr [.fn (.func g) a b]), (2, .iptr (p.head.flat ++ [.bool p.mid, AA p.units])), (3, .ptr (n + 1) 0)] (hset H (n + 1) (some (.cells [.imm 0 [] true, AA 0, AA 0, .imm 0 [] true, .imm 0 [] true]))) (fun m => m = n + 2) ?_ (fun m hm => ?_)
  · simp [go_sem, Br.enc, AF.flat, Fz.same]
    refine ⟨Ac (by rw [AD _ _ (by omega)]; exact ho.none (Nat.le_refl n)) (by simp [hset]), fun j y => ?_⟩
    have := ho j y; simp only [hset]; grind
  subst hm
  refine Bn 0 [(2, .iptr (p.head.flat ++ [.bool p.mid, AA p.units])), (3, .ptr (n + 1) 0)] (hset (Az st (u s p) H) (n + 1) (some (.cells [.imm 0 [] true, AA 0, AA 0, .imm 0 [] true, .imm 0 [] true]))) (fun m => n + 2 ≤ m) ?_ (fun m hm => ?_)
  · simp [go_sem, AF.flat]
    refine SC.use (by simpa [Br.enc, AF.flat] using hc) ?_
    rintro v H' n' ⟨rfl, rfl, rfl⟩
    simp [go_sem, Fz.same]
  refine AH ?_
  simp [go_sem, AF.flat, AC, Aq]
  have := Cb (h2 := hset (Az st (u s p) H) (n + 1) (some (.cells [Ah p.head.props, AA p.head.ins, AA p.head.move, Ao p.head.dels, AV p.head.layers]))) (n' := m) (v := .tup [p.head.enc, .bool true]) (hU (u s p)) (by simp [closed, closedL, AF.enc, AF.flat, FH.E.closedL, CF.E.closedL, BD.E.closedL]) (AL (fun j z e => by have := hUb _ j z e; omega) AB)
  simpa [AF.enc, AF.flat, Bz] using this
set_option maxHeartbeats 2000000 in
theorem d36 (C : Vis st n0 g a b u ok) (hp : AF → Prop) (K : Nat) (hK : K ≤ 349525) (hok : ∀ h : AF, hp h → ok h ∧ h.sized) (N : Nat) (d : AI) (s : σ) (hl : EZ hp K N d.flow) (hend : hp d.«end»)
 (h1 : (BP (Bz u) sc N d d.revs s).1.sized) (h2 : (BP (Bz u) sc N d d.revs s).1.normal.sized) (h3 : (BU [] (AE.usL (AU (BP (Bz u) sc N d d.revs s).1.flow) ++ (BP (Bz u) sc N d d.revs s).1.«end».all)).length ≤ 1048576) {H : Hp} {n : Nat} (hn : n0 ≤ n) (hs : ∀ o y, st s o = some y → H o = some y) :
 BO Tryz.prog 36 [d.enc, sc.enc, .fn (.func g) a b] H n (fun v h' n' => v = .tup [] ∧ h' = Az st (BP (Bz u) sc N d d.revs s).2 H ∧ n' = n) := by
 have Cx := C.clo
 refine ED Tryz.func36 rfl fun ho => ?_
 have hU : ∀ s', Fd (Az st s' H) n := fun s' => Cx.old s' hn ho
 refine Ae 1 [(3, .iptr ([AG d.flow] ++ d.«end».flat ++ [A3 d.revs] ++ d.settings.flat)), (4, .iptr [AA sc.id, AA sc.a, AA sc.b]), (5, .iptr [.fn (.func g) a b])] H n ?_ (fun m hm => ?_)
 · simp [go_sem, BG.enc, AI.enc, AF.flat, AM.flat, Nat.add_assoc]
   refine ⟨⟨Ac (ho.none (by omega)) (by simp [hset]), Ac (ho.none (by omega)) (by simp [hset]), Ac (ho.none (by omega)) (by simp [hset])⟩, fun j y => ?_⟩
   have := ho j y; simp only [hset]; grind
 have c := d49 (sc := sc) Cx hp K hK hok N d d.revs s hl hend h1 h2 h3 (H := H) (n := m) (by omega) hs
 generalize (BP (Bz u) sc N d d.revs s).1.normal.enc = w at c
 generalize (BP (Bz u) sc N d d.revs s).2 = s2 at c ⊢
 refine AH ?_
 simp [go_sem, AF.flat, AM.flat]
 refine SC.use (by simpa [BG.enc, AI.enc, AF.flat, AM.flat] using c) ?_
 rintro v H' n' ⟨rfl, rfl, rfl⟩
 simp [go_sem]
 exact Cb (hU s2) (by simp [closed, closedL]) AB
end
def Gp (p q : Nat) (s : Int × Int) (o : Nat) : Option BV := if o = p then some (.cells [AA s.1]) else if o = q then some (.cells [AA s.2]) else none
def Dj (rev : Int) (s : Int × Int) (x : Br) : Int × Int :=
 if x.head.uses rev then if x.mid then (IntKind.i64.wrap (s.1 + x.units), s.2) else (s.1, IntKind.i64.wrap (s.2 + x.units)) else s
theorem SD {p q : Nat} (hpq : p ≠ q) (s : Int × Int) (H : Hp) : Az (Gp p q) s H = hset (hset H p (some (.cells [AA s.1]))) q (some (.cells [AA s.2])) := by
 funext o
 simp only [Az, Gp, hset]
 by_cases h1 : o = p
 · subst h1; simp [hpq]
 · by_cases h2 : o = q
   · subst h2; simp [h1]
   · simp [h1, h2]
theorem v37 {p q n0 : Nat} (hpq : p ≠ q) (hp : p < n0) (hq : q < n0) (rev : Int) : Vis (Gp p q) n0 37 [] [.iptr [AA rev], .ptr p 0, .ptr q 0] (Dj rev) (fun h => h.sized ∧ h.revs.length ≤ 1048576) where
 lt s o h := by simp only [Gp]; rw [if_neg (by omega), if_neg (by omega)]
 dom s s' o h := by
  simp only [Gp] at h ⊢
  by_cases e1 : o = p
  · rw [if_pos e1] at h; cases h
  · by_cases e2 : o = q
    · rw [if_neg e1, if_pos e2] at h; cases h
    · rw [if_neg e1, if_neg e2]
 cl s o y h := by simp only [Gp] at h; split at h <;> first | (cases h; simp [BJ, closed, closedL]) | (split at h <;> first | (cases h; simp [BJ, closed, closedL]) | cases h)
 call s x H n hx hn hs := by
  have a1 : H p = some (.cells [AA s.1]) := hs p _ (by simp [Gp])
  have a2 : H q = some (.cells [AA s.2]) := hs q _ (by simp [Gp, Ne.symm hpq])
  have b1 : p ≠ n := by omega
  have b2 : q ≠ n := by omega
  have hU : ∀ y1 y2, (∀ z, y1 = some z → BJ n z = true) → (∀ z, y2 = some z → BJ n z = true) → Fd H n → Fd (hset (hset H p y1) q y2) n := fun y1 y2 c1 c2 ho j z e => by
   simp only [hset] at e
   split at e
   · subst_vars; exact ⟨by omega, c2 z rfl⟩
   · split at e
     · subst_vars; exact ⟨by omega, c1 z rfl⟩
     · exact ho j z e
  refine ED Tryz.func37 rfl fun ho => ?_
  refine Ae 1 [(1, .iptr [AA rev]), (2, .ptr p 0), (3, .ptr q 0), (4, .iptr (x.head.flat ++ [.bool x.mid, AA x.units]))] H n ?_ (fun m hm => ?_)
  · simp [go_sem, Br.enc, AF.flat, Fz.same]
    refine ⟨Ac (ho.none (Nat.le_refl n)) (by simp [hset]), AL (fun j z e => (ho j z e).1) AB⟩
  refine AH ?_
  simp [go_sem, AF.flat]
  refine PC.use (by simpa [AF.enc, AF.flat] using c38 x.head hx.1 hx.2 rev) ?_
  rw [SD hpq]
  cases hu : x.head.uses rev with
  | false =>
   simp [go_sem]
   have hk : Dj rev s x = s := by simp [Dj, hu]
   rw [hk]
   have e : hset (hset H p (some (.cells [AA s.1]))) q (some (.cells [AA s.2])) = H := by
    funext j; simp only [hset]; split
    · subst_vars; exact a2.symm
    · split
      · subst_vars; exact a1.symm
      · rfl
   rw [e]
   exact Cb ho (by simp [closed, closedL]) AB
  | true =>
   cases hmid : x.mid with
   | true =>
    have hk : Dj rev s x = (IntKind.i64.wrap (s.1 + x.units), s.2) := by simp [Dj, hu, hmid]
    rw [hk]
    simp [go_sem, a1]
    refine Cb (hU _ _ (by rintro z e; cases e; simp [BJ, closed, closedL]) (by rintro z e; cases e; simp [BJ, closed, closedL]) ho) (by simp [closed, closedL]) fun j y e => ?_
    simp only [hset] at e ⊢; grind
   | false =>
    have hk : Dj rev s x = (s.1, IntKind.i64.wrap (s.2 + x.units)) := by simp [Dj, hu, hmid]
    rw [hk]
    simp [go_sem, a2]
    refine Cb (hU _ _ (by rintro z e; cases e; simp [BJ, closed, closedL]) (by rintro z e; cases e; simp [BJ, closed, closedL]) ho) (by simp [closed, closedL]) fun j y e => ?_
    simp only [hset] at e ⊢; grind
def C5 (sc : BG) (l : List AE) : Prop := sc.a < 0 ∨ sc.b < sc.a ∨ (Ap l).1 < sc.b
instance (sc : BG) (l : List AE) : Decidable (C5 sc l) := by unfold C5; infer_instance
def A9 (N : Nat) (d : AI) (rev : Int) (sc : BG) : Int × Int × Int :=
 if (CW d sc.id).isSome = false then (0, 0, 8)
 else if C5 sc (((CW d sc.id).map Fl.items).getD []) then (0, 0, 2)
 else if (B8 d.revs rev).2 = false then (0, 0, 22)
 else ((BP (Bz (Dj rev)) sc N d d.revs (0, 0)).2.1, (BP (Bz (Dj rev)) sc N d d.revs (0, 0)).2.2, 0)
def trE : Tr := .two 0 1 (.two 1 2 (.one 2 (.one 3 (.one 4 .nil))) (.one 1 (.one 3 (.one 4 .nil)))) (.one 0 (.one 2 (.one 3 (.one 4 .nil))))
set_option maxHeartbeats 2000000 in
theorem c13 (hp : AF → Prop) (K : Nat) (hK : K ≤ 349525) (hok : ∀ h : AF, hp h → (h.sized ∧ h.revs.length ≤ 1048576) ∧ h.sized) (N : Nat) (d : AI) (rev : Int) (sc : BG) (hl : EZ hp K N d.flow) (hend : hp d.«end») (hr : d.revs.length ≤ 1048576)
 (hfl : ∀ fl, CW d sc.id = some fl → fl.items.length ≤ 1048576 ∧ ∀ x ∈ fl.items, x.text.size ≤ 1048576)
 (h1 : (BP (Bz (Dj rev)) sc N d d.revs (0, 0)).1.sized) (h2 : (BP (Bz (Dj rev)) sc N d d.revs (0, 0)).1.normal.sized) (h3 : (BU [] (AE.usL (AU (BP (Bz (Dj rev)) sc N d d.revs (0, 0)).1.flow) ++ (BP (Bz (Dj rev)) sc N d d.revs (0, 0)).1.«end».all)).length ≤ 1048576) :
 PC 13 [d.enc, AA rev, sc.enc] (.tup [AA (A9 N d rev sc).1, AA (A9 N d rev sc).2.1, AA (A9 N d rev sc).2.2]) := by
 intro h n
 refine ED Tryz.func13 rfl fun ho => ?_
 have e0 : n + 3 ≠ n + 4 := by omega
 have e1 : n + 4 ≠ n + 3 := by omega
 have hsz := hl.sized (fun h e => (hok h e).2) (by omega)
 refine Bn 1 [(3, .iptr ([AG d.flow] ++ d.«end».flat ++ [A3 d.revs] ++ d.settings.flat)), (4, .iptr [AA rev]), (5, .iptr [AA sc.id, AA sc.a, AA sc.b]), (6, .ptr (n + 3) 0), (7, .ptr (n + 4) 0)] (Az (Gp (n + 3) (n + 4)) (0, 0) h) (fun m => n + 5 = m) ?_ (fun m hm => ?_)
 · rw [SD e0]
   simp [go_sem, BG.enc, AI.enc, AF.flat, AM.flat, Fz.same, Nat.add_assoc]
   refine ⟨⟨Ac (by simp [hset]; exact ho.none (by omega)) (by simp [hset]), Ac (by simp [hset]; exact ho.none (by omega)) (by simp [hset]), Ac (by simp [hset]; exact ho.none (by omega)) (by simp [hset])⟩, fun j y => ?_⟩
   have := ho j y; simp only [hset]; grind
 subst hm
 have hend2 : ∀ (x y z : Int) (H : Hp), H (n + 3) = some (.cells [AA x]) → H (n + 4) = some (.cells [AA y]) → (∀ j w, j < n → h j = some w → H j = some w) → ∀ m, CG n H m (.tup [AA x, AA y, AA z]) (Is (.tup [AA x, AA y, AA z]) h n) := fun x y z H _ _ hh m => Av ho (fun j w e => hh j w (ho j w e).1 e) rfl (by simp [closed, closedL])
 have hold : ∀ s j w, j < n → h j = some w → Az (Gp (n + 3) (n + 4)) s h j = some w := fun s j w hj e => by simp only [Az, Gp]; rw [if_neg (by omega), if_neg (by omega)]; exact e
 have g3 : ∀ s, Az (Gp (n + 3) (n + 4)) s h (n + 3) = some (.cells [AA s.1]) := fun s => by simp [Az, Gp]
 have g4 : ∀ s, Az (Gp (n + 3) (n + 4)) s h (n + 4) = some (.cells [AA s.2]) := fun s => by simp [Az, Gp]
 refine Bn 0 [(3, .iptr ([AG d.flow] ++ d.«end».flat ++ [A3 d.revs] ++ d.settings.flat)), (4, .iptr [AA rev]), (5, .iptr [AA sc.id, AA sc.a, AA sc.b]), (6, .ptr (n + 3) 0), (7, .ptr (n + 4) 0), (9, AG (((CW d sc.id).map Fl.items).getD [])), (10, .bool (CW d sc.id).isSome)] (Az (Gp (n + 3) (n + 4)) (0, 0) h) (fun m => n + 5 ≤ m) ?_ (fun m hm => ?_)
 · simp [go_sem, AF.flat, AM.flat]
   refine PC.use (by simpa [AI.enc, AF.flat, AM.flat] using c34 d sc.id hsz.1 hsz.2) ?_
   simp [go_sem, Fz.same]
 cases hfd : CW d sc.id with
 | none =>
  have hc : A9 N d rev sc = (0, 0, 8) := by simp [A9, hfd]
  rw [hc]
  refine AH ?_
  simp [go_sem, g3, g4, AC, AD]
  refine hend2 0 0 8 _ ?_ ?_ ?_ _
  · simp [hset]
  · simp [hset]
  · intro j w hj e; rw [AD _ _ (by omega), AD _ _ (by omega)]; exact hold _ j w hj e
 | some fl =>
 obtain ⟨hfl1, hfl2⟩ := hfl fl hfd
 dsimp only [Option.map_some, Option.getD_some, Option.isSome_some]
 have hcs : A9 N d rev sc = if C5 sc fl.items then (0, 0, 2) else if (B8 d.revs rev).2 = false then (0, 0, 22) else ((BP (Bz (Dj rev)) sc N d d.revs (0, 0)).2.1, (BP (Bz (Dj rev)) sc N d d.revs (0, 0)).2.2, 0) := by simp [A9, hfd]
 refine DA 0 [(3, .iptr ([AG d.flow] ++ d.«end».flat ++ [A3 d.revs] ++ d.settings.flat)), (4, .iptr [AA rev]), (5, .iptr [AA sc.id, AA sc.a, AA sc.b]), (6, .ptr (n + 3) 0), (7, .ptr (n + 4) 0), (9, AG fl.items)] (Az (Gp (n + 3) (n + 4)) (0, 0) h) m ?_ (fun m2 hm2 => ?_)
 · simp [go_sem, Fz.same]
 subst hm2
 by_cases hb : C5 sc fl.items
 · rw [if_pos hb] at hcs
   rw [hcs]
   refine Gt ?_
   refine Ae 0 [(3, .iptr ([AG d.flow] ++ d.«end».flat ++ [A3 d.revs] ++ d.settings.flat)), (4, .iptr [AA rev]), (5, .iptr [AA sc.id, AA sc.a, AA sc.b]), (6, .ptr (n + 3) 0), (7, .ptr (n + 4) 0), (11, AA (Ap fl.items).1)] (Az (Gp (n + 3) (n + 4)) (0, 0) h) m ?_ (fun m2 hm2 => ?_)
   · simp [go_sem]
     refine PC.use (c35 fl.items hfl1 hfl2) ?_
     simp [go_sem, Fz.same]
   have fin : ∀ y1 y2 m', CG n (hset (hset (Az (Gp (n + 3) (n + 4)) (0, 0) h) (n + 3) y1) (n + 4) y2) m' (.tup [AA 0, AA 0, AA 2]) (Is (.tup [AA 0, AA 0, AA 2]) h n) := fun y1 y2 m' =>
    Av ho (fun j w e => by have := (ho j w e).1; rw [AD _ _ (by omega), AD _ _ (by omega)]; exact hold _ j w this e) rfl (by simp [closed, closedL])
   unfold C5 at hb
   refine AH ?_
   by_cases a0 : sc.a < 0
   · simp [go_sem, g3, g4, AC, AD, a0]
     exact fin _ _ _
   · by_cases a1 : sc.b < sc.a
     · simp [go_sem, g3, g4, AC, AD, a0, a1]
       exact fin _ _ _
     · have a2 : (Ap fl.items).1 < sc.b := by omega
       simp [go_sem, g3, g4, AC, AD, a0, a1, a2]
       exact fin _ _ _
 rw [if_neg hb] at hcs
 refine Ae 0 [(3, .iptr ([AG d.flow] ++ d.«end».flat ++ [A3 d.revs] ++ d.settings.flat)), (4, .iptr [AA rev]), (5, .iptr [AA sc.id, AA sc.a, AA sc.b]), (6, .ptr (n + 3) 0), (7, .ptr (n + 4) 0)] (Az (Gp (n + 3) (n + 4)) (0, 0) h) m ?_ (fun m2 hm2 => ?_)
 · unfold C5 at hb
   have a0 : ¬ sc.a < 0 := by omega
   have a1 : ¬ sc.b < sc.a := by omega
   have a2 : ¬ (Ap fl.items).1 < sc.b := by omega
   simp [go_sem]
   refine PC.use (c35 fl.items hfl1 hfl2) ?_
   simp [go_sem, Fz.same, a0, a1, a2]
 have cr := c20 d.revs hr rev
 generalize B8 d.revs rev = rf at cr hcs
 obtain ⟨rf, kf⟩ := rf
 cases kf with
 | false =>
  have hcs2 : A9 N d rev sc = (0, 0, 22) := by simpa using hcs
  rw [hcs2]
  have fin : ∀ y1 y2 y3 m', n + 5 ≤ m' → ∀ q, m' ≤ q → ∀ m'', CG n (hset (hset (hset (Az (Gp (n + 3) (n + 4)) (0, 0) h) q y3) (n + 3) y1) (n + 4) y2) m'' (.tup [AA 0, AA 0, AA 22]) (Is (.tup [AA 0, AA 0, AA 22]) h n) := fun y1 y2 y3 m' _ q _ m'' =>
   Av ho (fun j w e => by have := (ho j w e).1; rw [AD _ _ (by omega), AD _ _ (by omega), AD _ _ (by omega)]; exact hold _ j w this e) rfl (by simp [closed, closedL])
  refine AH ?_
  have q1 : n + 3 ≠ m2 := by omega
  have q2 : n + 4 ≠ m2 := by omega
  simp [go_sem, AF.flat, AM.flat]
  refine PC.use cr ?_
  simp [go_sem, g3, g4, AC, AD, Aq, q1, q2, BF.enc]
  exact fin _ _ _ m2 (by omega) _ (Nat.le_refl _) _
 | true =>
  have hcs2 : A9 N d rev sc = ((BP (Bz (Dj rev)) sc N d d.revs (0, 0)).2.1, (BP (Bz (Dj rev)) sc N d d.revs (0, 0)).2.2, 0) := by simpa using hcs
  rw [hcs2]
  clear hcs hcs2
  refine Ae 0 [(3, .iptr ([AG d.flow] ++ d.«end».flat ++ [A3 d.revs] ++ d.settings.flat)), (4, .iptr [AA rev]), (5, .iptr [AA sc.id, AA sc.a, AA sc.b]), (6, .ptr (n + 3) 0), (7, .ptr (n + 4) 0)] (Az (Gp (n + 3) (n + 4)) (0, 0) h) m2 ?_ (fun m3 hm3 => ?_)
  · simp [go_sem, AF.flat, AM.flat]
    refine PC.use cr ?_
    simp [go_sem, Fz.same, AC, Aq, BF.enc]
    exact AL (fun j z e => by
     simp only [Az, Gp] at e
     by_cases x1 : j = n + 3
     · omega
     · by_cases x2 : j = n + 4
       · omega
       · rw [if_neg x1, if_neg x2] at e; have := (ho j z e).1; omega) AB
  have c := d36 (sc := sc) (v37 (n0 := n + 5) e0 (by omega) (by omega) rev) hp K hK hok N d (0, 0) hl hend h1 h2 h3 (H := Az (Gp (n + 3) (n + 4)) (0, 0) h) (n := m3) (by omega) CL
  generalize (BP (Bz (Dj rev)) sc N d d.revs (0, 0)).2 = s2 at c ⊢
  have hu2 : Az (Gp (n + 3) (n + 4)) s2 (Az (Gp (n + 3) (n + 4)) (0, 0) h) = Az (Gp (n + 3) (n + 4)) s2 h := (v37 (n0 := n + 5) e0 (by omega) (by omega) rev).clo.up2 _ _ _
  rw [hu2] at c
  refine Ae 0 [(6, .ptr (n + 3) 0), (7, .ptr (n + 4) 0)] (Az (Gp (n + 3) (n + 4)) s2 h) m3 ?_ (fun m4 hm4 => ?_)
  · simp [go_sem, AF.flat, AM.flat]
    refine Ag.fz (bs := [d.enc, sc.enc, .fn (.func 37) [] [.iptr [AA rev], .ptr (n + 3) 0, .ptr (n + 4) 0]]) 1 AB ?_ ?_
    · refine ⟨?_, ?_, ?_, trivial⟩
      · simp [AI.enc, AF.flat, AM.flat, Fz.same]
      · simp [BG.enc, Fz.same]
      · exact Fz.same
    refine SC.use c ?_
    rintro v H' n' ⟨rfl, rfl, rfl⟩
    simp [go_sem, Fz.same]
  have fin : ∀ y1 y2 m'', CG n (hset (hset (Az (Gp (n + 3) (n + 4)) s2 h) (n + 3) y1) (n + 4) y2) m'' (.tup [AA s2.1, AA s2.2, AA 0]) (Is (.tup [AA s2.1, AA s2.2, AA 0]) h n) := fun y1 y2 m'' =>
   Av ho (fun j w e => by have := (ho j w e).1; rw [AD _ _ (by omega), AD _ _ (by omega)]; exact hold _ j w this e) rfl (by simp [closed, closedL])
  refine AX 0 (α := Unit) (fun _ => [(6, .ptr (n + 3) 0), (7, .ptr (n + 4) 0), (8, AA 0)]) (fun _ => Az (Gp (n + 3) (n + 4)) s2 h) (fun _ m5 => m4 ≤ m5) (CK trE rfl (by kernel_rfl) (by kernel_rfl) ?_) (fun _ m5 hm5 => ?_)
  · have Gd : hset (hset (Az (Gp (n + 3) (n + 4)) s2 h) (n + 3) (some (.cells [AA s2.1]))) (n + 4) (some (.cells [AA s2.2])) = Az (Gp (n + 3) (n + 4)) s2 h := by
     funext j; simp only [hset, Az, Gp]; grind
    simp [go_sem, trE, Fz.same, g3, g4, AD, Gd]
  · refine AH ?_
    simp [go_sem, g3, g4]
    exact Av ho (fun j w e => hold _ j w (ho j w e).1 e) rfl (by simp [closed, closedL])
section
variable {σ : Type} (f : σ → Br → AF × Bool × σ) (fl : Int → List AE → BG → Bool → σ → List AE × σ) (sc : BG) (mid : Bool)
end
section
variable {σ : Type} {f : σ → Br → AF × Bool × σ} {fl : Int → List AE → BG → Bool → σ → List AE × σ} {sc : BG} {mid : Bool}
end
section
variable {σ : Type}
structure LClo (st : σ → Nat → Option BV) (n0 : Nat) (g : FuncId) (a b : List SV) (f : σ → Br → AF × Bool × σ) (ok : AF → Prop) : Prop where
 lt : ∀ s o, n0 ≤ o → st s o = none
 dom : ∀ s s' o, st s o = none → st s' o = none
 cl : ∀ s o y, st s o = some y → BJ n0 y = true
 call : ∀ s p H n, ok p.head → n0 ≤ n → (∀ o y, st s o = some y → H o = some y) → BO Tryz.prog g (a ++ [p.head.enc, AA p.units, .bool p.mid] ++ b) H n (fun v h' n' => v = .tup [(f s p).1.enc, .bool (f s p).2.1] ∧ h' = Az st (f s p).2.2 H ∧ n' = n)
variable {st : σ → Nat → Option BV} {n0 : Nat} {g : FuncId} {a b : List SV} {f : σ → Br → AF × Bool × σ} {ok : AF → Prop}
variable {fl : Int → List AE → BG → Bool → σ → List AE × σ} {mid : Bool} {P : List AE → Prop} {sc : BG}
end
section
variable {σ : Type} {st : σ → Nat → Option BV} {n0 : Nat} {g : FuncId} {a b : List SV} {f : σ → Br → AF × Bool × σ} {ok : AF → Prop} {fl : Int → List AE → BG → Bool → σ → List AE × σ} {mid : Bool} {P : List AE → Prop} {sc : BG}
end
section
variable {σ : Type} {st : σ → Nat → Option BV} {n0 : Nat} {g : FuncId} {a b : List SV} {f : σ → Br → AF × Bool × σ} {ok : AF → Prop} {fl : Int → List AE → BG → Bool → σ → List AE × σ} {P : List AE → Prop}
end
section
variable {σ : Type} {st : σ → Nat → Option BV} {n0 : Nat} {g : FuncId} {a b : List SV} {f : σ → Br → AF × Bool × σ} {ok : AF → Prop} {sc : BG}
end
def TC (f : FuncId) (args : List SV) (T : SV → Prop) : Prop := ∀ h n, BO Tryz.prog f args h n (fun v h' n' => T v ∧ h' = h ∧ n' = n)
theorem TC.use {E : Bl} {f : FuncId} {args : List SV} {T : SV → Prop} (H : TC f args T) {h : Hp} {n : Nat} {K : SV → Hp → Nat → Prop} (hk : ∀ v, T v → K v h n) : Ag E Tryz.prog f args h n K :=
 Ag.lift <| (H h n).mono fun v _ _ ⟨e1, e2, e3⟩ => by subst e2; subst e3; exact hk v e1
theorem TC.mono {f : FuncId} {args : List SV} {T T' : SV → Prop} (H : TC f args T) (ht : ∀ v, T v → T' v) : TC f args T' := fun h n => (H h n).mono fun v _ _ ⟨e1, e2⟩ => ⟨ht v e1, e2⟩
theorem PC.t {f : FuncId} {args : List SV} {v : SV} {T : SV → Prop} (H : PC f args v) (hv : T v) : TC f args T := fun h n => (H h n).mono fun _ _ _ ⟨e1, e2, e3⟩ => ⟨by rw [e1]; exact hv, e2, e3⟩
theorem GB {h h' : Hp} {n n' : Nat} {v : SV} {T : SV → Prop} (ho : Fd h n) (hh : ∀ o x, h o = some x → h' o = some x) (hc : closed n v = true) (hT : T v) : CG n h' n' v (fun v2 h2 n2 => T v2 ∧ h2 = h ∧ n2 = n) :=
 CG.plain hc ho hh ⟨hT, rfl, rfl⟩
theorem Tg {h h' : Hp} {n n' : Nat} {v' v : SV} {T : SV → Prop} (k : Nat) (ho : Fd h n) (hh : ∀ o x, h o = some x → h' o = some x) (e : Fz h' h k v' v) (hc : closed n v = true) (hT : T v) : CG n h' n' v' (fun v2 h2 n2 => T v2 ∧ h2 = h ∧ n2 = n) :=
 .inr ⟨k, v, h, e, hc, fun o x e => ⟨hh o x e, ho o x e⟩, hT, rfl, rfl⟩
theorem TC.lend {E : Bl} {f : FuncId} {us bs : List SV} {T : SV → Prop} {h : Hp} {n : Nat} {K : SV → Hp → Nat → Prop} (k : Nat) (H : TC f bs T) (hp : ∀ v, T v → Du v = true) (hw : AQ (Fz h (fun _ => none) k) us bs) (hk : ∀ v, T v → K v h n) : Ag E Tryz.prog f us h n K := by
 refine ⟨(H h n).1, fun c vs _ R F A => ?_⟩
 have hs : ∀ o x, (fun _ => none : Hp) o = some x → h o = some x := fun _ _ e => by cases e
 have A' : AQ (V (c.less fun _ => none)) bs vs := AQ.trans3 (R := V c) (S := Fz h (fun _ => none) k) (T := V (c.less fun _ => none)) (fun a b g h1 h2 => Fz.sound R hs k h2 h1) A hw
 refine ((H (fun _ => none) n).2 (c.less fun _ => none) vs trivial (R.less hs) F A').mono ?_
 rintro e w' ⟨u, v', h', n', c', he, ⟨hT, rfl, rfl⟩, rfl, hv', R', F', X0⟩
 have hno : ∀ b, ¬ (c.less fun _ => none).own b := fun b ⟨o, x, st, e, _⟩ => by cases e
 have hρ : ∀ j, c'.ρ j = c.ρ j := fun j => by
  rcases Nat.lt_or_ge j n' with hj | hj
  · exact X0.same j hj
  · rw [F' j hj, F j hj]
 have X : DV c { c with w := c'.w } := ⟨fun _ _ e => e, X0.ext.size, fun b hb ho => ⟨ho, (X0.ext.keep b hb (hno b)).2⟩, X0.ext.room, X0.ext.os, X0.ext.out⟩
 refine ⟨u, v', h, n', { c with w := c'.w }, he, hk v' hT, rfl, hv'.plain (hp v' hT), ⟨fun o x ho => ?_, R.inj, R.own⟩, F, ⟨X, Nat.le_refl _, fun _ _ => rfl⟩⟩
 refine (R.obj o x ho).mono X fun b st hb => ?_
 obtain ⟨b', st', hb', hlt⟩ := (R.obj o x ho).block
 rw [hb] at hb'; cases hb'
 exact (X0.ext.keep b hlt (hno b)).2
def Np (T : Prop) (v : SV) : Prop := ∃ e : Int, v = AA e ∧ (e = 0 → T)
theorem Np.plain {T : Prop} : ∀ v, Np T v → Du v = true := fun _ ⟨_, e, _⟩ => by rw [e]; rfl
theorem Np.mono {T T' : Prop} (ht : T → T') : ∀ v, Np T v → Np T' v := fun _ ⟨e, h1, h2⟩ => ⟨e, h1, fun g => ht (h2 g)⟩
theorem Np.no {T : Prop} {e : Int} (h : e ≠ 0) : Np T (AA e) := ⟨e, rfl, fun g => absurd g h⟩
theorem Np.ok {T : Prop} {e : Int} (h : T) : Np T (AA e) := ⟨e, rfl, fun _ => h⟩
def TX (x : AE) : Prop := (x.kind ≠ 6 → x.flow = []) ∧ (x.kind ≠ 7 → x.rows = [])
def Jm (x : AE) : Prop := (x.kind ≠ 6 → x.flow = []) ∧ (x.kind ≠ 7 → x.rows = []) ∧ BL x.text = true
structure Bx where
 b : Bool
set_option maxHeartbeats 2000000 in
theorem t222 (x : AE) (hx : x.sized) : TC 222 [x.enc] (Np (Jm x)) := by
 intro h n
 refine ED Tryz.func222 rfl fun ho => ?_
 obtain ⟨X, hX⟩ : ∃ X : SV, X = .iptr [AA x.kind, AA x.code, AA x.id, .str x.text, Ah x.head.props, AA x.head.ins, AA x.head.move, Ao x.head.dels, AV x.head.layers, AG x.flow, Ay x.rows] := ⟨_, rfl⟩
 refine Ae 1 [(1, X)] h n ?_ (fun m hm => ?_)
 · rw [hX]
   simp [go_sem, AE.enc_eq]
   exact ⟨Ac (ho.none (Nat.le_refl n)) (AC _ _ _), AL (fun j z e => (ho j z e).1) AB⟩
 refine BM 0 (α := Bx) (fun b => [(1, X), (3, .bool b.b)]) (fun _ => h) (fun _ m => n ≤ m) ?_ (fun b3 m hm => ?_)
 · rw [hX]
   by_cases k : x.kind = 8
   · simp [go_sem, Fz.same, k, hm]; exact ⟨⟨_⟩, rfl⟩
   · simp [go_sem, Fz.same, k, hm]; exact ⟨⟨_⟩, rfl⟩
 refine BM 0 (α := Bx) (fun b => [(1, X), (3, .bool b3.b), (4, .bool b.b)]) (fun _ => h) (fun _ m => n ≤ m) ?_ (fun b4 m hm => ?_)
 · rw [hX]
   by_cases k : x.kind = 1
   · simp [go_sem, Fz.same, k, hm]; exact ⟨⟨_⟩, rfl⟩
   · by_cases k5 : x.kind = 5
     · simp [go_sem, Fz.same, k5, hm]; exact ⟨⟨_⟩, rfl⟩
     · simp [go_sem, Fz.same, k, k5, hm]; exact ⟨⟨_⟩, rfl⟩
 refine BM 0 (α := Bx) (fun b => [(1, X), (3, .bool b3.b), (4, .bool b4.b), (5, .bool b.b)]) (fun _ => h) (fun _ m => n ≤ m) ?_ (fun b5 m hm => ?_)
 · rw [hX]
   by_cases k : x.kind = 6
   · simp [go_sem, Fz.same, k, hm]; exact ⟨⟨_⟩, rfl⟩
   · by_cases k5 : x.kind = 7
     · simp [go_sem, Fz.same, k5, hm]; exact ⟨⟨_⟩, rfl⟩
     · simp [go_sem, Fz.same, k, k5, hm]; exact ⟨⟨_⟩, rfl⟩
 obtain ⟨b3⟩ := b3
 obtain ⟨b4⟩ := b4
 obtain ⟨b5⟩ := b5
 dsimp only
 refine Ae 0 [(1, X), (3, .bool b3), (4, .bool b4), (5, .bool b5), (6, .bool true)] h n ?_ (fun m hm => ?_)
 · simp [go_sem, Fz.same, hm]
 refine BM 0 (α := Bx) (fun b => [(1, X), (3, .bool b3), (4, .bool b4), (5, .bool b5), (6, .bool b.b)]) (fun _ => h) (fun _ m => n ≤ m) ?_ (fun b6 m hm => ?_)
 · rw [hX]
   by_cases k : x.kind = 4
   · simp [go_sem, k]
     refine PC.use (Je _ _ _) ?_
     simp [go_sem, Fz.same, hm]; exact ⟨⟨_⟩, rfl⟩
   · by_cases k2 : x.kind = 6
     · simp [go_sem, k2]
       refine PC.use (Je _ _ _) ?_
       simp [go_sem, Fz.same, hm]; exact ⟨⟨_⟩, rfl⟩
     · by_cases k3 : x.kind = 8
       · simp [go_sem, k3]
         refine PC.use (Je _ _ _) ?_
         simp [go_sem, Fz.same, hm]; exact ⟨⟨_⟩, rfl⟩
       · simp [go_sem, Fz.same, k, k2, k3, hm]; exact ⟨⟨_⟩, rfl⟩
 obtain ⟨b6⟩ := b6
 dsimp only
 refine BM 0 (α := Bx) (fun b => [(1, X), (3, .bool b3), (4, .bool b4), (5, .bool b5), (6, .bool b6), (7, .bool b.b)]) (fun _ => h) (fun _ m => n ≤ m) ?_ (fun b7 m hm => ?_)
 · rw [hX]
   by_cases k : x.kind = 4
   · simp [go_sem, Fz.same, k, hm]; exact ⟨⟨_⟩, rfl⟩
   · by_cases k5 : x.kind = 6
     · simp [go_sem, Fz.same, k5, hm]; exact ⟨⟨_⟩, rfl⟩
     · simp [go_sem, Fz.same, k, k5, hm]; exact ⟨⟨_⟩, rfl⟩
 obtain ⟨b7⟩ := b7
 dsimp only
 have out : ∀ (e : Int) (m : Nat), e ≠ 0 → CG n h m (AA e) (fun v h' n' => Np (Jm x) v ∧ h' = h ∧ n' = n) := fun e m he => GB ho AB (by simp [closed]) (Np.no he)
 refine B5 0 [] h (fun m => n ≤ m ∧ Jm x) ?_ (fun m hm => ?_)
 · refine Ab ?_
   refine BM 0 (α := Bx) (fun b => [(1, X), (3, .bool b3), (4, .bool b4), (5, .bool b5), (7, .bool b7), (70, .bool b.b)]) (fun _ => h) (fun _ m => n ≤ m) ?_ (fun b70 m hm => ?_)
   · rw [hX]
     simp [go_sem]
     refine PC.use (Je _ _ _) ?_
     by_cases c : 1 ≤ x.kind ∧ x.kind ≤ 8
     · simp [go_sem, Fz.same, c, hm]; exact ⟨⟨_⟩, rfl⟩
     · simp [go_sem, Fz.same, c, hm]; exact ⟨⟨_⟩, rfl⟩
   obtain ⟨b70⟩ := b70
   dsimp only
   refine Ak (b := b70) (by simp [go_sem]) ?_
   cases b70 with
   | true => exact AH (by simp [go_sem]; exact out _ _ (by decide))
   | false =>
   simp only [Bool.false_eq_true, if_false]
   refine BM 0 (α := Bx) (fun b => [(1, X), (3, .bool b3), (79, .bool b.b)]) (fun _ => h) (fun b m => n ≤ m ∧ (b.b = false → TX x)) ?_ (fun b79 m hm => ?_)
   · rw [hX]
     clear out
     unfold TX
     cases b7 with
     | true =>
      cases b5 with
      | true =>
       cases b4 with
       | true =>
        by_cases k6 : x.kind = 6
        · by_cases r0 : x.rows = []
          · simp [go_sem, Fz.same, hm, k6, r0]
            exact ⟨⟨false⟩, rfl⟩
          · have r1 : 0 < x.rows.length := List.length_pos_iff.2 r0
            simp [go_sem, Fz.same, hm, k6, r1]
            exact ⟨⟨true⟩, by simp, rfl⟩
        · by_cases f0 : x.flow = []
          · by_cases k7 : x.kind = 7
            · simp [go_sem, Fz.same, hm, f0, k7]
              exact ⟨⟨false⟩, rfl⟩
            · by_cases r0 : x.rows = []
              · simp [go_sem, Fz.same, hm, k6, f0, k7, r0]
                exact ⟨⟨false⟩, rfl⟩
              · have r1 : 0 < x.rows.length := List.length_pos_iff.2 r0
                simp [go_sem, Fz.same, hm, k6, f0, k7, r1]
                exact ⟨⟨true⟩, by simp, rfl⟩
          · have f1 : 0 < x.flow.length := List.length_pos_iff.2 f0
            simp [go_sem, Fz.same, hm, k6, f1]
            exact ⟨⟨true⟩, by simp, rfl⟩
       | false =>
        by_cases t0 : x.text.toList = []
        · by_cases k6 : x.kind = 6
          · by_cases r0 : x.rows = []
            · simp [go_sem, Fz.same, hm, t0, k6, r0]
              exact ⟨⟨false⟩, rfl⟩
            · have r1 : 0 < x.rows.length := List.length_pos_iff.2 r0
              simp [go_sem, Fz.same, hm, t0, k6, r1]
              exact ⟨⟨true⟩, by simp, rfl⟩
          · by_cases f0 : x.flow = []
            · by_cases k7 : x.kind = 7
              · simp [go_sem, Fz.same, hm, t0, f0, k7]
                exact ⟨⟨false⟩, rfl⟩
              · by_cases r0 : x.rows = []
                · simp [go_sem, Fz.same, hm, t0, k6, f0, k7, r0]
                  exact ⟨⟨false⟩, rfl⟩
                · have r1 : 0 < x.rows.length := List.length_pos_iff.2 r0
                  simp [go_sem, Fz.same, hm, t0, k6, f0, k7, r1]
                  exact ⟨⟨true⟩, by simp, rfl⟩
            · have f1 : 0 < x.flow.length := List.length_pos_iff.2 f0
              simp [go_sem, Fz.same, hm, t0, k6, f1]
              exact ⟨⟨true⟩, by simp, rfl⟩
        · simp [go_sem, Fz.same, hm, t0]
          exact ⟨⟨true⟩, by simp, rfl⟩
      | false =>
       by_cases i0 : x.id = 0
       · cases b4 with
         | true =>
          by_cases k6 : x.kind = 6
          · by_cases r0 : x.rows = []
            · simp [go_sem, Fz.same, hm, i0, k6, r0]
              exact ⟨⟨false⟩, rfl⟩
            · have r1 : 0 < x.rows.length := List.length_pos_iff.2 r0
              simp [go_sem, Fz.same, hm, i0, k6, r1]
              exact ⟨⟨true⟩, by simp, rfl⟩
          · by_cases f0 : x.flow = []
            · by_cases k7 : x.kind = 7
              · simp [go_sem, Fz.same, hm, i0, f0, k7]
                exact ⟨⟨false⟩, rfl⟩
              · by_cases r0 : x.rows = []
                · simp [go_sem, Fz.same, hm, i0, k6, f0, k7, r0]
                  exact ⟨⟨false⟩, rfl⟩
                · have r1 : 0 < x.rows.length := List.length_pos_iff.2 r0
                  simp [go_sem, Fz.same, hm, i0, k6, f0, k7, r1]
                  exact ⟨⟨true⟩, by simp, rfl⟩
            · have f1 : 0 < x.flow.length := List.length_pos_iff.2 f0
              simp [go_sem, Fz.same, hm, i0, k6, f1]
              exact ⟨⟨true⟩, by simp, rfl⟩
         | false =>
          by_cases t0 : x.text.toList = []
          · by_cases k6 : x.kind = 6
            · by_cases r0 : x.rows = []
              · simp [go_sem, Fz.same, hm, i0, t0, k6, r0]
                exact ⟨⟨false⟩, rfl⟩
              · have r1 : 0 < x.rows.length := List.length_pos_iff.2 r0
                simp [go_sem, Fz.same, hm, i0, t0, k6, r1]
                exact ⟨⟨true⟩, by simp, rfl⟩
            · by_cases f0 : x.flow = []
              · by_cases k7 : x.kind = 7
                · simp [go_sem, Fz.same, hm, i0, t0, f0, k7]
                  exact ⟨⟨false⟩, rfl⟩
                · by_cases r0 : x.rows = []
                  · simp [go_sem, Fz.same, hm, i0, t0, k6, f0, k7, r0]
                    exact ⟨⟨false⟩, rfl⟩
                  · have r1 : 0 < x.rows.length := List.length_pos_iff.2 r0
                    simp [go_sem, Fz.same, hm, i0, t0, k6, f0, k7, r1]
                    exact ⟨⟨true⟩, by simp, rfl⟩
              · have f1 : 0 < x.flow.length := List.length_pos_iff.2 f0
                simp [go_sem, Fz.same, hm, i0, t0, k6, f1]
                exact ⟨⟨true⟩, by simp, rfl⟩
          · simp [go_sem, Fz.same, hm, i0, t0]
            exact ⟨⟨true⟩, by simp, rfl⟩
       · simp [go_sem, Fz.same, hm, i0]
         exact ⟨⟨true⟩, by simp, rfl⟩
     | false =>
      by_cases c0 : x.code = 0
      · cases b5 with
        | true =>
         cases b4 with
         | true =>
          by_cases k6 : x.kind = 6
          · by_cases r0 : x.rows = []
            · simp [go_sem, Fz.same, hm, c0, k6, r0]
              exact ⟨⟨false⟩, rfl⟩
            · have r1 : 0 < x.rows.length := List.length_pos_iff.2 r0
              simp [go_sem, Fz.same, hm, c0, k6, r1]
              exact ⟨⟨true⟩, by simp, rfl⟩
          · by_cases f0 : x.flow = []
            · by_cases k7 : x.kind = 7
              · simp [go_sem, Fz.same, hm, c0, f0, k7]
                exact ⟨⟨false⟩, rfl⟩
              · by_cases r0 : x.rows = []
                · simp [go_sem, Fz.same, hm, c0, k6, f0, k7, r0]
                  exact ⟨⟨false⟩, rfl⟩
                · have r1 : 0 < x.rows.length := List.length_pos_iff.2 r0
                  simp [go_sem, Fz.same, hm, c0, k6, f0, k7, r1]
                  exact ⟨⟨true⟩, by simp, rfl⟩
            · have f1 : 0 < x.flow.length := List.length_pos_iff.2 f0
              simp [go_sem, Fz.same, hm, c0, k6, f1]
              exact ⟨⟨true⟩, by simp, rfl⟩
         | false =>
          by_cases t0 : x.text.toList = []
          · by_cases k6 : x.kind = 6
            · by_cases r0 : x.rows = []
              · simp [go_sem, Fz.same, hm, c0, t0, k6, r0]
                exact ⟨⟨false⟩, rfl⟩
              · have r1 : 0 < x.rows.length := List.length_pos_iff.2 r0
                simp [go_sem, Fz.same, hm, c0, t0, k6, r1]
                exact ⟨⟨true⟩, by simp, rfl⟩
            · by_cases f0 : x.flow = []
              · by_cases k7 : x.kind = 7
                · simp [go_sem, Fz.same, hm, c0, t0, f0, k7]
                  exact ⟨⟨false⟩, rfl⟩
                · by_cases r0 : x.rows = []
                  · simp [go_sem, Fz.same, hm, c0, t0, k6, f0, k7, r0]
                    exact ⟨⟨false⟩, rfl⟩
                  · have r1 : 0 < x.rows.length := List.length_pos_iff.2 r0
                    simp [go_sem, Fz.same, hm, c0, t0, k6, f0, k7, r1]
                    exact ⟨⟨true⟩, by simp, rfl⟩
              · have f1 : 0 < x.flow.length := List.length_pos_iff.2 f0
                simp [go_sem, Fz.same, hm, c0, t0, k6, f1]
                exact ⟨⟨true⟩, by simp, rfl⟩
          · simp [go_sem, Fz.same, hm, c0, t0]
            exact ⟨⟨true⟩, by simp, rfl⟩
        | false =>
         by_cases i0 : x.id = 0
         · cases b4 with
           | true =>
            by_cases k6 : x.kind = 6
            · by_cases r0 : x.rows = []
              · simp [go_sem, Fz.same, hm, c0, i0, k6, r0]
                exact ⟨⟨false⟩, rfl⟩
              · have r1 : 0 < x.rows.length := List.length_pos_iff.2 r0
                simp [go_sem, Fz.same, hm, c0, i0, k6, r1]
                exact ⟨⟨true⟩, by simp, rfl⟩
            · by_cases f0 : x.flow = []
              · by_cases k7 : x.kind = 7
                · simp [go_sem, Fz.same, hm, c0, i0, f0, k7]
                  exact ⟨⟨false⟩, rfl⟩
                · by_cases r0 : x.rows = []
                  · simp [go_sem, Fz.same, hm, c0, i0, k6, f0, k7, r0]
                    exact ⟨⟨false⟩, rfl⟩
                  · have r1 : 0 < x.rows.length := List.length_pos_iff.2 r0
                    simp [go_sem, Fz.same, hm, c0, i0, k6, f0, k7, r1]
                    exact ⟨⟨true⟩, by simp, rfl⟩
              · have f1 : 0 < x.flow.length := List.length_pos_iff.2 f0
                simp [go_sem, Fz.same, hm, c0, i0, k6, f1]
                exact ⟨⟨true⟩, by simp, rfl⟩
           | false =>
            by_cases t0 : x.text.toList = []
            · by_cases k6 : x.kind = 6
              · by_cases r0 : x.rows = []
                · simp [go_sem, Fz.same, hm, c0, i0, t0, k6, r0]
                  exact ⟨⟨false⟩, rfl⟩
                · have r1 : 0 < x.rows.length := List.length_pos_iff.2 r0
                  simp [go_sem, Fz.same, hm, c0, i0, t0, k6, r1]
                  exact ⟨⟨true⟩, by simp, rfl⟩
              · by_cases f0 : x.flow = []
                · by_cases k7 : x.kind = 7
                  · simp [go_sem, Fz.same, hm, c0, i0, t0, f0, k7]
                    exact ⟨⟨false⟩, rfl⟩
                  · by_cases r0 : x.rows = []
                    · simp [go_sem, Fz.same, hm, c0, i0, t0, k6, f0, k7, r0]
                      exact ⟨⟨false⟩, rfl⟩
                    · have r1 : 0 < x.rows.length := List.length_pos_iff.2 r0
                      simp [go_sem, Fz.same, hm, c0, i0, t0, k6, f0, k7, r1]
                      exact ⟨⟨true⟩, by simp, rfl⟩
                · have f1 : 0 < x.flow.length := List.length_pos_iff.2 f0
                  simp [go_sem, Fz.same, hm, c0, i0, t0, k6, f1]
                  exact ⟨⟨true⟩, by simp, rfl⟩
            · simp [go_sem, Fz.same, hm, c0, i0, t0]
              exact ⟨⟨true⟩, by simp, rfl⟩
         · simp [go_sem, Fz.same, hm, c0, i0]
           exact ⟨⟨true⟩, by simp, rfl⟩
      · simp [go_sem, Fz.same, hm, c0]
        exact ⟨⟨true⟩, by simp, rfl⟩
   obtain ⟨b79⟩ := b79
   dsimp only at hm ⊢
   refine Ak (b := b79) (by simp [go_sem]) ?_
   cases b79 with
   | true => exact AH (by simp [go_sem]; exact out _ _ (by decide))
   | false =>
   simp only [Bool.false_eq_true, if_false]
   refine BM 0 (α := Bx) (fun b => [(1, X), (3, .bool b3), (127, .bool b.b)]) (fun _ => h) (fun b m => n ≤ m ∧ (b.b = false → BL x.text = true)) ?_ (fun b127 m hm2 => ?_)
   · rw [hX]
     simp [go_sem]
     refine PC.use (O8 x.text (by have := (Dg hx).2.1; omega)) ?_
     simp [go_sem, Fz.same, hm.1]; exact ⟨⟨!BL x.text⟩, by simp, rfl⟩
   obtain ⟨b127⟩ := b127
   dsimp only at hm2 ⊢
   obtain ⟨hm2, hval⟩ := hm2
   refine Ak (b := b127) (by simp [go_sem]) ?_
   cases b127 with
   | true => exact AH (by simp [go_sem]; exact out _ _ (by decide))
   | false =>
   simp only [Bool.false_eq_true, if_false]
   refine BM 0 (α := Bx) (fun b => [(1, X), (3, .bool b3), (132, .bool b.b)]) (fun _ => h) (fun b m => n ≤ m) ?_ (fun b132 m hm2 => ?_)
   · rw [hX]
     by_cases k1 : x.kind = 1
     · simp [go_sem, Fz.same, k1, hm2]; exact ⟨⟨_⟩, rfl⟩
     · by_cases k5 : x.kind = 5
       · simp [go_sem, Fz.same, k5, hm2]; exact ⟨⟨_⟩, rfl⟩
       · simp [go_sem, Fz.same, k1, k5, hm2]; exact ⟨⟨_⟩, rfl⟩
   obtain ⟨b132⟩ := b132
   dsimp only
   refine Ak (b := b132) (by simp [go_sem]) ?_
   cases b132 with
   | true => exact AH (by simp [go_sem]; exact out _ _ (by decide))
   | false =>
   simp only [Bool.false_eq_true, if_false]
   refine BM 0 (α := Bx) (fun b => [(1, X), (3, .bool b3), (146, .bool b.b)]) (fun _ => h) (fun b m => n ≤ m) ?_ (fun b146 m hm2 => ?_)
   · rw [hX]
     by_cases k5 : x.kind = 5
     · simp [go_sem, Fz.same, k5, hm2]; exact ⟨⟨_⟩, rfl⟩
     · simp [go_sem, Fz.same, k5, hm2]; exact ⟨⟨_⟩, rfl⟩
   obtain ⟨b146⟩ := b146
   dsimp only
   refine Ak (b := b146) (by simp [go_sem]) ?_
   cases b146 with
   | true => exact AH (by simp [go_sem]; exact out _ _ (by decide))
   | false =>
   simp only [Bool.false_eq_true, if_false]
   refine BM 0 (α := Bx) (fun b => [(156, .bool b.b)]) (fun _ => h) (fun b m => n ≤ m) ?_ (fun b156 m hm2 => ?_)
   · rw [hX]
     cases b3 with
     | false => simp [go_sem, hm2]; exact ⟨⟨_⟩, rfl⟩
     | true =>
      simp [go_sem]
      refine PC.use (Tt x.text) ?_
      simp [go_sem, hm2]; exact ⟨⟨_⟩, rfl⟩
   obtain ⟨b156⟩ := b156
   dsimp only
   refine Ak (b := b156) (by simp [go_sem]) ?_
   cases b156 with
   | true => exact AH (by simp [go_sem]; exact out _ _ (by decide))
   | false =>
   refine AH ?_
   simp [go_sem]
   exact ⟨hm2, (hm.2 rfl).1, (hm.2 rfl).2, hval rfl⟩
 · refine AH ?_
   simp [go_sem]
   exact GB ho AB (by simp [closed]) (Np.ok hm.2)
def GG (l : List (Int × Int)) : List (SV × SV) := l.map fun x => (AA x.1, AA x.2)
theorem H8 (x : Int) : ∀ (l : List (Int × Int)) (i : Nat), Cq (AA x) (GG l) i = some none ∨ ∃ j k, Cq (AA x) (GG l) i = some (some (j, AA k))
 | [], i => .inl rfl
 | a :: l, i => by
  by_cases e : x = a.1
  · exact .inr ⟨i, a.2, by simp [GG, Cq, Gf, e]⟩
  · have : (x == a.1) = false := by simpa using e
    rcases H8 x l (i + 1) with h | ⟨j, k, h⟩
    · left; simp only [GG, List.map_cons, Cq, Gf, if_true, this]; exact h
    · right; refine ⟨j, k, ?_⟩; simp only [GG, List.map_cons, Cq, Gf, if_true, this]; exact h
structure Ck where
 p : Nat
 s0 : Nat
 s1 : Nat
 s2 : Nat
 s3 : Nat
 s4 : Nat
 m0 : List (Int × Int)
 m1 : List Int
 m2 : List Int
structure Ck.ok (K : Ck) (n0 : Nat) : Prop where
 nd : [K.p, K.s0, K.s1, K.s2, K.s3, K.s4].Nodup
 lt : ∀ o ∈ [K.p, K.s0, K.s1, K.s2, K.s3, K.s4], o < n0
abbrev FT := List Int × Int
def Ck.cells (K : Ck) (c : Int) : List SV := [.map K.s0, .map K.s1, .map K.s2, .map K.s3, .map K.s4, AA c]
def Ck.st (K : Ck) (s : FT) (o : Nat) : Option BV :=
 if o = K.p then some (.cells (K.cells s.2)) else if o = K.s3 then some (.map (EI s.1)) else if o = K.s0 then some (.map (GG K.m0)) else if o = K.s1 then some (.map (EI K.m1)) else if o = K.s2 then some (.map (EI K.m2)) else if o = K.s4 then some (.map []) else none
section
variable {K : Ck} {n0 : Nat}
theorem Ck.ok.clo (h : K.ok n0) : L0 K.st n0 0 [] [] (fun s p => (p.head, true, s)) (fun _ => False) where
 lt s o ho := by
  have h1 := h.lt
  simp only [List.mem_cons, List.not_mem_nil, or_false, forall_eq_or_imp, forall_eq] at h1
  unfold Ck.st
  rw [if_neg (by omega), if_neg (by omega), if_neg (by omega), if_neg (by omega), if_neg (by omega), if_neg (by omega)]
 dom s s' o ho := by
  unfold Ck.st at ho ⊢
  repeat' split at ho
  all_goals first | cases ho | skip
  simp only [*, if_false]
 cl s o y ho := by
  have h1 := h.lt
  simp only [List.mem_cons, List.not_mem_nil, or_false, forall_eq_or_imp, forall_eq] at h1
  unfold Ck.st at ho
  repeat' split at ho
  all_goals first | cases ho | skip
  · simp [BJ, Ck.cells, closed, closedL]; omega
  · exact G5 _ _
  · simp [BJ, GG, closed]
  · exact G5 _ _
  · exact G5 _ _
  · simp [BJ]
 call := fun _ _ _ _ h => h.elim
structure Ck.has (K : Ck) (s : FT) (H : Hp) : Prop where
 p : H K.p = some (.cells (K.cells s.2))
 s0 : H K.s0 = some (.map (GG K.m0))
 s1 : H K.s1 = some (.map (EI K.m1))
 s2 : H K.s2 = some (.map (EI K.m2))
 s3 : H K.s3 = some (.map (EI s.1))
 s4 : H K.s4 = some (.map [])
theorem Ck.ok.has (h : K.ok n0) {s : FT} {H : Hp} (hs : ∀ o y, K.st s o = some y → H o = some y) : K.has s H := by
 have h1 := h.nd
 simp only [List.nodup_cons, List.mem_cons, List.not_mem_nil, or_false, not_or] at h1
 obtain ⟨⟨a1, a2, a3, a4, a5⟩, ⟨b2, b3, b4, b5⟩, ⟨c3, c4, c5⟩, ⟨d4, d5⟩, e5, _⟩ := h1
 constructor <;> refine hs _ _ ?_ <;> unfold Ck.st <;> simp [*, Ne.symm, eq_comm]
theorem UN {H : Hp} {n n' : Nat} {h2 : Hp} (e : Int) {T : Int → Prop} (ho : Fd H n) (hh : ∀ j y, H j = some y → h2 j = some y) (ht : T e) : CG n h2 n' (AA e) (fun v h' n' => (∃ e, v = AA e ∧ T e) ∧ h' = H ∧ n' = n) :=
 .inr ⟨0, AA e, H, Fz.same, by simp [closed], fun j x g => ⟨hh j x g, ho j x g⟩, ⟨e, rfl, ht⟩, rfl, rfl⟩
set_option maxHeartbeats 1000000 in
theorem d157 (hK : K.ok n0) (s : FT) (kind id : Int) {H : Hp} {n : Nat} (hs : ∀ o y, K.st s o = some y → H o = some y) :
 BO Tryz.prog 157 [.ptr K.p 0, AA kind, AA id] H n (fun v h' n' => (∃ e, v = AA e) ∧ h' = H ∧ n' = n) := by
 refine gq Tryz.func157 rfl fun ho => ?_
 obtain ⟨hp, h0, h1, h2, h3, h4⟩ := hK.has hs
 have fin : ∀ (e : Int) (m : Nat), CG n H m (AA e) (fun v h' n' => (∃ e, v = AA e) ∧ h' = H ∧ n' = n) := fun e m => by have := UN (T := fun _ => True) (n' := m) e ho AB trivial; simpa using this
 simp only [Ck.cells] at hp
 have main : kind = 20 ∨ kind = 1 ∨ (kind ≠ 20 ∧ kind ≠ 1) := by omega
 rcases main with e | e | ⟨e, e'⟩
 · by_cases i0 : id = 0
   · simp [go_sem, e, i0]
     refine (Iv _ _).use ?_
     simp [go_sem]; exact fin _ _
   · rcases H8 id K.m0 0 with f | ⟨j, k, f⟩
     · simp [go_sem, e, i0, hp, h0, f, CD]
       refine (Iv _ _).use ?_
       simp [go_sem]; exact fin _ _
     · simp [go_sem, e, i0, hp, h0, f, CD]
       refine (Iv _ _).use ?_
       simp [go_sem]; exact fin _ _
 · by_cases i0 : id = 0
   · simp [go_sem, e, i0]
     refine (Iv _ _).use ?_
     simp [go_sem]; exact fin _ _
   · rcases H8 id K.m0 0 with f | ⟨j, k, f⟩
     · simp [go_sem, e, i0, hp, h0, f, CD]
       refine (Iv _ _).use ?_
       simp [go_sem]; exact fin _ _
     · simp [go_sem, e, i0, hp, h0, f, CD]
       refine (Iv _ _).use ?_
       simp [go_sem]; exact fin _ _
 · by_cases e3 : kind = 33
   · by_cases i0 : id = 0
     · simp [go_sem, e3, i0]
       refine (Iv _ _).use ?_
       simp [go_sem]; exact fin _ _
     · by_cases hm : id ∈ K.m1
       · obtain ⟨j, f, _⟩ := Cw 0 hm
         simp [go_sem, e3, i0, hp, h1, f, CD]
         refine (Iv _ _).use ?_
         simp [go_sem]; exact fin _ _
       · have f := Da 0 hm
         simp [go_sem, e3, i0, hp, h1, f, CD]
         refine (Iv _ _).use ?_
         simp [go_sem]; exact fin _ _
   · simp [go_sem, e, e', e3]; exact fin _ _
def CQ (K : Ck) (T : Int → FT → Prop) (H : Hp) (n : Nat) : SV → Hp → Nat → Prop := fun v h' n' => ∃ e s', v = AA e ∧ T e s' ∧ h' = Az K.st s' H ∧ n' = n
theorem Ck.ok.ret (hK : K.ok n0) {T : Int → FT → Prop} {H h2 : Hp} {n m : Nat} (hn : n0 ≤ n) (ho : Fd H n) (e : Int) (s' : FT) (hT : T e s') (hh : ∀ j y, Az K.st s' H j = some y → h2 j = some y) : CG n h2 m (AA e) (CQ K T H n) :=
 .inr ⟨0, AA e, Az K.st s' H, Fz.same, by simp [closed], fun j x g => ⟨hh j x g, hK.clo.old s' hn ho j x g⟩, e, s', rfl, hT, rfl, rfl⟩
theorem Ck.ok.no (hK : K.ok n0) {T : Int → FT → Prop} {H h2 : Hp} {n m : Nat} (hn : n0 ≤ n) (ho : Fd H n) (s : FT) (hs : ∀ o y, K.st s o = some y → H o = some y) (e : Int) (hT : T e s) (hh : ∀ j y, H j = some y → h2 j = some y) : CG n h2 m (AA e) (CQ K T H n) :=
 hK.ret hn ho e s hT (by rw [Et s H hs]; exact hh)
theorem LR (l : List Int) (x : Int) : EI l ++ [(AA x, .bool true)] = EI (l ++ [x]) := by simp [EI]
def idT (s : FT) (id : Int) (e : Int) (s' : FT) : Prop := e = 0 → s' = (s.1 ++ [id], s.2) ∧ 1 ≤ id ∧ id ≤ 1073741824 ∧ id ∉ s.1
theorem Ck.ok.up_ids (hK : K.ok n0) (s : FT) (l : List Int) {H : Hp} (hs : ∀ o y, K.st s o = some y → H o = some y) : Az K.st (l, s.2) H = hset H K.s3 (some (.map (EI l))) := by
 have h1 := hK.nd
 simp only [List.nodup_cons, List.mem_cons, List.not_mem_nil, or_false, not_or] at h1
 obtain ⟨⟨a1, a2, a3, a4, a5⟩, ⟨b2, b3, b4, b5⟩, ⟨c3, c4, c5⟩, ⟨d4, d5⟩, e5, _⟩ := h1
 funext o
 have g := hs o
 simp only [Az, Ck.st, hset] at g ⊢
 by_cases q0 : o = K.p
 · subst q0; simp only [if_true] at g ⊢; rw [if_neg a4]; exact (g _ rfl).symm
 · by_cases q1 : o = K.s3
   · have a4' : ¬ K.s3 = K.p := fun h => a4 h.symm
     simp [q1, a4']
   · simp only [q0, q1, if_false] at g ⊢
     split
     · rename_i y hy; exact (g y hy).symm
     · rfl
set_option maxHeartbeats 1000000 in
theorem Tz (hK : K.ok n0) (s : FT) (id : Int) {H : Hp} {n : Nat} (hn : n0 ≤ n) (hs : ∀ o y, K.st s o = some y → H o = some y) :
 BO Tryz.prog 223 [.ptr K.p 0, AA id] H n (CQ K (idT s id) H n) := by
 refine gq Tryz.func223 rfl fun ho => ?_
 obtain ⟨hp, h0, h1, h2, h3, h4⟩ := hK.has hs
 have no : ∀ (e : Int) (m : Nat), e ≠ 0 → CG n H m (AA e) (CQ K (idT s id) H n) := fun e m he => hK.no hn ho s hs e (fun g => absurd g he) AB
 simp only [Ck.cells] at hp
 by_cases r : 1 ≤ id ∧ id ≤ 1073741824
 · have f4 : Cq (AA id) [] 0 = some none := rfl
   by_cases hm : id ∈ s.1
   · obtain ⟨j, f, _⟩ := Cw 0 hm
     simp [go_sem]
     refine (Je _ _ _).use ?_
     simp [go_sem, r, hp, h4, h3, f, CD]
     exact no 7 _ (by decide)
   · have f := Da 0 hm
     simp [go_sem]
     refine (Je _ _ _).use ?_
     simp [go_sem, r, hp, h4, h3, f, CD]
     refine hK.ret hn ho 0 (s.1 ++ [id], s.2) (fun _ => ⟨rfl, r.1, r.2, hm⟩) ?_
     rw [hK.up_ids s _ hs, LR]
     exact AB
 · simp [go_sem]
   refine (Je _ _ _).use ?_
   simp [go_sem, r]
   exact no 18 _ (by decide)
end
def trL : Tr := .pure 0 <| .pure 1 <| .pure 2 <| .pure 3 <| .pure 5 <| .pure 6 <| .pure 7 <| .pure 8 <| .pure 9 <| .one 4 <| .one 10 <| .one 11 <| .one 12 <| .one 13 .nil
section
variable {K : Ck} {n0 : Nat}
def Sw (K : Ck) (s : FT) (x : BD) (e : Int) (s' : FT) : Prop := s' = s ∧ (e = 0 → x.rev ∈ K.m2)
set_option maxHeartbeats 2000000 in
theorem d159 (hK : K.ok n0) (s : FT) (el : Int) (ls : List BD) (hls : ls.length ≤ 1048576) (i : Nat) (hi : i < ls.length) {H : Hp} {n : Nat} (hn : n0 ≤ n) (hs : ∀ o y, K.st s o = some y → H o = some y) :
 BO Tryz.prog 159 [.ptr K.p 0, AA el, AV ls, AA i] H n (CQ K (Sw K s ls[i]) H n) := by
 refine ED Tryz.func159 rfl fun ho => ?_
 obtain ⟨x, hx⟩ : ∃ x, ls[i] = x := ⟨_, rfl⟩
 obtain ⟨hp, _, _, h2, _, _⟩ := hK.has hs
 simp only [Ck.cells] at hp
 have hKp : K.p < n := by have := hK.lt K.p (by simp); omega
 have hKs : K.s2 < n := by have := hK.lt K.s2 (by simp); omega
 have hHb := ho.lt
 have no : ∀ (e : Int) (m : Nat), e ≠ 0 → CG n H m (AA e) (CQ K (Sw K s ls[i]) H n) := fun e m he => hK.no hn ho s hs e ⟨rfl, fun g => absurd g he⟩ AB
 refine DA 0 [(0, .ptr K.p 0), (1, AA el), (2, AV ls), (3, AA i)] H n ?_ (fun m hm => ?_)
 · simp [go_sem, Fz.same]
 subst hm
 refine Ae 1 [(0, .ptr K.p 0), (1, AA el), (2, AV ls), (3, AA i), (9, .iptr [AA x.rev, AA x.key, AA x.before, .bool x.had])] H n ?_ (fun m hm => ?_)
 · simp [go_sem, Fz.same, hi, hx, BD.enc, AC]
   exact ⟨Ac (Af hHb (Nat.le_refl _)) (AC _ _ _), AL hHb (AL hHb AB)⟩
 rw [hx] at no ⊢
 refine B5 0 [(0, .ptr K.p 0), (9, .iptr [AA x.rev, AA x.key, AA x.before, .bool x.had])] H (fun m => n ≤ m ∧ x.rev ∈ K.m2) ?_ (fun m hm => ?_)
 · refine Ab ?_
   refine BM 0 (α := Bx) (fun b => [(0, .ptr K.p 0), (1, AA el), (2, AV ls), (3, AA i), (9, .iptr [AA x.rev, AA x.key, AA x.before, .bool x.had]), (14, .bool b.b)]) (fun _ => H) (fun b m => n ≤ m ∧ (b.b = false → x.rev ∈ K.m2)) ?_ (fun b m hm => ?_)
   · by_cases hr : x.rev ∈ K.m2
     · obtain ⟨j, f, _⟩ := Cw 0 hr
       simp [go_sem, Fz.same, hp, h2, f, CD, hm, hr]
       repeat first | refine nq ?_ | refine sq ?_ | refine aq ?_
       first | exact ⟨⟨false⟩, fun _ => hr, rfl⟩ | exact ⟨⟨false⟩, rfl⟩
     · have f := Da 0 hr
       simp [go_sem, Fz.same, hp, h2, f, CD, hm, hr]
       repeat first | refine nq ?_ | refine sq ?_ | refine aq ?_
       first | exact ⟨⟨true⟩, by simp, rfl⟩ | exact ⟨⟨true⟩, rfl⟩
   obtain ⟨b⟩ := b
   dsimp only at hm ⊢
   refine Ak (b := b) (by simp [go_sem]) ?_
   cases b with
   | true => exact AH (by simp [go_sem]; exact no 22 _ (by decide))
   | false =>
   simp only [Bool.false_eq_true, if_false]
   have hm2 := hm.2 rfl
   refine BM 0 (α := Bx) (fun b => [(0, .ptr K.p 0), (1, AA el), (2, AV ls), (3, AA i), (9, .iptr [AA x.rev, AA x.key, AA x.before, .bool x.had]), (23, .bool b.b)]) (fun _ => H) (fun b m => n ≤ m) ?_ (fun b m hm => ?_)
   · simp [go_sem]
     refine (c220 _ _).use ?_
     simp [go_sem, Fz.same, hm.1]; exact ⟨⟨_⟩, rfl⟩
   obtain ⟨b⟩ := b
   dsimp only at hm ⊢
   refine Ak (b := b) (by simp [go_sem]) ?_
   cases b with
   | true => exact AH (by simp [go_sem]; exact no 4 _ (by decide))
   | false =>
   simp only [Bool.false_eq_true, if_false]
   refine BM 0 (α := Bx) (fun b => [(0, .ptr K.p 0), (9, .iptr [AA x.rev, AA x.key, AA x.before, .bool x.had]), (29, .bool b.b)]) (fun _ => H) (fun b m => n ≤ m) ?_ (fun b m hm => ?_)
   · by_cases i0 : 0 < i
     · have hi1 : i - 1 < ls.length := by omega
       obtain ⟨y, hy⟩ : ∃ y, ls[i - 1] = y := ⟨_, rfl⟩
       have w : IntKind.i64.wrap ((i : Int) - 1) = ((i - 1 : Nat) : Int) := by rw [C8] <;> omega
       simp [go_sem, Fz.same, i0, w, hi1, hy, BD.enc, hm]
       repeat first | refine nq ?_ | refine sq ?_ | refine aq ?_
       exact ⟨⟨_⟩, rfl⟩
     · simp [go_sem, Fz.same, i0, hm]
       repeat first | refine nq ?_ | refine sq ?_ | refine aq ?_
       exact ⟨⟨_⟩, rfl⟩
   obtain ⟨b⟩ := b
   dsimp only at hm ⊢
   refine Ak (b := b) (by simp [go_sem]) ?_
   cases b with
   | true => exact AH (by simp [go_sem]; exact no 6 _ (by decide))
   | false =>
   simp only [Bool.false_eq_true, if_false]
   refine AH ?_
   cases hh : x.had with
   | false =>
    simp [go_sem]
    refine (Iv _ _).use ?_
    simp [go_sem]
    exact hK.no hn ho s hs _ ⟨rfl, fun _ => hm2⟩ AB
   | true =>
    simp [go_sem, Fz.same]
    exact ⟨hm, hm2⟩
 · have ret : ∀ (e : Int) (H2 : Hp) (m : Nat), (∀ j y, H j = some y → H2 j = some y) → CG n H2 m (AA e) (CQ K (Sw K s x) H n) := fun e H2 m hh => hK.no hn ho s hs e ⟨rfl, fun _ => hm.2⟩ hh
   refine AX 0 (α := Int) (fun e => [(8, AA e)]) (fun _ => H) (fun _ m => n ≤ m) (CK trL rfl (by kernel_rfl) (by kernel_rfl) ?_) (fun e m hm => ?_)
   · simp [go_sem, trL]
     refine (Tu _ _).use ?_
     simp [go_sem]
     refine SC.use (d157 hK s x.key x.before hs) ?_
     rintro v H' n' ⟨⟨e, rfl⟩, rfl, rfl⟩
     simp [go_sem]
     refine Ag.fz (bs := [.imm 1 ([EB x.key x.before, e].map AA) false]) (h2 := H') 1 (AL (fun j z e => by have := hHb j z e; omega) AB) ⟨?_, trivial⟩ ?_
     · exact Dq (es := [AA (EB x.key x.before), AA e]) (Af hHb hm.1) (by simp) (by rw [AC]; simp [SV.cells]) (by simp [SV.storable, SV.cells])
     refine (Ox _ (by simp)).use ?_
     simp [go_sem]
     first | exact ⟨by omega, _, Fz.same⟩ | exact ⟨_, by omega, Fz.same⟩ | exact ⟨_, Fz.same⟩
   · refine AH ?_
     simp [go_sem]
     exact ret _ _ _ AB
end
section
variable {K : Ck} {n0 : Nat}
def allT (I : FT → Prop) (e : Int) (s' : FT) : Prop := e = 0 → I s'
theorem d150 (hK : K.ok n0) (N : Nat) (hN : N ≤ 1048576) (g : FuncId) (a b : List SV) (I : Nat → FT → Prop)
 (step : ∀ i s' H n, i < N → I i s' → n0 ≤ n → (∀ o y, K.st s' o = some y → H o = some y) → BO Tryz.prog g (a ++ [AA i] ++ b) H n (CQ K (allT (I (i + 1))) H n))
 (s : FT) (h0 : I 0 s) {H : Hp} {n : Nat} (hn : n0 ≤ n) (hs : ∀ o y, K.st s o = some y → H o = some y) :
 BO Tryz.prog 150 [AA N, .fn (.func g) a b] H n (CQ K (allT (I N)) H n) := by
 have D := hK.clo
 refine gq Tryz.func150 rfl fun ho => ?_
 simp [go_sem]
 refine An 0 (α := Nat × FT) (fun q => [(1, .fn (.func g) a b), (7, AA N), (8, AA q.1)]) (fun q => Az K.st q.2 H) (fun q m => q.1 ≤ N ∧ n ≤ m ∧ I q.1 q.2) (fun q => N - q.1) (0, s) ?_ ?_ ?_ ?_
 · exact ⟨Nat.zero_le _, Nat.le_refl _, h0⟩
 · simp [Ai, Fz]
 · rw [Et s H hs]; exact AB
 rintro ⟨i, s'⟩ m ⟨hi, hnm, hI⟩
 dsimp only at hi hI ⊢
 by_cases hlt : i < N
 · have w1 := wS i (by omega)
   have hc := step i s' (Az K.st s' H) m hlt hI (by omega) CL
   simp only [List.append_assoc, List.cons_append, List.nil_append] at hc
   simp [go_sem, hlt]
   refine SC.use hc ?_
   rintro v H' n' ⟨e, s2, rfl, hT, rfl, rfl⟩
   rw [D.up2]
   by_cases e0 : e = 0
   · subst e0
     simp [go_sem, w1, -Int.natCast_add]
     exact ⟨i + 1, by omega, s2.1, s2.2, ⟨by omega, hnm, hT rfl⟩, rfl, AB⟩
   · simp [go_sem, e0]
     exact hK.ret hn ho e s2 (fun g => absurd g e0) AB
 · have : i = N := by omega
   subst this
   simp [go_sem]
   exact hK.ret hn ho 0 s' (fun _ => hI) AB
theorem d158 (hK : K.ok n0) (s : FT) (el ins mv : Int) (dl : SV) (ls : List BD) (hls : ls.length ≤ 1048576) (i : Nat) (hi : i < ls.length) {H : Hp} {n : Nat} (hn : n0 ≤ n) (hs : ∀ o y, K.st s o = some y → H o = some y) :
 BO Tryz.prog 158 [AA i, .iptr [.ptr K.p 0], .iptr [AA el], .iptr [AA ins, AA mv, dl, AV ls]] H n (CQ K (Sw K s ls[i]) H n) := by
 refine gq Tryz.func158 rfl fun ho => ?_
 simp [go_sem]
 refine SC.use (d159 hK s el ls hls i hi hn hs) ?_
 rintro v H' n' ⟨e, s2, rfl, hT, rfl, rfl⟩
 simp [go_sem]
 exact hK.ret hn ho e s2 hT AB
end
end Go.Proofs.YtgakninlhfkkmaaGreat.Sh
