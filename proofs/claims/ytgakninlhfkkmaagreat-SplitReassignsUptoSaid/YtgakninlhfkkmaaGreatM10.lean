/- A part of the proof (part 10 of 14). -/
import Derived.Test.YtgakninlhfkkmaaGreatM9
namespace Go.Proofs.YtgakninlhfkkmaaGreat.Sh
open Proofs
set_option maxRecDepth 10000
section
variable {σ : Type} {st : σ → Nat → Option BY} {n0 : Nat} {g : FuncId} {a b : List SV} {f : σ → B6 → AF × Bool × σ} {ok : AF → Prop} {fl : Int → List AE → BD → Bool → σ → List AE × σ} {P : List AE → Prop}
theorem QO {X : Hp} {n m : Nat} {o : Option Nat} {es : List SV} (H : BQ n m 11 o es) (hX : ∀ j, o = some j → X j = some (.cells (es.flatMap SV.cells))) (xs : List AE) (hroom : es.length + xs.length ≤ 1073741824) (p : Nat) :
 (xs = [] ∧ AT Tryz.prog X p .append [22, 22] [AQ 11 o es, AG xs] = some { val := AQ 11 o es }) ∨
 (xs ≠ [] ∧ AT Tryz.prog X p .append [22, 22] [AQ 11 o es, AG xs] = some { val := .sl p 0 11 (es.length + xs.length) false, upd := o.map fun j => (j, none), new := some (.cells (es.flatMap SV.cells ++ (xs.map AE.enc).flatMap SV.cells)) }) := by
 by_cases hx : xs = []
 · subst hx
   refine .inl ⟨rfl, Nn (len := es.length) ?_⟩
   cases o with
   | none => exact .inl rfl
   | some j => exact .inr ⟨j, rfl⟩
 · refine .inr ⟨hx, ?_⟩
   have hxl : xs.length ≠ 0 := by cases xs <;> simp at hx ⊢
   cases o with
   | none =>
    have he := H.none rfl
    subst he
    have := Ke (H := X) (p := p) (len := 0) (m := xs.length) (s := .imm 0 [] true) (x := AG xs) (xs := []) (ys := (xs.map AE.enc).flatMap SV.cells) (upd := none) (.inl ⟨rfl, rfl, rfl, rfl⟩) (by simp [ID]) (by simp [Ea]) rfl hxl (by omega)
    simpa [AQ] using this
   | some j =>
    have hj := hX j rfl
    have := Ke (H := X) (p := p) (len := es.length) (m := xs.length) (s := .sl j 0 11 es.length false) (x := AG xs) (xs := es.flatMap SV.cells) (ys := (xs.map AE.enc).flatMap SV.cells) (upd := some (j, none)) (.inr ⟨j, _, rfl, hj, by simp [Bm, BK H.size]; rw [← BK H.size, KE], rfl⟩) (by simp [ID]) (by simp [Ea]) rfl hxl (by omega)
    simpa [AQ] using this
theorem HR {h X : Hp} {n m p : Nat} {o : Option Nat} {es : List SV} (hb : ∀ j y, h j = some y → j < n) (hnm : n ≤ m) (H : BQ n m 11 o es) (hm : m ≤ p) (hX : ∀ j y, AS o es h j = some y → X j = some y) (xs : List AE) (hroom : es.length + xs.length ≤ 1073741824) :
 ∃ out, AT Tryz.prog X p .append [22, 22] [AQ 11 o es, AG xs] = some out ∧ ∃ o', BQ n (if out.new.isSome = true then p + 1 else p) 11 o' (es ++ xs.map AE.enc) ∧ out.val = AQ 11 o' (es ++ xs.map AE.enc) ∧ ∀ j y, AS o' (es ++ xs.map AE.enc) h j = some y → (Cu.app X p out) j = some y := by
 have hX1 : ∀ j, o = some j → X j = some (.cells (es.flatMap SV.cells)) := fun j e => hX j _ (E3 j e)
 have hX2 : ∀ j y, h j = some y → X j = some y := fun j y e => hX j y (DO hb H j y e)
 rcases QO H hX1 xs hroom p with ⟨rfl, e⟩ | ⟨hne, e⟩
 · exact ⟨_, e, o, by simpa using H.mono hm, by simp, fun j y e => by simp at e; simpa [Cu.app] using hX j y e⟩
 · refine ⟨_, e, some p, ⟨by simp, fun j e => by cases e; simp; omega, fun e he => ?_⟩, by simp [AQ], fun j y e => ?_⟩
   · rcases Kz.1 he with he | he
     · exact H.size e he
     · exact AE.E.size xs e he
   · simp only [AS, YM] at e
     by_cases e1 : j = p
     · subst e1
       rw [AC] at e
       simp only [Cu.app, AC]; exact e
     · rw [AD _ _ e1] at e
       have h1 := hb j y e
       have h2 := hX2 j y e
       cases o with
       | none => simp [Cu.app, AD _ _ e1, h2]
       | some q =>
        have h3 := (H.lt q rfl).1
        simp [Cu.app, AD _ _ e1, AD _ _ (show j ≠ q by omega), h2]
theorem RW (C : Ng st n0 g a b f ok) (hfl : FlC st n0 g a b fl P) (l : List AE) (hl : l.length ≤ 1048576) (hr : ∀ x ∈ l, okI ok P x) (id : Int) (sc : BD) (mid : Bool) (hns : ¬ (id = sc.id ∧ mid = false)) (s : σ) {H : Hp} {n : Nat} (hn : n0 ≤ n) (hs : ∀ o y, st s o = some y → H o = some y) :
 BN Tryz.prog 115 [AG l, AA id, sc.enc, .bool mid, .fn (.func g) a b] H n (fun v h' n' => v = AG (Cb f fl sc mid l s).1 ∧ h' = As st (Cb f fl sc mid l s).2 H ∧ n' = n) := by
 have D := C.cx
 refine Tt (mid := mid) (sc := sc) C hfl l hl hr id hns s hn hs fun ho o m hm hA => ?_
 exact Hg (D.old _ hn ho) hA (fun e he => by obtain ⟨x, _, rfl⟩ := Y5.1 he; exact AE.cl n x)
set_option maxHeartbeats 2000000 in
theorem d115 (C : Ng st n0 g a b f ok) (hp : AF → Prop) (K : Nat) (hK : K ≤ 349525) (hok : ∀ h : AF, hp h → ok h ∧ h.sized) : ∀ N, FlC st n0 g a b (B8 f N) (Ex hp K N)
 | 0 => fun id l sc mid s H n h => h.elim
 | N + 1 => fun id l sc mid s H n hl hn hs => by
  have ih := d115 C hp K hK hok N
  have D := C.cx
  have hsz := hl.sized (fun h e => (hok h e).2) (by omega)
  have htx : ∀ x ∈ l, x.text.size ≤ 1048576 := ZC hsz.2
  have hparts : ∀ l, Ex hp K (N + 1) l → ∀ x ∈ l, okI ok (Ex hp K N) x := fun l hl x hx => by
   obtain ⟨h1, h2, h3⟩ := Ds.1 hl
   obtain ⟨h4, h5, h6, h7⟩ := h3 x hx
   exact ⟨(hok _ h4).1, by have := It hx; omega, h5, by omega, fun r hr => ⟨(hok _ (h7 r hr).1).1, by have := (h7 r hr).2.1; omega, fun c hc => ⟨(hok _ ((h7 r hr).2.2 c hc).1).1, ((h7 r hr).2.2 c hc).2⟩⟩⟩
  by_cases hin : id = sc.id ∧ mid = false
  · have he : B8 f (N + 1) id l sc mid s = ((Cb f (B8 f N) A9 false (Ab l 0 sc.a).1 s).1 ++ (Cb f (B8 f N) A9 true (Ab l sc.a sc.b).1 (Cb f (B8 f N) A9 false (Ab l 0 sc.a).1 s).2).1 ++ (Cb f (B8 f N) A9 false (Ab l sc.b (BI l).1).1 (Cb f (B8 f N) A9 true (Ab l sc.a sc.b).1 (Cb f (B8 f N) A9 false (Ab l 0 sc.a).1 s).2).2).1, (Cb f (B8 f N) A9 false (Ab l sc.b (BI l).1).1 (Cb f (B8 f N) A9 true (Ab l sc.a sc.b).1 (Cb f (B8 f N) A9 false (Ab l 0 sc.a).1 s).2).2).2) := by rw [B8, if_pos hin]
    obtain ⟨rfl, rfl⟩ := hin
    rw [he]
    have l1 := Fv 0 sc.a hl
    have l2 := Fv sc.a sc.b hl
    have l3 := Fv sc.b (BI l).1 hl
    have n1 := Dt l 0 sc.a
    have n2 := Dt l sc.a sc.b
    have n3 := Dt l sc.b (BI l).1
    have hlK := hl.1
    have c1 := QP l 0 sc.a hsz.1 hsz.2
    have c2 := QP l sc.a sc.b hsz.1 hsz.2
    have c3 := QP l sc.b (BI l).1 hsz.1 hsz.2
    refine Da Tryz.func115 rfl fun ho => ?_
    have hU : ∀ s', FM (As st s' H) n := fun s' => D.old s' hn ho
    have hUb : ∀ s' j y, As st s' H j = some y → j < n := fun s' j y e => (hU s' j y e).1
    refine AZ 1 [(0, AG l), (1, AA sc.id), (3, .bool false), (4, .fn (.func g) a b), (7, .iptr [AA sc.id, AA sc.a, AA sc.b])] (As st s H) n ?_ (fun m hm => ?_)
    · simp [go_sem, BD.enc, Jo, DH s H hs]
      refine ⟨AW (ho.none (JO n)) (by simp [hset]), fun j y e => by rw [AD _ _ (by have := (ho j y e).1; omega)]; exact e⟩
    refine FW ?_
    refine CJ 0 [(0, AG l), (4, .fn (.func g) a b), (7, .iptr [AA sc.id, AA sc.a, AA sc.b]), (39, .bool true)] (As st s H) m ?_ (fun m' hm' => ?_)
    · simp [go_sem, Jo]
    subst hm'
    refine Ap (b := true) (by simp [go_sem]) ?_
    rw [if_pos rfl]
    refine AZ 0 [(0, AG l), (4, .fn (.func g) a b), (7, .iptr [AA sc.id, AA sc.a, AA sc.b]), (11, AG (Ab l 0 sc.a).1)] (As st s H) m ?_ (fun m2 hm2 => ?_)
    · simp [go_sem]
      refine Y4 c1 ?_
      simp [go_sem, Jo]
    refine AZ 0 [(0, AG l), (4, .fn (.func g) a b), (7, .iptr [AA sc.id, AA sc.a, AA sc.b]), (11, AG (Ab l 0 sc.a).1), (13, AG (Ab l sc.a sc.b).1)] (As st s H) m2 ?_ (fun m3 hm3 => ?_)
    · simp [go_sem]
      refine Y4 c2 ?_
      simp [go_sem, Jo]
    refine AZ 0 [(0, AG l), (4, .fn (.func g) a b), (7, .iptr [AA sc.id, AA sc.a, AA sc.b]), (11, AG (Ab l 0 sc.a).1), (13, AG (Ab l sc.a sc.b).1), (15, AA (BI l).1)] (As st s H) m3 ?_ (fun m4 hm4 => ?_)
    · simp [go_sem]
      refine Y4 (Ts l hsz.1 htx) ?_
      simp [go_sem, Jo]
    refine AZ 0 [(4, .fn (.func g) a b), (11, AG (Ab l 0 sc.a).1), (13, AG (Ab l sc.a sc.b).1), (17, AG (Ab l sc.b (BI l).1).1)] (As st s H) m4 ?_ (fun m5 hm5 => ?_)
    · simp [go_sem]
      refine Y4 c3 ?_
      simp [go_sem, Jo]
    refine AZ 1 [(4, .fn (.func g) a b), (11, AG (Ab l 0 sc.a).1), (13, AG (Ab l sc.a sc.b).1), (17, AG (Ab l sc.b (BI l).1).1), (19, .iptr [AA (-1), AA 0, AA 0])] (As st s H) m5 ?_ (fun m6 hm6 => ?_)
    · simp [go_sem, Jo, AC, Ai]
      exact ⟨AW (Ad (hUb _) (by omega)) (AC _ _ _), AJ (fun j z e => by have := hUb s j z e; omega) AB⟩
    generalize hr1 : (Ab l 0 sc.a).1 = r1 at l1 n1 ⊢
    generalize hr2 : (Ab l sc.a sc.b).1 = r2 at l2 n2 ⊢
    generalize hr3 : (Ab l sc.b (BI l).1).1 = r3 at l3 n3 ⊢
    have hno : ¬ ((-2 : Int) = A9.id ∧ false = false) := by simp [A9]
    have hno2 : ¬ ((-2 : Int) = A9.id ∧ true = false) := by simp
    have w1 := fun m (hm : n ≤ m) => Tt (mid := false) (sc := A9) C ih r1 (by omega) (hparts r1 l1) (-2) hno s (H := As st s H) (n := m) (by omega) Bu (Q := fun v h' n' => m ≤ n' ∧ ∃ o, BQ m n' 11 o ((Cb f (B8 f N) A9 false r1 s).1.map AE.enc) ∧ v = AQ 11 o ((Cb f (B8 f N) A9 false r1 s).1.map AE.enc) ∧ h' = AS o ((Cb f (B8 f N) A9 false r1 s).1.map AE.enc) (As st (Cb f (B8 f N) A9 false r1 s).2 H)) (fun _ o m' hm' hA => .inl ⟨hm', o, hA, rfl, by rw [D.up2]⟩)
    have e1 := H6 (f := f) (fl := B8 f N) (sc := A9) (mid := false) r1 ([], s)
    have z1 : Cb f (B8 f N) A9 false r1 s = r1.foldl (HK f (B8 f N) A9 false) ([], s) := rfl
    rw [← z1] at e1
    generalize Cb f (B8 f N) A9 false r1 s = q1 at w1 e1 ⊢
    obtain ⟨q1, s1⟩ := q1
    have w2 := fun (X : Hp) (hX : ∀ k w, st s1 k = some w → X k = some w) m (hm : n ≤ m) => RW C ih r2 (by omega) (hparts r2 l2) (-2) A9 true hno2 s1 (H := X) (n := m) (by omega) hX
    have e2 := H6 (f := f) (fl := B8 f N) (sc := A9) (mid := true) r2 ([], s1)
    have z2 : Cb f (B8 f N) A9 true r2 s1 = r2.foldl (HK f (B8 f N) A9 true) ([], s1) := rfl
    rw [← z2] at e2
    dsimp only at w1 e1 ⊢
    generalize Cb f (B8 f N) A9 true r2 s1 = q2 at w2 e2 ⊢
    obtain ⟨q2, s2⟩ := q2
    have w3 := fun (X : Hp) (hX : ∀ k w, st s2 k = some w → X k = some w) m (hm : n ≤ m) => RW C ih r3 (by omega) (hparts r3 l3) (-2) A9 false hno s2 (H := X) (n := m) (by omega) hX
    have e3 := H6 (f := f) (fl := B8 f N) (sc := A9) (mid := false) r3 ([], s2)
    have z3 : Cb f (B8 f N) A9 false r3 s2 = r3.foldl (HK f (B8 f N) A9 false) ([], s2) := rfl
    rw [← z3] at e3
    dsimp only at w2 e2 ⊢
    generalize Cb f (B8 f N) A9 false r3 s2 = q3 at w3 e3 ⊢
    obtain ⟨q3, s3⟩ := q3
    dsimp only at w3 e3 ⊢
    simp only [BD.enc, A9] at w1 w2 w3
    simp only [ZL, YV] at e1 e2 e3
    have hlo : ∀ {m m2 : Nat} {o : Option Nat} {es : List SV}, n ≤ m → BQ m m2 11 o es → BQ n m2 11 o es := fun h H => ⟨H.none, fun j e => ⟨by have := (H.lt j e).1; omega, (H.lt j e).2⟩, H.size⟩
    refine BO 0 (α := Option Nat) (fun o => [(4, .fn (.func g) a b), (13, AG r2), (17, AG r3), (19, .iptr [AA (-1), AA 0, AA 0]), (20, AQ 11 o (q1.map AE.enc))]) (fun o => AS o (q1.map AE.enc) (As st s1 H)) (fun o m => n ≤ m ∧ BQ n m 11 o (q1.map AE.enc)) ?_ (fun o m7 hm7 => ?_)
    · simp [go_sem]
      refine Y9 (w1 m6 (by omega)) ?_
      rintro v H' n' ⟨h1, o, h2, rfl, rfl⟩
      simp [go_sem, Jo]
      exact ⟨o, ⟨by omega, hlo (by omega) h2⟩, rfl, AB⟩
    obtain ⟨hm7, hA1⟩ := hm7
    refine BO 0 (α := Option Nat) (fun o => [(4, .fn (.func g) a b), (17, AG r3), (19, .iptr [AA (-1), AA 0, AA 0]), (20, AQ 11 o (q1.map AE.enc ++ q2.map AE.enc))]) (fun o => AS o (q1.map AE.enc ++ q2.map AE.enc) (As st s2 H)) (fun o m => n ≤ m ∧ BQ n m 11 o (q1.map AE.enc ++ q2.map AE.enc)) ?_ (fun o m8 hm8 => ?_)
    · have w := w2 (AS o (q1.map AE.enc) (As st s1 H)) (D.has hn hA1 Bu) m7 hm7
      rw [D.acc hn hA1, D.up2] at w
      simp [go_sem]
      refine Y9 w ?_
      rintro v H' n' ⟨rfl, rfl, rfl⟩
      obtain ⟨out, b1, o', b2, b3, b4⟩ := HR (h := As st s2 H) (hUb s2) hm7 hA1 (JO _) (X := AS o (q1.map AE.enc) (As st s2 H)) AB q2 (by rw [Kj]; omega)
      simp [go_sem, Jo, b1]
      exact ⟨o', ⟨by split <;> omega, b2⟩, b3, b4⟩
    obtain ⟨hm8, hA2⟩ := hm8
    refine BO 0 (α := Option Nat) (fun o => [(10, AQ 11 o ((q1 ++ q2 ++ q3).map AE.enc))]) (fun o => AS o ((q1 ++ q2 ++ q3).map AE.enc) (As st s3 H)) (fun o m => n ≤ m ∧ BQ n m 11 o ((q1 ++ q2 ++ q3).map AE.enc)) ?_ (fun o m9 hm9 => ?_)
    · have w := w3 (AS o (q1.map AE.enc ++ q2.map AE.enc) (As st s2 H)) (D.has hn hA2 Bu) m8 hm8
      rw [D.acc hn hA2, D.up2] at w
      simp [go_sem]
      refine Y9 w ?_
      rintro v H' n' ⟨rfl, rfl, rfl⟩
      obtain ⟨out, b1, o', b2, b3, b4⟩ := HR (h := As st s3 H) (hUb s3) hm8 hA2 (JO _) (X := AS o (q1.map AE.enc ++ q2.map AE.enc) (As st s3 H)) AB q3 (by simp; omega)
      simp [go_sem, b1]
      simp only [KF] at b2 b3 b4
      exact ⟨o', ⟨by split <;> omega, b2⟩, b3, b4⟩
    · refine AK ?_
      simp [go_sem]
      have := Hg (n' := m9) (hU s3) hm9.2 (fun e he => by obtain ⟨x, _, rfl⟩ := Y5.1 he; exact AE.cl n x)
      simp only [AG, K1, KF] at this ⊢
      exact this
  · have he : B8 f (N + 1) id l sc mid s = Cb f (B8 f N) sc mid l s := by rw [B8, if_neg hin]
    rw [he]
    exact RW C ih l hsz.1 (hparts l hl) id sc mid hin s hn hs
end
section
variable {σ : Type} {st : σ → Nat → Option BY} {n0 : Nat} {g : FuncId} {a b : List SV} {f : σ → B6 → AF × Bool × σ} {ok : AF → Prop} {sc : BD}
def JI (f : σ → B6 → AF × Bool × σ) (sc : BD) (N : Nat) (d : AH) (revs : List Av) (s : σ) : AH × σ :=
 (⟨(B8 f N 0 d.flow sc false s).1, (f (B8 f N 0 d.flow sc false s).2 ⟨d.«end», false, 1⟩).1, revs, d.settings⟩, (f (B8 f N 0 d.flow sc false s).2 ⟨d.«end», false, 1⟩).2.2)
set_option maxHeartbeats 2000000 in
theorem d39R (C : Ng st n0 g a b f ok) (hp : AF → Prop) (K : Nat) (hK : K ≤ 349525) (hok : ∀ h : AF, hp h → ok h ∧ h.sized) (N : Nat) (d : AH) (revs : List Av) (s : σ) (hl : Ex hp K N d.flow) (hend : hp d.«end»)
 (h1 : (JI f sc N d revs s).1.sized) (h2 : (JI f sc N d revs s).1.normal.sized) (h3 : (Bb [] (AE.usL (AP (JI f sc N d revs s).1.flow) ++ (JI f sc N d revs s).1.«end».all)).length ≤ 1048576) {H : Hp} {n : Nat} (hn : n0 ≤ n) (hs : ∀ o y, st s o = some y → H o = some y) :
 BN Tryz.prog 39 [d.enc, sc.enc, Aj revs, .fn (.func g) a b] H n (fun v h' n' => v = (JI f sc N d revs s).1.normal.enc ∧ h' = As st (JI f sc N d revs s).2 H ∧ n' = n) := by
 refine Da Tryz.func39 rfl fun ho => ?_
 have D := C.cx
 have hU : ∀ s', FM (As st s' H) n := fun s' => D.old s' hn ho
 have hUb : ∀ s' j y, As st s' H j = some y → j < n := fun s' j y e => (hU s' j y e).1
 have e1 : n + 2 ≠ n := by omega
 have e2 : n ≠ n + 2 := by omega
 have hlive : ∀ s' y z, ∀ j w, As st s' H j = some w → hset (hset (As st s' H) n y) (n + 2) z j = some w := fun s' y z => AJ (fun j z e => by have := hUb s' j z e; omega) (AJ (hUb s') AB)
 have hup : ∀ s1 s' y z, As st s' (hset (hset (As st s1 H) n y) (n + 2) z) = hset (hset (As st s' H) n y) (n + 2) z := fun s1 s' y z => by rw [← D.hset _ _ (by omega), ← D.hset _ _ (by omega), D.up2]
 have hhas : ∀ s' y z, ∀ k w, st s' k = some w → hset (hset (As st s' H) n y) (n + 2) z k = some w := fun s' y z => Eg C.lt (by omega) z (Eg C.lt hn y Bu)
 refine Bn 1 [(2, Aj revs), (3, .fn (.func g) a b), (4, .ptr n 0), (5, .iptr [AA sc.id, AA sc.a, AA sc.b]), (8, .ptr (n + 2) 0)] (hset (hset (As st s H) n (some (.cells ([AG d.flow] ++ d.«end».flat ++ [Aj d.revs] ++ d.settings.flat)))) (n + 2) (some (.cells EG))) (fun m => m = n + 3) ?_ (fun m hm => ?_)
 · simp [go_sem, BD.enc, Jo, DH s H hs, AH.enc, AF.flat, AI.flat, Y6, EG]
   refine ⟨AW (by rw [AD _ _ (by omega), AD _ _ (by omega)]; exact ho.none (by omega)) (by simp [hset]), fun j y => ?_⟩
   have := ho j y; simp only [hset]; grind
 subst hm
 have c1 := d115 C hp K hK hok N 0 d.flow sc false s
 simp only [JI] at h1 h2 h3 ⊢
 generalize B8 f N 0 d.flow sc false s = q at c1 h1 h2 h3 ⊢
 obtain ⟨q, s1⟩ := q
 dsimp only at c1 h1 h2 h3 ⊢
 refine Bn 0 [(2, Aj revs), (3, .fn (.func g) a b), (4, .ptr n 0), (8, .ptr (n + 2) 0)] (hset (hset (As st s1 H) n (some (.cells ([AG q] ++ d.«end».flat ++ [Aj d.revs] ++ d.settings.flat)))) (n + 2) (some (.cells EG))) (fun m => n + 3 ≤ m) ?_ (fun m hm => ?_)
 · have c2 := fun y z m (hm : n ≤ m) => c1 (hset (hset (As st s H) n y) (n + 2) z) m hl (by omega) (hhas s y z)
   simp only [hup, BD.enc] at c2
   simp [go_sem, AF.flat, AI.flat, AC, AD]
   refine Y9 (c2 _ _ _ (by omega)) ?_
   rintro v H' n' ⟨rfl, rfl, rfl⟩
   simp [go_sem, Jo, AC, AD, EW e2]
 have c3 := fun y z m (hm : n ≤ m) => C.call s1 ⟨d.«end», false, 1⟩ (hset (hset (As st s1 H) n y) (n + 2) z) m (hok _ hend).1 (by omega) (hhas s1 y z)
 generalize f s1 ⟨d.«end», false, 1⟩ = r at c3 h1 h2 h3 ⊢
 obtain ⟨h', k, s2⟩ := r
 simp only [hup, Y7, Yc, KF] at c3
 dsimp only at c3 h1 h2 h3 ⊢
 refine AZ 0 [(2, Aj revs), (4, .ptr n 0), (8, .ptr (n + 2) 0)] (hset (hset (As st s2 H) n (some (.cells ([AG q] ++ h'.flat ++ [Aj d.revs] ++ d.settings.flat)))) (n + 2) (some (.cells EG))) m ?_ (fun m2 hm2 => ?_)
 · simp [go_sem, AF.flat, AI.flat, AC, AD]
   refine Y9 (c3 _ _ _ (by omega)) ?_
   rintro v H' n' ⟨rfl, rfl, rfl⟩
   simp [go_sem, Jo, AC, AD, EW e2, AF.enc, AF.flat]
 refine AZ 0 [(4, .ptr n 0), (8, .ptr (n + 2) 0)] (hset (hset (As st s2 H) n (some (.cells ([AG q] ++ h'.flat ++ [Aj revs] ++ d.settings.flat)))) (n + 2) (some (.cells EG))) m2 ?_ (fun m3 hm3 => ?_)
 · simp [go_sem, Jo, AF.flat, AI.flat, AC, AD, EW e2]
 generalize hD : (⟨q, h', revs, d.settings⟩ : AH) = D at h1 h2 h3 ⊢
 have hDf : q = D.flow ∧ h' = D.«end» ∧ revs = D.revs ∧ d.settings = D.settings := by rw [← hD]; exact ⟨rfl, rfl, rfl, rfl⟩
 obtain ⟨f1, f2, f3, f4⟩ := hDf
 rw [f1, f2] at h3
 rw [f1, f2, f3, f4]
 refine AK ?_
 simp [go_sem, AF.flat, AI.flat, AC, AD]
 refine Y4 (by simpa [AH.enc, AF.flat, AI.flat] using c21 D h1 h2 h3) ?_
 generalize hE : D.normal = E
 have hcl : closed n E.enc = true := by simp [AH.enc, AF.flat, AI.flat, closed, closedL, AE.E.closedL, Eu.E.closedL, BS.E.closedL, Az.E.closedL, Av.E.closedL, A7.E.closedL, FL.E.closedL, Aw.E.closedL, FX.E.closedL]
 simp [go_sem, AH.enc, AF.flat, AI.flat, AC, EG]
 simp only [AH.enc, AF.flat, AI.flat, Y7, Yc] at hcl
 exact CY (hU s2) hcl (AJ (fun j z e => by have := hUb s2 j z e; omega) (hlive s2 _ _))
end
def TC (f : FuncId) (args : List SV) (T : SV → Prop) : Prop := ∀ h n, BN Tryz.prog f args h n (fun v h' n' => T v ∧ h' = h ∧ n' = n)
theorem TC.use {E : By} {f : FuncId} {args : List SV} {T : SV → Prop} (H : TC f args T) {h : Hp} {n : Nat} {K : SV → Hp → Nat → Prop} (hk : ∀ v, T v → K v h n) : Ak E Tryz.prog f args h n K :=
 Ak.lift <| (H h n).mono fun v _ _ ⟨e1, e2, e3⟩ => by subst e2; subst e3; exact hk v e1
theorem TC.mono {f : FuncId} {args : List SV} {T T' : SV → Prop} (H : TC f args T) (ht : ∀ v, T v → T' v) : TC f args T' := fun h n => (H h n).mono fun v _ _ ⟨e1, e2⟩ => ⟨ht v e1, e2⟩
theorem PC.t {f : FuncId} {args : List SV} {v : SV} {T : SV → Prop} (H : PC f args v) (hv : T v) : TC f args T := fun h n => (H h n).mono fun _ _ _ ⟨e1, e2, e3⟩ => ⟨by rw [e1]; exact hv, e2, e3⟩
theorem GG {h h' : Hp} {n n' : Nat} {v : SV} {T : SV → Prop} (ho : FM h n) (hh : ∀ o x, h o = some x → h' o = some x) (hc : closed n v = true) (hT : T v) : CE n h' n' v (fun v2 h2 n2 => T v2 ∧ h2 = h ∧ n2 = n) :=
 CE.plain hc ho hh ⟨hT, rfl, rfl⟩
theorem T5 {h h' : Hp} {n n' : Nat} {v' v : SV} {T : SV → Prop} (k : Nat) (ho : FM h n) (hh : ∀ o x, h o = some x → h' o = some x) (e : Fz h' h k v' v) (hc : closed n v = true) (hT : T v) : CE n h' n' v' (fun v2 h2 n2 => T v2 ∧ h2 = h ∧ n2 = n) :=
 .inr ⟨k, v, h, e, hc, fun o x e => ⟨hh o x e, ho o x e⟩, hT, rfl, rfl⟩
theorem TC.lend {E : By} {f : FuncId} {us bs : List SV} {T : SV → Prop} {h : Hp} {n : Nat} {K : SV → Hp → Nat → Prop} (k : Nat) (H : TC f bs T) (hp : ∀ v, T v → Dy v = true) (hw : AY (Fz h (fun _ => none) k) us bs) (hk : ∀ v, T v → K v h n) : Ak E Tryz.prog f us h n K := by
 refine ⟨(H h n).1, fun c vs _ R F A => ?_⟩
 have hs : ∀ o x, (fun _ => none : Hp) o = some x → h o = some x := fun _ _ e => by cases e
 have A' : AY (V (c.less fun _ => none)) bs vs := AY.trans3 (R := V c) (S := Fz h (fun _ => none) k) (T := V (c.less fun _ => none)) (fun a b g h1 h2 => Fz.sound R hs k h2 h1) A hw
 refine ((H (fun _ => none) n).2 (c.less fun _ => none) vs trivial (R.less hs) F A').mono ?_
 rintro e w' ⟨u, v', h', n', c', he, ⟨hT, rfl, rfl⟩, rfl, hv', R', F', X0⟩
 have hno : ∀ b, ¬ (c.less fun _ => none).own b := fun b ⟨o, x, e, _⟩ => by cases e
 have hρ : ∀ j, c'.ρ j = c.ρ j := fun j => by
  rcases Yr j n' with hj | hj
  · exact X0.same j hj
  · rw [F' j hj, F j hj]
 have X : Dc c { c with w := c'.w } := ⟨fun _ _ e => e, X0.ext.size, fun b hb ho => ⟨ho, (X0.ext.keep b hb (hno b)).2⟩, X0.ext.room, X0.ext.os, X0.ext.out⟩
 refine ⟨u, v', h, n', { c with w := c'.w }, he, hk v' hT, rfl, hv'.plain (hp v' hT), ⟨fun o x ho => ?_, R.inj2, R.own2⟩, F, ⟨X, JO _, fun _ _ => rfl⟩⟩
 refine (R.obj o x ho).mono X fun b hb => ?_
 exact (X0.ext.keep b ((R.obj o x ho).hold_lt hb) (hno b)).2
def Nc (T : Prop) (v : SV) : Prop := ∃ e : Int, v = AA e ∧ (e = 0 → T)
theorem Nc.plain {T : Prop} : ∀ v, Nc T v → Dy v = true := fun _ ⟨_, e, _⟩ => by rw [e]; rfl
theorem Nc.mono {T T' : Prop} (ht : T → T') : ∀ v, Nc T v → Nc T' v := fun _ ⟨e, h1, h2⟩ => ⟨e, h1, fun g => ht (h2 g)⟩
theorem Nc.no {T : Prop} {e : Int} (h : e ≠ 0) : Nc T (AA e) := ⟨e, rfl, fun g => absurd g h⟩
theorem Nc.ok {T : Prop} {e : Int} (h : T) : Nc T (AA e) := ⟨e, rfl, fun _ => h⟩
def Tw (x : AE) : Prop := (x.kind ≠ 6 → x.flow = []) ∧ (x.kind ≠ 7 → x.rows = [])
def Jj (x : AE) : Prop := (x.kind ≠ 6 → x.flow = []) ∧ (x.kind ≠ 7 → x.rows = []) ∧ Bd x.text = true
structure Bx where
 b : Bool
set_option maxHeartbeats 2000000 in
theorem t222 (x : AE) (hx : x.sized) : TC 222 [x.enc] (Nc (Jj x)) := by
 intro h n
 refine Da Tryz.func222 rfl fun ho => ?_
 obtain ⟨X, hX⟩ : ∃ X : SV, X = .iptr [AA x.kind, AA x.code, AA x.id, .str x.text, Ag x.head.props, AA x.head.ins, AA x.head.move, Aa x.head.dels, AO x.head.layers, AG x.flow, Ay x.rows] := ⟨_, rfl⟩
 refine AZ 1 [(1, X)] h n ?_ (fun m hm => ?_)
 · rw [hX]
   simp [go_sem, KW]
   exact ⟨AW (ho.none (JO n)) (AC _ _ _), AJ (fun j z e => (ho j z e).1) AB⟩
 refine BO 0 (α := Bx) (fun b => [(1, X), (3, .bool b.b)]) (fun _ => h) (fun _ m => n ≤ m) ?_ (fun b3 m hm => ?_)
 · rw [hX]
   by_cases k : x.kind = 8
   · simp [go_sem, Jo, k, hm]; exact ⟨⟨_⟩, rfl⟩
   · simp [go_sem, Jo, k, hm]; exact ⟨⟨_⟩, rfl⟩
 refine BO 0 (α := Bx) (fun b => [(1, X), (3, .bool b3.b), (4, .bool b.b)]) (fun _ => h) (fun _ m => n ≤ m) ?_ (fun b4 m hm => ?_)
 · rw [hX]
   by_cases k : x.kind = 1
   · simp [go_sem, Jo, k, hm]; exact ⟨⟨_⟩, rfl⟩
   · by_cases k5 : x.kind = 5
     · simp [go_sem, Jo, k5, hm]; exact ⟨⟨_⟩, rfl⟩
     · simp [go_sem, Jo, k, k5, hm]; exact ⟨⟨_⟩, rfl⟩
 refine BO 0 (α := Bx) (fun b => [(1, X), (3, .bool b3.b), (4, .bool b4.b), (5, .bool b.b)]) (fun _ => h) (fun _ m => n ≤ m) ?_ (fun b5 m hm => ?_)
 · rw [hX]
   by_cases k : x.kind = 6
   · simp [go_sem, Jo, k, hm]; exact ⟨⟨_⟩, rfl⟩
   · by_cases k5 : x.kind = 7
     · simp [go_sem, Jo, k5, hm]; exact ⟨⟨_⟩, rfl⟩
     · simp [go_sem, Jo, k, k5, hm]; exact ⟨⟨_⟩, rfl⟩
 obtain ⟨b3⟩ := b3
 obtain ⟨b4⟩ := b4
 obtain ⟨b5⟩ := b5
 dsimp only
 refine AZ 0 [(1, X), (3, .bool b3), (4, .bool b4), (5, .bool b5), (6, .bool true)] h n ?_ (fun m hm => ?_)
 · simp [go_sem, Jo, hm]
 refine BO 0 (α := Bx) (fun b => [(1, X), (3, .bool b3), (4, .bool b4), (5, .bool b5), (6, .bool b.b)]) (fun _ => h) (fun _ m => n ≤ m) ?_ (fun b6 m hm => ?_)
 · rw [hX]
   by_cases k : x.kind = 4
   · simp [go_sem, k]
     refine Y4 (Jd _ _ _) ?_
     simp [go_sem, Jo, hm]; exact ⟨⟨_⟩, rfl⟩
   · by_cases k2 : x.kind = 6
     · simp [go_sem, k2]
       refine Y4 (Jd _ _ _) ?_
       simp [go_sem, Jo, hm]; exact ⟨⟨_⟩, rfl⟩
     · by_cases k3 : x.kind = 8
       · simp [go_sem, k3]
         refine Y4 (Jd _ _ _) ?_
         simp [go_sem, Jo, hm]; exact ⟨⟨_⟩, rfl⟩
       · simp [go_sem, Jo, k, k2, k3, hm]; exact ⟨⟨_⟩, rfl⟩
 obtain ⟨b6⟩ := b6
 dsimp only
 refine BO 0 (α := Bx) (fun b => [(1, X), (3, .bool b3), (4, .bool b4), (5, .bool b5), (6, .bool b6), (7, .bool b.b)]) (fun _ => h) (fun _ m => n ≤ m) ?_ (fun b7 m hm => ?_)
 · rw [hX]
   by_cases k : x.kind = 4
   · simp [go_sem, Jo, k, hm]; exact ⟨⟨_⟩, rfl⟩
   · by_cases k5 : x.kind = 6
     · simp [go_sem, Jo, k5, hm]; exact ⟨⟨_⟩, rfl⟩
     · simp [go_sem, Jo, k, k5, hm]; exact ⟨⟨_⟩, rfl⟩
 obtain ⟨b7⟩ := b7
 dsimp only
 have out : ∀ (e : Int) (m : Nat), e ≠ 0 → CE n h m (AA e) (fun v h' n' => Nc (Jj x) v ∧ h' = h ∧ n' = n) := fun e m he => GG ho AB (by simp [closed]) (Nc.no he)
 refine CD 0 [] h (fun m => n ≤ m ∧ Jj x) ?_ (fun m hm => ?_)
 · refine AX ?_
   refine BO 0 (α := Bx) (fun b => [(1, X), (3, .bool b3), (4, .bool b4), (5, .bool b5), (7, .bool b7), (70, .bool b.b)]) (fun _ => h) (fun _ m => n ≤ m) ?_ (fun b70 m hm => ?_)
   · rw [hX]
     simp [go_sem]
     refine Y4 (Jd _ _ _) ?_
     by_cases c : 1 ≤ x.kind ∧ x.kind ≤ 8
     · simp [go_sem, Jo, c, hm]; exact ⟨⟨_⟩, rfl⟩
     · simp [go_sem, Jo, c, hm]; exact ⟨⟨_⟩, rfl⟩
   obtain ⟨b70⟩ := b70
   dsimp only
   refine Ap (b := b70) (by simp [go_sem]) ?_
   cases b70 with
   | true => exact AK (by simp [go_sem]; exact out _ _ (by decide))
   | false =>
   simp only [KC, if_false]
   refine BO 0 (α := Bx) (fun b => [(1, X), (3, .bool b3), (79, .bool b.b)]) (fun _ => h) (fun b m => n ≤ m ∧ (b.b = false → Tw x)) ?_ (fun b79 m hm => ?_)
   · rw [hX]
     clear out
     unfold Tw
     cases b7 with
     | true =>
      cases b5 with
      | true =>
       cases b4 with
       | true =>
        by_cases k6 : x.kind = 6
        · by_cases r0 : x.rows = []
          · simp [go_sem, Jo, hm, k6, r0]
            exact ⟨⟨false⟩, rfl⟩
          · have r1 : 0 < x.rows.length := Y2.2 r0
            simp [go_sem, Jo, hm, k6, r1]
            exact ⟨⟨true⟩, by simp, rfl⟩
        · by_cases f0 : x.flow = []
          · by_cases k7 : x.kind = 7
            · simp [go_sem, Jo, hm, f0, k7]
              exact ⟨⟨false⟩, rfl⟩
            · by_cases r0 : x.rows = []
              · simp [go_sem, Jo, hm, k6, f0, k7, r0]
                exact ⟨⟨false⟩, rfl⟩
              · have r1 : 0 < x.rows.length := Y2.2 r0
                simp [go_sem, Jo, hm, k6, f0, k7, r1]
                exact ⟨⟨true⟩, by simp, rfl⟩
          · have f1 : 0 < x.flow.length := Y2.2 f0
            simp [go_sem, Jo, hm, k6, f1]
            exact ⟨⟨true⟩, by simp, rfl⟩
       | false =>
        by_cases t0 : x.text.toList = []
        · by_cases k6 : x.kind = 6
          · by_cases r0 : x.rows = []
            · simp [go_sem, Jo, hm, t0, k6, r0]
              exact ⟨⟨false⟩, rfl⟩
            · have r1 : 0 < x.rows.length := Y2.2 r0
              simp [go_sem, Jo, hm, t0, k6, r1]
              exact ⟨⟨true⟩, by simp, rfl⟩
          · by_cases f0 : x.flow = []
            · by_cases k7 : x.kind = 7
              · simp [go_sem, Jo, hm, t0, f0, k7]
                exact ⟨⟨false⟩, rfl⟩
              · by_cases r0 : x.rows = []
                · simp [go_sem, Jo, hm, t0, k6, f0, k7, r0]
                  exact ⟨⟨false⟩, rfl⟩
                · have r1 : 0 < x.rows.length := Y2.2 r0
                  simp [go_sem, Jo, hm, t0, k6, f0, k7, r1]
                  exact ⟨⟨true⟩, by simp, rfl⟩
            · have f1 : 0 < x.flow.length := Y2.2 f0
              simp [go_sem, Jo, hm, t0, k6, f1]
              exact ⟨⟨true⟩, by simp, rfl⟩
        · simp [go_sem, Jo, hm, t0]
          exact ⟨⟨true⟩, by simp, rfl⟩
      | false =>
       by_cases i0 : x.id = 0
       · cases b4 with
         | true =>
          by_cases k6 : x.kind = 6
          · by_cases r0 : x.rows = []
            · simp [go_sem, Jo, hm, i0, k6, r0]
              exact ⟨⟨false⟩, rfl⟩
            · have r1 : 0 < x.rows.length := Y2.2 r0
              simp [go_sem, Jo, hm, i0, k6, r1]
              exact ⟨⟨true⟩, by simp, rfl⟩
          · by_cases f0 : x.flow = []
            · by_cases k7 : x.kind = 7
              · simp [go_sem, Jo, hm, i0, f0, k7]
                exact ⟨⟨false⟩, rfl⟩
              · by_cases r0 : x.rows = []
                · simp [go_sem, Jo, hm, i0, k6, f0, k7, r0]
                  exact ⟨⟨false⟩, rfl⟩
                · have r1 : 0 < x.rows.length := Y2.2 r0
                  simp [go_sem, Jo, hm, i0, k6, f0, k7, r1]
                  exact ⟨⟨true⟩, by simp, rfl⟩
            · have f1 : 0 < x.flow.length := Y2.2 f0
              simp [go_sem, Jo, hm, i0, k6, f1]
              exact ⟨⟨true⟩, by simp, rfl⟩
         | false =>
          by_cases t0 : x.text.toList = []
          · by_cases k6 : x.kind = 6
            · by_cases r0 : x.rows = []
              · simp [go_sem, Jo, hm, i0, t0, k6, r0]
                exact ⟨⟨false⟩, rfl⟩
              · have r1 : 0 < x.rows.length := Y2.2 r0
                simp [go_sem, Jo, hm, i0, t0, k6, r1]
                exact ⟨⟨true⟩, by simp, rfl⟩
            · by_cases f0 : x.flow = []
              · by_cases k7 : x.kind = 7
                · simp [go_sem, Jo, hm, i0, t0, f0, k7]
                  exact ⟨⟨false⟩, rfl⟩
                · by_cases r0 : x.rows = []
                  · simp [go_sem, Jo, hm, i0, t0, k6, f0, k7, r0]
                    exact ⟨⟨false⟩, rfl⟩
                  · have r1 : 0 < x.rows.length := Y2.2 r0
                    simp [go_sem, Jo, hm, i0, t0, k6, f0, k7, r1]
                    exact ⟨⟨true⟩, by simp, rfl⟩
              · have f1 : 0 < x.flow.length := Y2.2 f0
                simp [go_sem, Jo, hm, i0, t0, k6, f1]
                exact ⟨⟨true⟩, by simp, rfl⟩
          · simp [go_sem, Jo, hm, i0, t0]
            exact ⟨⟨true⟩, by simp, rfl⟩
       · simp [go_sem, Jo, hm, i0]
         exact ⟨⟨true⟩, by simp, rfl⟩
     | false =>
      by_cases c0 : x.code = 0
      · cases b5 with
        | true =>
         cases b4 with
         | true =>
          by_cases k6 : x.kind = 6
          · by_cases r0 : x.rows = []
            · simp [go_sem, Jo, hm, c0, k6, r0]
              exact ⟨⟨false⟩, rfl⟩
            · have r1 : 0 < x.rows.length := Y2.2 r0
              simp [go_sem, Jo, hm, c0, k6, r1]
              exact ⟨⟨true⟩, by simp, rfl⟩
          · by_cases f0 : x.flow = []
            · by_cases k7 : x.kind = 7
              · simp [go_sem, Jo, hm, c0, f0, k7]
                exact ⟨⟨false⟩, rfl⟩
              · by_cases r0 : x.rows = []
                · simp [go_sem, Jo, hm, c0, k6, f0, k7, r0]
                  exact ⟨⟨false⟩, rfl⟩
                · have r1 : 0 < x.rows.length := Y2.2 r0
                  simp [go_sem, Jo, hm, c0, k6, f0, k7, r1]
                  exact ⟨⟨true⟩, by simp, rfl⟩
            · have f1 : 0 < x.flow.length := Y2.2 f0
              simp [go_sem, Jo, hm, c0, k6, f1]
              exact ⟨⟨true⟩, by simp, rfl⟩
         | false =>
          by_cases t0 : x.text.toList = []
          · by_cases k6 : x.kind = 6
            · by_cases r0 : x.rows = []
              · simp [go_sem, Jo, hm, c0, t0, k6, r0]
                exact ⟨⟨false⟩, rfl⟩
              · have r1 : 0 < x.rows.length := Y2.2 r0
                simp [go_sem, Jo, hm, c0, t0, k6, r1]
                exact ⟨⟨true⟩, by simp, rfl⟩
            · by_cases f0 : x.flow = []
              · by_cases k7 : x.kind = 7
                · simp [go_sem, Jo, hm, c0, t0, f0, k7]
                  exact ⟨⟨false⟩, rfl⟩
                · by_cases r0 : x.rows = []
                  · simp [go_sem, Jo, hm, c0, t0, k6, f0, k7, r0]
                    exact ⟨⟨false⟩, rfl⟩
                  · have r1 : 0 < x.rows.length := Y2.2 r0
                    simp [go_sem, Jo, hm, c0, t0, k6, f0, k7, r1]
                    exact ⟨⟨true⟩, by simp, rfl⟩
              · have f1 : 0 < x.flow.length := Y2.2 f0
                simp [go_sem, Jo, hm, c0, t0, k6, f1]
                exact ⟨⟨true⟩, by simp, rfl⟩
          · simp [go_sem, Jo, hm, c0, t0]
            exact ⟨⟨true⟩, by simp, rfl⟩
        | false =>
         by_cases i0 : x.id = 0
         · cases b4 with
           | true =>
            by_cases k6 : x.kind = 6
            · by_cases r0 : x.rows = []
              · simp [go_sem, Jo, hm, c0, i0, k6, r0]
                exact ⟨⟨false⟩, rfl⟩
              · have r1 : 0 < x.rows.length := Y2.2 r0
                simp [go_sem, Jo, hm, c0, i0, k6, r1]
                exact ⟨⟨true⟩, by simp, rfl⟩
            · by_cases f0 : x.flow = []
              · by_cases k7 : x.kind = 7
                · simp [go_sem, Jo, hm, c0, i0, f0, k7]
                  exact ⟨⟨false⟩, rfl⟩
                · by_cases r0 : x.rows = []
                  · simp [go_sem, Jo, hm, c0, i0, k6, f0, k7, r0]
                    exact ⟨⟨false⟩, rfl⟩
                  · have r1 : 0 < x.rows.length := Y2.2 r0
                    simp [go_sem, Jo, hm, c0, i0, k6, f0, k7, r1]
                    exact ⟨⟨true⟩, by simp, rfl⟩
              · have f1 : 0 < x.flow.length := Y2.2 f0
                simp [go_sem, Jo, hm, c0, i0, k6, f1]
                exact ⟨⟨true⟩, by simp, rfl⟩
           | false =>
            by_cases t0 : x.text.toList = []
            · by_cases k6 : x.kind = 6
              · by_cases r0 : x.rows = []
                · simp [go_sem, Jo, hm, c0, i0, t0, k6, r0]
                  exact ⟨⟨false⟩, rfl⟩
                · have r1 : 0 < x.rows.length := Y2.2 r0
                  simp [go_sem, Jo, hm, c0, i0, t0, k6, r1]
                  exact ⟨⟨true⟩, by simp, rfl⟩
              · by_cases f0 : x.flow = []
                · by_cases k7 : x.kind = 7
                  · simp [go_sem, Jo, hm, c0, i0, t0, f0, k7]
                    exact ⟨⟨false⟩, rfl⟩
                  · by_cases r0 : x.rows = []
                    · simp [go_sem, Jo, hm, c0, i0, t0, k6, f0, k7, r0]
                      exact ⟨⟨false⟩, rfl⟩
                    · have r1 : 0 < x.rows.length := Y2.2 r0
                      simp [go_sem, Jo, hm, c0, i0, t0, k6, f0, k7, r1]
                      exact ⟨⟨true⟩, by simp, rfl⟩
                · have f1 : 0 < x.flow.length := Y2.2 f0
                  simp [go_sem, Jo, hm, c0, i0, t0, k6, f1]
                  exact ⟨⟨true⟩, by simp, rfl⟩
            · simp [go_sem, Jo, hm, c0, i0, t0]
              exact ⟨⟨true⟩, by simp, rfl⟩
         · simp [go_sem, Jo, hm, c0, i0]
           exact ⟨⟨true⟩, by simp, rfl⟩
      · simp [go_sem, Jo, hm, c0]
        exact ⟨⟨true⟩, by simp, rfl⟩
   obtain ⟨b79⟩ := b79
   dsimp only at hm ⊢
   refine Ap (b := b79) (by simp [go_sem]) ?_
   cases b79 with
   | true => exact AK (by simp [go_sem]; exact out _ _ (by decide))
   | false =>
   simp only [KC, if_false]
   refine BO 0 (α := Bx) (fun b => [(1, X), (3, .bool b3), (127, .bool b.b)]) (fun _ => h) (fun b m => n ≤ m ∧ (b.b = false → Bd x.text = true)) ?_ (fun b127 m hm2 => ?_)
   · rw [hX]
     simp [go_sem]
     refine Y4 (O8 x.text (by have := (Dn hx).2.1; omega)) ?_
     simp [go_sem, Jo, hm.1]; exact ⟨⟨!Bd x.text⟩, by simp, rfl⟩
   obtain ⟨b127⟩ := b127
   dsimp only at hm2 ⊢
   obtain ⟨hm2, hval⟩ := hm2
   refine Ap (b := b127) (by simp [go_sem]) ?_
   cases b127 with
   | true => exact AK (by simp [go_sem]; exact out _ _ (by decide))
   | false =>
   simp only [KC, if_false]
   refine BO 0 (α := Bx) (fun b => [(1, X), (3, .bool b3), (132, .bool b.b)]) (fun _ => h) (fun b m => n ≤ m) ?_ (fun b132 m hm2 => ?_)
   · rw [hX]
     by_cases k1 : x.kind = 1
     · simp [go_sem, Jo, k1, hm2]; exact ⟨⟨_⟩, rfl⟩
     · by_cases k5 : x.kind = 5
       · simp [go_sem, Jo, k5, hm2]; exact ⟨⟨_⟩, rfl⟩
       · simp [go_sem, Jo, k1, k5, hm2]; exact ⟨⟨_⟩, rfl⟩
   obtain ⟨b132⟩ := b132
   dsimp only
   refine Ap (b := b132) (by simp [go_sem]) ?_
   cases b132 with
   | true => exact AK (by simp [go_sem]; exact out _ _ (by decide))
   | false =>
   simp only [KC, if_false]
   refine BO 0 (α := Bx) (fun b => [(1, X), (3, .bool b3), (146, .bool b.b)]) (fun _ => h) (fun b m => n ≤ m) ?_ (fun b146 m hm2 => ?_)
   · rw [hX]
     by_cases k5 : x.kind = 5
     · simp [go_sem, Jo, k5, hm2]; exact ⟨⟨_⟩, rfl⟩
     · simp [go_sem, Jo, k5, hm2]; exact ⟨⟨_⟩, rfl⟩
   obtain ⟨b146⟩ := b146
   dsimp only
   refine Ap (b := b146) (by simp [go_sem]) ?_
   cases b146 with
   | true => exact AK (by simp [go_sem]; exact out _ _ (by decide))
   | false =>
   simp only [KC, if_false]
   refine BO 0 (α := Bx) (fun b => [(156, .bool b.b)]) (fun _ => h) (fun b m => n ≤ m) ?_ (fun b156 m hm2 => ?_)
   · rw [hX]
     cases b3 with
     | false => simp [go_sem, hm2]; exact ⟨⟨_⟩, rfl⟩
     | true =>
      simp [go_sem]
      refine Y4 (UK x.text) ?_
      simp [go_sem, hm2]; exact ⟨⟨_⟩, rfl⟩
   obtain ⟨b156⟩ := b156
   dsimp only
   refine Ap (b := b156) (by simp [go_sem]) ?_
   cases b156 with
   | true => exact AK (by simp [go_sem]; exact out _ _ (by decide))
   | false =>
   refine AK ?_
   simp [go_sem]
   exact ⟨hm2, (hm.2 rfl).1, (hm.2 rfl).2, hval rfl⟩
 · refine AK ?_
   simp [go_sem]
   exact GG ho AB (by simp [closed]) (Nc.ok hm.2)
def GM (l : List (Int × Int)) : List (SV × SV) := l.map fun x => (AA x.1, AA x.2)
theorem H3 (x : Int) : ∀ (l : List (Int × Int)) (i : Nat), C3 (AA x) (GM l) i = some none ∨ ∃ j k, C3 (AA x) (GM l) i = some (some (j, AA k))
 | [], i => .inl rfl
 | a :: l, i => by
  by_cases e : x = a.1
  · exact .inr ⟨i, a.2, by simp [GM, C3, Gi, e]⟩
  · have : (x == a.1) = false := by simpa using e
    rcases H3 x l (i + 1) with h | ⟨j, k, h⟩
    · left; simp only [GM, Y3, C3, Gi, if_true, this]; exact h
    · right; refine ⟨j, k, ?_⟩; simp only [GM, Y3, C3, Gi, if_true, this]; exact h
structure Ck where
 p : Nat
 s0 : Nat
 s1 : Nat
 s2 : Nat
 s3 : Nat
 s4 : Nat
 m0 : List (Int × Int)
 m1 : List Int
 m2 : List Int
structure Ck.ok (K : Ck) (n0 : Nat) : Prop where
 nd : [K.p, K.s0, K.s1, K.s2, K.s3, K.s4].Nodup
 lt : ∀ o ∈ [K.p, K.s0, K.s1, K.s2, K.s3, K.s4], o < n0
abbrev FV := List Int × Int
def Ck.cells (K : Ck) (c : Int) : List SV := [.map K.s0, .map K.s1, .map K.s2, .map K.s3, .map K.s4, AA c]
def Ck.st (K : Ck) (s : FV) (o : Nat) : Option BY :=
 if o = K.p then some (.cells (K.cells s.2)) else if o = K.s3 then some (.map (EM s.1)) else if o = K.s0 then some (.map (GM K.m0)) else if o = K.s1 then some (.map (EM K.m1)) else if o = K.s2 then some (.map (EM K.m2)) else if o = K.s4 then some (.map []) else none
section
variable {K : Ck} {n0 : Nat}
theorem Ck.ok.clo (h : K.ok n0) : Lm K.st n0 0 [] [] (fun s p => (p.head, true, s)) (fun _ => False) where
 lt s o ho := by
  have h1 := h.lt
  simp only [Y0, U6, or_false, forall_eq_or_imp, forall_eq] at h1
  unfold Ck.st
  rw [if_neg (by omega), if_neg (by omega), if_neg (by omega), if_neg (by omega), if_neg (by omega), if_neg (by omega)]
 dom s s' o ho := by
  unfold Ck.st at ho ⊢
  repeat' split at ho
  all_goals first | cases ho | skip
  simp only [*, if_false]
 cl s o y ho := by
  have h1 := h.lt
  simp only [Y0, U6, or_false, forall_eq_or_imp, forall_eq] at h1
  unfold Ck.st at ho
  repeat' split at ho
  all_goals first | cases ho | skip
  · simp [BW, Ck.cells, closed, closedL]; omega
  · exact G4 _ _
  · simp [BW, GM, closed]
  · exact G4 _ _
  · exact G4 _ _
  · simp [BW]
 call := fun _ _ _ _ h => h.elim
structure Ck.has (K : Ck) (s : FV) (H : Hp) : Prop where
 p : H K.p = some (.cells (K.cells s.2))
 s0 : H K.s0 = some (.map (GM K.m0))
 s1 : H K.s1 = some (.map (EM K.m1))
 s2 : H K.s2 = some (.map (EM K.m2))
 s3 : H K.s3 = some (.map (EM s.1))
 s4 : H K.s4 = some (.map [])
theorem Ck.ok.has (h : K.ok n0) {s : FV} {H : Hp} (hs : ∀ o y, K.st s o = some y → H o = some y) : K.has s H := by
 have h1 := h.nd
 simp only [Z5, Y0, U6, or_false, not_or] at h1
 obtain ⟨⟨a1, a2, a3, a4, a5⟩, ⟨b2, b3, b4, b5⟩, ⟨c3, c4, c5⟩, ⟨d4, d5⟩, e5, _⟩ := h1
 constructor <;> refine hs _ _ ?_ <;> unfold Ck.st <;> simp [*, Ne.symm, eq_comm]
theorem Ur {H : Hp} {n n' : Nat} {h2 : Hp} (e : Int) {T : Int → Prop} (ho : FM H n) (hh : ∀ j y, H j = some y → h2 j = some y) (ht : T e) : CE n h2 n' (AA e) (fun v h' n' => (∃ e, v = AA e ∧ T e) ∧ h' = H ∧ n' = n) :=
 .inr ⟨0, AA e, H, Jo, by simp [closed], fun j x g => ⟨hh j x g, ho j x g⟩, ⟨e, rfl, ht⟩, rfl, rfl⟩
set_option maxHeartbeats 1000000 in
theorem d157 (hK : K.ok n0) (s : FV) (kind id : Int) {H : Hp} {n : Nat} (hs : ∀ o y, K.st s o = some y → H o = some y) :
 BN Tryz.prog 157 [.ptr K.p 0, AA kind, AA id] H n (fun v h' n' => (∃ e, v = AA e) ∧ h' = H ∧ n' = n) := by
 refine gq Tryz.func157 rfl fun ho => ?_
 obtain ⟨hp, h0, h1, h2, h3, h4⟩ := hK.has hs
 have fin : ∀ (e : Int) (m : Nat), CE n H m (AA e) (fun v h' n' => (∃ e, v = AA e) ∧ h' = H ∧ n' = n) := fun e m => by have := Ur (T := fun _ => True) (n' := m) e ho AB trivial; simpa using this
 simp only [Ck.cells] at hp
 have main : kind = 20 ∨ kind = 1 ∨ (kind ≠ 20 ∧ kind ≠ 1) := by omega
 rcases main with e | e | ⟨e, e'⟩
 · by_cases i0 : id = 0
   · simp [go_sem, e, i0]
     refine (Iy _ _).use ?_
     simp [go_sem]; exact fin _ _
   · rcases H3 id K.m0 0 with f | ⟨j, k, f⟩
     · simp [go_sem, e, i0, hp, h0, f, CM]
       refine (Iy _ _).use ?_
       simp [go_sem]; exact fin _ _
     · simp [go_sem, e, i0, hp, h0, f, CM]
       refine (Iy _ _).use ?_
       simp [go_sem]; exact fin _ _
 · by_cases i0 : id = 0
   · simp [go_sem, e, i0]
     refine (Iy _ _).use ?_
     simp [go_sem]; exact fin _ _
   · rcases H3 id K.m0 0 with f | ⟨j, k, f⟩
     · simp [go_sem, e, i0, hp, h0, f, CM]
       refine (Iy _ _).use ?_
       simp [go_sem]; exact fin _ _
     · simp [go_sem, e, i0, hp, h0, f, CM]
       refine (Iy _ _).use ?_
       simp [go_sem]; exact fin _ _
 · by_cases e3 : kind = 33
   · by_cases i0 : id = 0
     · simp [go_sem, e3, i0]
       refine (Iy _ _).use ?_
       simp [go_sem]; exact fin _ _
     · by_cases hm : id ∈ K.m1
       · obtain ⟨j, f, _⟩ := DA 0 hm
         simp [go_sem, e3, i0, hp, h1, f, CM]
         refine (Iy _ _).use ?_
         simp [go_sem]; exact fin _ _
       · have f := Dh 0 hm
         simp [go_sem, e3, i0, hp, h1, f, CM]
         refine (Iy _ _).use ?_
         simp [go_sem]; exact fin _ _
   · simp [go_sem, e, e', e3]; exact fin _ _
def CQ (K : Ck) (T : Int → FV → Prop) (H : Hp) (n : Nat) : SV → Hp → Nat → Prop := fun v h' n' => ∃ e s', v = AA e ∧ T e s' ∧ h' = As K.st s' H ∧ n' = n
theorem Ck.ok.ret (hK : K.ok n0) {T : Int → FV → Prop} {H h2 : Hp} {n m : Nat} (hn : n0 ≤ n) (ho : FM H n) (e : Int) (s' : FV) (hT : T e s') (hh : ∀ j y, As K.st s' H j = some y → h2 j = some y) : CE n h2 m (AA e) (CQ K T H n) :=
 .inr ⟨0, AA e, As K.st s' H, Jo, by simp [closed], fun j x g => ⟨hh j x g, hK.clo.old s' hn ho j x g⟩, e, s', rfl, hT, rfl, rfl⟩
theorem Ck.ok.no (hK : K.ok n0) {T : Int → FV → Prop} {H h2 : Hp} {n m : Nat} (hn : n0 ≤ n) (ho : FM H n) (s : FV) (hs : ∀ o y, K.st s o = some y → H o = some y) (e : Int) (hT : T e s) (hh : ∀ j y, H j = some y → h2 j = some y) : CE n h2 m (AA e) (CQ K T H n) :=
 hK.ret hn ho e s hT (by rw [DH s H hs]; exact hh)
theorem LJ (l : List Int) (x : Int) : EM l ++ [(AA x, .bool true)] = EM (l ++ [x]) := by simp [EM]
def idT (s : FV) (id : Int) (e : Int) (s' : FV) : Prop := e = 0 → s' = (s.1 ++ [id], s.2) ∧ 1 ≤ id ∧ id ≤ 1073741824 ∧ id ∉ s.1
theorem Ck.ok.up_ids (hK : K.ok n0) (s : FV) (l : List Int) {H : Hp} (hs : ∀ o y, K.st s o = some y → H o = some y) : As K.st (l, s.2) H = hset H K.s3 (some (.map (EM l))) := by
 have h1 := hK.nd
 simp only [Z5, Y0, U6, or_false, not_or] at h1
 obtain ⟨⟨a1, a2, a3, a4, a5⟩, ⟨b2, b3, b4, b5⟩, ⟨c3, c4, c5⟩, ⟨d4, d5⟩, e5, _⟩ := h1
 funext o
 have g := hs o
 simp only [As, Ck.st, hset] at g ⊢
 by_cases q0 : o = K.p
 · subst q0; simp only [if_true] at g ⊢; rw [if_neg a4]; exact (g _ rfl).symm
 · by_cases q1 : o = K.s3
   · have a4' : ¬ K.s3 = K.p := fun h => a4 h.symm
     simp [q1, a4']
   · simp only [q0, q1, if_false] at g ⊢
     split
     · rename_i y hy; exact (g y hy).symm
     · rfl
set_option maxHeartbeats 1000000 in
theorem UQ (hK : K.ok n0) (s : FV) (id : Int) {H : Hp} {n : Nat} (hn : n0 ≤ n) (hs : ∀ o y, K.st s o = some y → H o = some y) :
 BN Tryz.prog 223 [.ptr K.p 0, AA id] H n (CQ K (idT s id) H n) := by
 refine gq Tryz.func223 rfl fun ho => ?_
 obtain ⟨hp, h0, h1, h2, h3, h4⟩ := hK.has hs
 have no : ∀ (e : Int) (m : Nat), e ≠ 0 → CE n H m (AA e) (CQ K (idT s id) H n) := fun e m he => hK.no hn ho s hs e (fun g => absurd g he) AB
 simp only [Ck.cells] at hp
 by_cases r : 1 ≤ id ∧ id ≤ 1073741824
 · have f4 : C3 (AA id) [] 0 = some none := rfl
   by_cases hm : id ∈ s.1
   · obtain ⟨j, f, _⟩ := DA 0 hm
     simp [go_sem]
     refine (Jd _ _ _).use ?_
     simp [go_sem, r, hp, h4, h3, f, CM]
     exact no 7 _ (by decide)
   · have f := Dh 0 hm
     simp [go_sem]
     refine (Jd _ _ _).use ?_
     simp [go_sem, r, hp, h4, h3, f, CM]
     refine hK.ret hn ho 0 (s.1 ++ [id], s.2) (fun _ => ⟨rfl, r.1, r.2, hm⟩) ?_
     rw [hK.up_ids s _ hs, LJ]
     exact AB
 · simp [go_sem]
   refine (Jd _ _ _).use ?_
   simp [go_sem, r]
   exact no 18 _ (by decide)
end
def trL : Tr := .pure 0 <| .pure 1 <| .pure 2 <| .pure 3 <| .pure 5 <| .pure 6 <| .pure 7 <| .pure 8 <| .pure 9 <| .one 4 <| .one 10 <| .one 11 <| .one 12 <| .one 13 .nil
section
variable {K : Ck} {n0 : Nat}
def TL (K : Ck) (s : FV) (x : Az) (e : Int) (s' : FV) : Prop := s' = s ∧ (e = 0 → x.rev ∈ K.m2)
set_option maxHeartbeats 2000000 in
theorem d159 (hK : K.ok n0) (s : FV) (el : Int) (ls : List Az) (hls : ls.length ≤ 1048576) (i : Nat) (hi : i < ls.length) {H : Hp} {n : Nat} (hn : n0 ≤ n) (hs : ∀ o y, K.st s o = some y → H o = some y) :
 BN Tryz.prog 159 [.ptr K.p 0, AA el, AO ls, AA i] H n (CQ K (TL K s ls[i]) H n) := by
 refine Da Tryz.func159 rfl fun ho => ?_
 obtain ⟨x, hx⟩ : ∃ x, ls[i] = x := ⟨_, rfl⟩
 obtain ⟨hp, _, _, h2, _, _⟩ := hK.has hs
 simp only [Ck.cells] at hp
 have hKp : K.p < n := by have := hK.lt K.p (by simp); omega
 have hKs : K.s2 < n := by have := hK.lt K.s2 (by simp); omega
 have hHb := ho.lt
 have no : ∀ (e : Int) (m : Nat), e ≠ 0 → CE n H m (AA e) (CQ K (TL K s ls[i]) H n) := fun e m he => hK.no hn ho s hs e ⟨rfl, fun g => absurd g he⟩ AB
 refine CJ 0 [(0, .ptr K.p 0), (1, AA el), (2, AO ls), (3, AA i)] H n ?_ (fun m hm => ?_)
 · simp [go_sem, Jo]
 subst hm
 refine AZ 1 [(0, .ptr K.p 0), (1, AA el), (2, AO ls), (3, AA i), (9, .iptr [AA x.rev, AA x.key, AA x.before, .bool x.had])] H n ?_ (fun m hm => ?_)
 · simp [go_sem, Jo, hi, hx, Az.enc, AC]
   exact ⟨AW (Ad hHb (JO _)) (AC _ _ _), AJ hHb (AJ hHb AB)⟩
 rw [hx] at no ⊢
 refine CD 0 [(0, .ptr K.p 0), (9, .iptr [AA x.rev, AA x.key, AA x.before, .bool x.had])] H (fun m => n ≤ m ∧ x.rev ∈ K.m2) ?_ (fun m hm => ?_)
 · refine AX ?_
   refine BO 0 (α := Bx) (fun b => [(0, .ptr K.p 0), (1, AA el), (2, AO ls), (3, AA i), (9, .iptr [AA x.rev, AA x.key, AA x.before, .bool x.had]), (14, .bool b.b)]) (fun _ => H) (fun b m => n ≤ m ∧ (b.b = false → x.rev ∈ K.m2)) ?_ (fun b m hm => ?_)
   · by_cases hr : x.rev ∈ K.m2
     · obtain ⟨j, f, _⟩ := DA 0 hr
       simp [go_sem, Jo, hp, h2, f, CM, hm, hr]
       repeat first | refine nq ?_ | refine sq ?_ | refine aq ?_
       first | exact ⟨⟨false⟩, fun _ => hr, rfl⟩ | exact ⟨⟨false⟩, rfl⟩
     · have f := Dh 0 hr
       simp [go_sem, Jo, hp, h2, f, CM, hm, hr]
       repeat first | refine nq ?_ | refine sq ?_ | refine aq ?_
       first | exact ⟨⟨true⟩, by simp, rfl⟩ | exact ⟨⟨true⟩, rfl⟩
   obtain ⟨b⟩ := b
   dsimp only at hm ⊢
   refine Ap (b := b) (by simp [go_sem]) ?_
   cases b with
   | true => exact AK (by simp [go_sem]; exact no 22 _ (by decide))
   | false =>
   simp only [KC, if_false]
   have hm2 := hm.2 rfl
   refine BO 0 (α := Bx) (fun b => [(0, .ptr K.p 0), (1, AA el), (2, AO ls), (3, AA i), (9, .iptr [AA x.rev, AA x.key, AA x.before, .bool x.had]), (23, .bool b.b)]) (fun _ => H) (fun b m => n ≤ m) ?_ (fun b m hm => ?_)
   · simp [go_sem]
     refine (c220 _ _).use ?_
     simp [go_sem, Jo, hm.1]; exact ⟨⟨_⟩, rfl⟩
   obtain ⟨b⟩ := b
   dsimp only at hm ⊢
   refine Ap (b := b) (by simp [go_sem]) ?_
   cases b with
   | true => exact AK (by simp [go_sem]; exact no 4 _ (by decide))
   | false =>
   simp only [KC, if_false]
   refine BO 0 (α := Bx) (fun b => [(0, .ptr K.p 0), (9, .iptr [AA x.rev, AA x.key, AA x.before, .bool x.had]), (29, .bool b.b)]) (fun _ => H) (fun b m => n ≤ m) ?_ (fun b m hm => ?_)
   · by_cases i0 : 0 < i
     · have hi1 : i - 1 < ls.length := by omega
       obtain ⟨y, hy⟩ : ∃ y, ls[i - 1] = y := ⟨_, rfl⟩
       have w : IntKind.i64.wrap ((i : Int) - 1) = ((i - 1 : Nat) : Int) := by rw [DJ] <;> omega
       simp [go_sem, Jo, i0, w, hi1, hy, Az.enc, hm]
       repeat first | refine nq ?_ | refine sq ?_ | refine aq ?_
       exact ⟨⟨_⟩, rfl⟩
     · simp [go_sem, Jo, i0, hm]
       repeat first | refine nq ?_ | refine sq ?_ | refine aq ?_
       exact ⟨⟨_⟩, rfl⟩
   obtain ⟨b⟩ := b
   dsimp only at hm ⊢
   refine Ap (b := b) (by simp [go_sem]) ?_
   cases b with
   | true => exact AK (by simp [go_sem]; exact no 6 _ (by decide))
   | false =>
   simp only [KC, if_false]
   refine AK ?_
   cases hh : x.had with
   | false =>
    simp [go_sem]
    refine (Iy _ _).use ?_
    simp [go_sem]
    exact hK.no hn ho s hs _ ⟨rfl, fun _ => hm2⟩ AB
   | true =>
    simp [go_sem, Jo]
    exact ⟨hm, hm2⟩
 · have ret : ∀ (e : Int) (H2 : Hp) (m : Nat), (∀ j y, H j = some y → H2 j = some y) → CE n H2 m (AA e) (CQ K (TL K s x) H n) := fun e H2 m hh => hK.no hn ho s hs e ⟨rfl, fun _ => hm.2⟩ hh
   refine AV 0 (α := Int) (fun e => [(8, AA e)]) (fun _ => H) (fun _ m => n ≤ m) (Bt trL rfl (by kernel_rfl) (by kernel_rfl) ?_) (fun e m hm => ?_)
   · simp [go_sem, trL]
     refine (UL _ _).use ?_
     simp [go_sem]
     refine Y9 (d157 hK s x.key x.before hs) ?_
     rintro v H' n' ⟨⟨e, rfl⟩, rfl, rfl⟩
     simp [go_sem]
     refine ZQ (bs := [.imm 1 ([EF x.key x.before, e].map AA) false]) (h2 := H') 1 (AJ (fun j z e => by have := hHb j z e; omega) AB) ⟨?_, trivial⟩ ?_
     · exact DN (es := [AA (EF x.key x.before), AA e]) (Ad hHb hm.1) (by simp) (by rw [AC]; simp [SV.cells]) (by simp [SV.storable, SV.cells])
     refine (Oz _ (by simp)).use ?_
     simp [go_sem]
     first | exact ⟨by omega, _, Jo⟩ | exact ⟨_, by omega, Jo⟩ | exact ⟨_, Jo⟩
   · refine AK ?_
     simp [go_sem]
     exact ret _ _ _ AB
end
section
variable {K : Ck} {n0 : Nat}
def allT (I : FV → Prop) (e : Int) (s' : FV) : Prop := e = 0 → I s'
theorem d150 (hK : K.ok n0) (N : Nat) (hN : N ≤ 1048576) (g : FuncId) (a b : List SV) (I : Nat → FV → Prop)
 (step : ∀ i s' H n, i < N → I i s' → n0 ≤ n → (∀ o y, K.st s' o = some y → H o = some y) → BN Tryz.prog g (a ++ [AA i] ++ b) H n (CQ K (allT (I (i + 1))) H n))
 (s : FV) (h0 : I 0 s) {H : Hp} {n : Nat} (hn : n0 ≤ n) (hs : ∀ o y, K.st s o = some y → H o = some y) :
 BN Tryz.prog 150 [AA N, .fn (.func g) a b] H n (CQ K (allT (I N)) H n) := by
 have D := hK.clo
 refine gq Tryz.func150 rfl fun ho => ?_
 simp [go_sem]
 refine Aq 0 (α := Nat × FV) (fun q => [(1, .fn (.func g) a b), (7, AA N), (8, AA q.1)]) (fun q => As K.st q.2 H) (fun q m => q.1 ≤ N ∧ n ≤ m ∧ I q.1 q.2) (fun q => N - q.1) (0, s) ?_ ?_ ?_ ?_
 · exact ⟨K2 _, JO _, h0⟩
 · simp [Am, Fz]
 · rw [DH s H hs]; exact AB
 rintro ⟨i, s'⟩ m ⟨hi, hnm, hI⟩
 dsimp only at hi hI ⊢
 by_cases hlt : i < N
 · have w1 := wS i (by omega)
   have hc := step i s' (As K.st s' H) m hlt hI (by omega) Bu
   simp only [KF, Y7, Yc] at hc
   simp [go_sem, hlt]
   refine Y9 hc ?_
   rintro v H' n' ⟨e, s2, rfl, hT, rfl, rfl⟩
   rw [D.up2]
   by_cases e0 : e = 0
   · subst e0
     simp [go_sem, w1, -Int.natCast_add]
     exact ⟨i + 1, by omega, s2.1, s2.2, ⟨by omega, hnm, hT rfl⟩, rfl, AB⟩
   · simp [go_sem, e0]
     exact hK.ret hn ho e s2 (fun g => absurd g e0) AB
 · have : i = N := by omega
   subst this
   simp [go_sem]
   exact hK.ret hn ho 0 s' (fun _ => hI) AB
theorem d158 (hK : K.ok n0) (s : FV) (el ins mv : Int) (dl : SV) (ls : List Az) (hls : ls.length ≤ 1048576) (i : Nat) (hi : i < ls.length) {H : Hp} {n : Nat} (hn : n0 ≤ n) (hs : ∀ o y, K.st s o = some y → H o = some y) :
 BN Tryz.prog 158 [AA i, .iptr [.ptr K.p 0], .iptr [AA el], .iptr [AA ins, AA mv, dl, AO ls]] H n (CQ K (TL K s ls[i]) H n) := by
 refine gq Tryz.func158 rfl fun ho => ?_
 simp [go_sem]
 refine Y9 (d159 hK s el ls hls i hi hn hs) ?_
 rintro v H' n' ⟨e, s2, rfl, hT, rfl, rfl⟩
 simp [go_sem]
 exact hK.ret hn ho e s2 hT AB
end
structure P5 (m2 : List Int) (h : AF) : Prop where
 ins : h.ins = 0 ∨ h.ins ∈ m2
 dlen : h.dels.length ≤ 16
 dels : ∀ x ∈ h.dels, x.rev ∈ m2
 llen : h.layers.length ≤ 64
 layers : ∀ x ∈ h.layers, x.rev ∈ m2
structure DC (m2 : List Int) (h : AF) : Prop extends P5 m2 h where
 inc : ∀ i (hi : i < h.dels.length), 0 < i → h.dels[i - 1].rev < h.dels[i].rev
section
variable {K : Ck} {n0 : Nat}
def Tx (K : Ck) (s : FV) (h : AF) (e : Int) (s' : FV) : Prop := e = 0 → s' = s ∧ DC K.m2 h
set_option maxHeartbeats 4000000 in
theorem d86 (hK : K.ok n0) (s : FV) (el : Int) (hd : AF) (hsz : hd.sized) {H : Hp} {n : Nat} (hn : n0 ≤ n) (hs : ∀ o y, K.st s o = some y → H o = some y) :
 BN Tryz.prog 86 [.ptr K.p 0, AA el, hd.enc] H n (CQ K (Tx K s hd) H n) := by
 refine Da Tryz.func86 rfl fun ho => ?_
 obtain ⟨hp, _, _, h2, _, _⟩ := hK.has hs
 simp only [Ck.cells] at hp
 have hKp : K.p < n := by have := hK.lt K.p (by simp); omega
 have hKs : K.s2 < n := by have := hK.lt K.s2 (by simp); omega
 have hHb := ho.lt
 have no : ∀ (e : Int) (m : Nat), e ≠ 0 → CE n H m (AA e) (CQ K (Tx K s hd) H n) := fun e m he => hK.no hn ho s hs e (fun g => absurd g he) AB
 refine AZ 1 [(3, .iptr [.ptr K.p 0]), (4, .iptr [AA el]), (5, .iptr hd.flat)] H n ?_ (fun m hm => ?_)
 · simp [go_sem, AF.enc, AF.flat, Y6]
   refine ⟨⟨AW (Ad hHb (by omega)) (by simp [hset]), AW (Ad hHb (by omega)) (by simp [hset]), AW (Ad hHb (by omega)) (by simp [hset])⟩, fun j y => ?_⟩
   have := hHb j y; simp only [hset]; grind
 refine Bf 0 [(3, .iptr [.ptr K.p 0]), (4, .iptr [AA el]), (5, .iptr hd.flat)] H n (AK ?_) (fun m hm => ?_)
 · simp [go_sem, AF.flat]
   refine (c156 el hd.props hsz.props).use ?_
   by_cases e0 : Fw el hd.props = 0
   · simp [go_sem, e0, Jo, hm]
   · simp [go_sem, e0]; exact no _ _ e0
 refine Bf 0 [(3, .iptr [.ptr K.p 0]), (4, .iptr [AA el]), (5, .iptr hd.flat)] H n ?_ (fun m hm => ?_)
 · refine AZ 0 [(3, .iptr [.ptr K.p 0]), (4, .iptr [AA el]), (5, .iptr hd.flat), (22, Ag hd.props), (23, AA hd.props.length), (24, AA 0)] H n ?_ (fun m hm => ?_)
   · simp [go_sem, Jo, AF.flat, hm]
   refine AX (BX 0 (α := Nat) (fun i => [(3, .iptr [.ptr K.p 0]), (4, .iptr [AA el]), (5, .iptr hd.flat), (22, Ag hd.props), (23, AA hd.props.length), (24, AA i)]) (fun _ => H) (fun i m => i ≤ hd.props.length ∧ n ≤ m) (fun i => hd.props.length - i) 0 ⟨K2 _, hm⟩ ?_ AB ?_)
   · simp [go_sem, Am, Jo]
   rintro i m ⟨hi, hm⟩
   refine AK ?_
   by_cases hlt : i < hd.props.length
   · obtain ⟨x, hx⟩ : ∃ x, hd.props[i] = x := ⟨_, rfl⟩
     have w1 : IntKind.i64.wrap ((i : Int) + 1) = ((i + 1 : Nat) : Int) := by have := hsz.props; rw [DJ] <;> omega
     simp [go_sem, hlt, hx, Eu.enc, AC]
     refine Y9 (d157 hK s x.key x.value (Eg hK.clo.lt (by omega) _ (Eg hK.clo.lt (by omega) _ hs))) ?_
     rintro v H' n' ⟨⟨e, rfl⟩, rfl, rfl⟩
     by_cases e0 : e = 0
     · subst e0
       simp [go_sem, w1, -Int.natCast_add]
       refine ⟨i + 1, by omega, ⟨by omega, by omega⟩, by simp [Jo], AJ (fun j z e => by have := hHb j z e; omega) (AJ (fun j z e => by have := hHb j z e; omega) AB)⟩
     · simp [go_sem, e0]
       exact hK.no hn ho s hs e (fun g => absurd g e0) (AJ (fun j z e => by have := hHb j z e; omega) (AJ (fun j z e => by have := hHb j z e; omega) AB))
   · simp [go_sem, hlt, Jo, hm]
 refine AZ 1 [(3, .iptr [.ptr K.p 0]), (4, .iptr [AA el]), (11, .iptr [AA hd.ins, AA hd.move, Aa hd.dels, AO hd.layers])] H n ?_ (fun m hm => ?_)
 · simp [go_sem, Jo, AF.flat, AC]
   have hHm : ∀ j y, H j = some y → j < m := fun j y e => by have := hHb j y e; omega
   exact ⟨by omega, AW (Ad hHm (JO _)) (AC _ _ _), AJ hHm (AJ hHm AB)⟩
 refine CD 0 [(3, .iptr [.ptr K.p 0]), (4, .iptr [AA el]), (11, .iptr [AA hd.ins, AA hd.move, Aa hd.dels, AO hd.layers])] H (fun m => n ≤ m ∧ (hd.ins = 0 ∨ hd.ins ∈ K.m2) ∧ hd.dels.length ≤ 16) ?_ (fun m hm => ?_)
 · refine AX ?_
   refine BO 0 (α := Bx) (fun b => [(3, .iptr [.ptr K.p 0]), (4, .iptr [AA el]), (11, .iptr [AA hd.ins, AA hd.move, Aa hd.dels, AO hd.layers]), (40, .bool b.b)]) (fun _ => H) (fun b m => n ≤ m ∧ (b.b = false → hd.ins = 0 ∨ hd.ins ∈ K.m2)) ?_ (fun b m hm => ?_)
   · by_cases i0 : hd.ins = 0
     · simp [go_sem, Jo, i0, hm]
       repeat first | refine nq ?_ | refine sq ?_ | refine aq ?_
       exact ⟨⟨false⟩, rfl⟩
     · by_cases hr : hd.ins ∈ K.m2
       · obtain ⟨j, f, _⟩ := DA 0 hr
         simp [go_sem, Jo, i0, hp, h2, f, CM, hm, hr]
         repeat first | refine nq ?_ | refine sq ?_ | refine aq ?_
         exact ⟨⟨false⟩, rfl⟩
       · have f := Dh 0 hr
         simp [go_sem, Jo, i0, hp, h2, f, CM, hm, hr]
         repeat first | refine nq ?_ | refine sq ?_ | refine aq ?_
         exact ⟨⟨true⟩, by simp, rfl⟩
   obtain ⟨b⟩ := b
   dsimp only at hm ⊢
   refine Ap (b := b) (by simp [go_sem]) ?_
   cases b with
   | true => exact AK (by simp [go_sem]; exact no 22 _ (by decide))
   | false =>
   simp only [KC, if_false]
   have hm1 := hm.2 rfl
   refine BO 0 (α := Bx) (fun b => [(3, .iptr [.ptr K.p 0]), (4, .iptr [AA el]), (11, .iptr [AA hd.ins, AA hd.move, Aa hd.dels, AO hd.layers]), (54, .bool b.b)]) (fun _ => H) (fun b m => n ≤ m) ?_ (fun b m hm => ?_)
   · simp [go_sem]
     refine (Jd _ _ _).use ?_
     by_cases c : 0 ≤ hd.move ∧ hd.move ≤ 1073741824
     · by_cases m0 : hd.move = 0
       · simp [go_sem, Jo, m0, hm.1]; exact ⟨⟨_⟩, rfl⟩
       · simp [go_sem, Jo, c, m0, hm.1]; exact ⟨⟨_⟩, rfl⟩
     · simp [go_sem, Jo, c, hm.1]; exact ⟨⟨_⟩, rfl⟩
   obtain ⟨b⟩ := b
   dsimp only at hm ⊢
   refine Ap (b := b) (by simp [go_sem]) ?_
   cases b with
   | true => exact AK (by simp [go_sem]; exact no 21 _ (by decide))
   | false =>
   simp only [KC, if_false]
   refine AK ?_
   by_cases c : (16 : Int) < hd.dels.length
   · simp [go_sem, c]; exact no 9 _ (by decide)
   · simp [go_sem, c, Jo, hm, hm1]; omega
 obtain ⟨hm, hi, hdl⟩ := hm
 refine CD 0 [(3, .iptr [.ptr K.p 0]), (4, .iptr [AA el]), (11, .iptr [AA hd.ins, AA hd.move, Aa hd.dels, AO hd.layers])] H (fun m => n ≤ m ∧ ∀ j (h : j < hd.dels.length), hd.dels[j].rev ∈ K.m2 ∧ (0 < j → hd.dels[j - 1].rev < hd.dels[j].rev)) ?_ (fun m hm => ?_)
 · refine AZ 0 [(3, .iptr [.ptr K.p 0]), (4, .iptr [AA el]), (11, .iptr [AA hd.ins, AA hd.move, Aa hd.dels, AO hd.layers]), (75, Aa hd.dels), (76, AA hd.dels.length), (77, AA 0)] H n ?_ (fun m hm => ?_)
   · simp [go_sem, Jo, hm]
   refine AX (BX 0 (α := Nat) (fun i => [(3, .iptr [.ptr K.p 0]), (4, .iptr [AA el]), (11, .iptr [AA hd.ins, AA hd.move, Aa hd.dels, AO hd.layers]), (75, Aa hd.dels), (76, AA hd.dels.length), (77, AA i)]) (fun _ => H) (fun i m => i ≤ hd.dels.length ∧ n ≤ m ∧ ∀ j (h : j < hd.dels.length), j < i → hd.dels[j].rev ∈ K.m2 ∧ (0 < j → hd.dels[j - 1].rev < hd.dels[j].rev)) (fun i => hd.dels.length - i) 0 ⟨K2 _, hm, fun j _ h => by omega⟩ ?_ AB ?_)
   · simp [go_sem, Am, Jo]
   rintro i m ⟨hi2, hm, hI⟩
   by_cases hlt : i < hd.dels.length
   · obtain ⟨x, hx⟩ : ∃ x, hd.dels[i] = x := ⟨_, rfl⟩
     have w1 := wS i (by omega)
     refine AZ 0 [(3, .iptr [.ptr K.p 0]), (4, .iptr [AA el]), (11, .iptr [AA hd.ins, AA hd.move, Aa hd.dels, AO hd.layers]), (75, Aa hd.dels), (76, AA hd.dels.length), (77, AA i), (78, .bool true)] H n ?_ (fun m hm => ?_)
     · simp [go_sem, Jo, hm, hlt]
     refine AZ 0 [(3, .iptr [.ptr K.p 0]), (4, .iptr [AA el]), (11, .iptr [AA hd.ins, AA hd.move, Aa hd.dels, AO hd.layers]), (75, Aa hd.dels), (76, AA hd.dels.length), (77, AA i)] H n ?_ (fun m hm => ?_)
     · simp [go_sem, Jo, hm]
     refine CD 0 [(3, .iptr [.ptr K.p 0]), (4, .iptr [AA el]), (11, .iptr [AA hd.ins, AA hd.move, Aa hd.dels, AO hd.layers]), (75, Aa hd.dels), (76, AA hd.dels.length), (77, AA i)] H (fun m => n ≤ m ∧ x.rev ∈ K.m2 ∧ (0 < i → hd.dels[i - 1].rev < x.rev)) ?_ (fun m hm => ?_)
     · refine AX ?_
       refine AZ 1 [(3, .iptr [.ptr K.p 0]), (4, .iptr [AA el]), (11, .iptr [AA hd.ins, AA hd.move, Aa hd.dels, AO hd.layers]), (75, Aa hd.dels), (76, AA hd.dels.length), (77, AA i), (12, AA i), (13, .iptr [AA x.rev, AA x.move])] H n ?_ (fun m hm => ?_)
       · simp [go_sem, Jo, hlt, hx, BS.enc, AC]
         have hHm : ∀ j y, H j = some y → j < m := fun j y e => by have := hHb j y e; omega
         exact ⟨by omega, AW (Ad hHm (JO _)) (AC _ _ _), AJ hHm (AJ hHm AB)⟩
       refine AX ?_
       refine BO 0 (α := Bx) (fun b => [(3, .iptr [.ptr K.p 0]), (4, .iptr [AA el]), (11, .iptr [AA hd.ins, AA hd.move, Aa hd.dels, AO hd.layers]), (75, Aa hd.dels), (76, AA hd.dels.length), (77, AA i), (12, AA i), (13, .iptr [AA x.rev, AA x.move]), (82, .bool b.b)]) (fun _ => H) (fun b m => n ≤ m ∧ (b.b = false → x.rev ∈ K.m2)) ?_ (fun b m hm => ?_)
       · by_cases hr : x.rev ∈ K.m2
         · obtain ⟨j, f, _⟩ := DA 0 hr
           simp [go_sem, Jo, hp, h2, f, CM, hm, hr]
           repeat first | refine nq ?_ | refine sq ?_ | refine aq ?_
           exact ⟨⟨false⟩, rfl⟩
         · have f := Dh 0 hr
           simp [go_sem, Jo, hp, h2, f, CM, hm, hr]
           repeat first | refine nq ?_ | refine sq ?_ | refine aq ?_
           exact ⟨⟨true⟩, by simp, rfl⟩
       obtain ⟨b⟩ := b
       dsimp only at hm ⊢
       refine Ap (b := b) (by simp [go_sem]) ?_
       cases b with
       | true => exact AK (by simp [go_sem]; exact no 22 _ (by decide))
       | false =>
       simp only [KC, if_false]
       have hm1 := hm.2 rfl
       refine BO 0 (α := Bx) (fun b => [(3, .iptr [.ptr K.p 0]), (4, .iptr [AA el]), (11, .iptr [AA hd.ins, AA hd.move, Aa hd.dels, AO hd.layers]), (75, Aa hd.dels), (76, AA hd.dels.length), (77, AA i), (13, .iptr [AA x.rev, AA x.move]), (91, .bool b.b)]) (fun _ => H) (fun b m => n ≤ m ∧ (b.b = false → 0 < i → hd.dels[i - 1].rev < x.rev)) ?_ (fun b m hm => ?_)
       · by_cases i0 : 0 < i
         · have hi1 : i - 1 < hd.dels.length := by omega
           obtain ⟨y, hy⟩ : ∃ y, hd.dels[i - 1] = y := ⟨_, rfl⟩
           have w : IntKind.i64.wrap ((i : Int) - 1) = ((i - 1 : Nat) : Int) := by rw [DJ] <;> omega
           simp [go_sem, Jo, i0, w, hi1, hy, BS.enc, hm]
           repeat first | refine nq ?_ | refine sq ?_ | refine aq ?_
           exact ⟨⟨decide (x.rev ≤ y.rev)⟩, fun g => by simpa using g, rfl⟩
         · simp [go_sem, Jo, i0, hm]
           repeat first | refine nq ?_ | refine sq ?_ | refine aq ?_
           exact ⟨⟨_⟩, rfl⟩
       obtain ⟨b⟩ := b
       dsimp only at hm ⊢
       refine Ap (b := b) (by simp [go_sem]) ?_
       cases b with
       | true => exact AK (by simp [go_sem]; exact no 6 _ (by decide))
       | false =>
       simp only [KC, if_false]
       have hm2 := hm.2 rfl
       have hm := hm.1
       refine AK ?_
       simp [go_sem]
       refine (Jd _ _ _).use ?_
       by_cases c : 0 ≤ x.move ∧ x.move ≤ 1073741824
       · simp [go_sem, Jo, c, hm, hm1]; exact hm2
       · simp [go_sem, c]; exact no 21 _ (by decide)
     · refine AK ?_
       simp [go_sem, w1, Jo, -Int.natCast_add]
       refine ⟨i + 1, by omega, ⟨by omega, hm.1, fun j h hj => ?_⟩, rfl⟩
       by_cases h3 : j = i
       · subst h3; rw [hx]; exact hm.2
       · exact hI j h (by omega)
   · have : i = hd.dels.length := by omega
     subst this
     refine AK ?_
     simp [go_sem, Jo, hm]
     exact fun j hj => hI j hj hj
 obtain ⟨hm, hdr⟩ := hm
 refine CD 0 [(3, .iptr [.ptr K.p 0]), (4, .iptr [AA el]), (11, .iptr [AA hd.ins, AA hd.move, Aa hd.dels, AO hd.layers])] H (fun m => n ≤ m ∧ hd.layers.length ≤ 64) (AK ?_) (fun m hm => ?_)
 · by_cases c : (64 : Int) < hd.layers.length
   · simp [go_sem, c]; exact no 9 _ (by decide)
   · simp [go_sem, c, Jo, hm]; omega
 obtain ⟨hm, hll⟩ := hm
 refine AK ?_
 simp [go_sem]
 have hd150 := d150 hK hd.layers.length (by omega) 158 [] [.iptr [.ptr K.p 0], .iptr [AA el], .iptr [AA hd.ins, AA hd.move, Aa hd.dels, AO hd.layers]] (fun i s' => s' = s ∧ ∀ j (h : j < hd.layers.length), j < i → hd.layers[j].rev ∈ K.m2) (fun i s' H2 n2 hi hI hn2 hs2 => by
  obtain ⟨he, hI⟩ := hI
  refine (d158 hK s' el hd.ins hd.move (Aa hd.dels) hd.layers (by omega) i hi hn2 hs2).mono ?_
  rintro v h' n' ⟨e, s2, rfl, ⟨he2, hT⟩, rfl, rfl⟩
  refine ⟨e, s2, rfl, fun e0 => ⟨by rw [he2, he], fun j h hj => ?_⟩, rfl, rfl⟩
  by_cases h3 : j = i
  · subst h3; exact hT e0
  · exact hI j h (by omega)) s ⟨rfl, fun j _ h => by omega⟩ (H := H) (n := m) (by omega) hs
 refine Y9 hd150 ?_
 rintro v H' n' ⟨e, s2, rfl, hT, rfl, rfl⟩
 simp [go_sem]
 by_cases e0 : e = 0
 · obtain ⟨he, hT2⟩ := hT e0
   exact hK.ret hn ho e s2 (fun _ => ⟨he, ⟨hi, hdl, fun x hx => by obtain ⟨j, hj, rfl⟩ := Zo hx; exact (hdr j hj).1, hll, fun x hx => by obtain ⟨j, hj, rfl⟩ := Zo hx; exact hT2 j hj hj⟩, fun j hj h0 => (hdr j hj).2 h0⟩) AB
 · exact hK.ret hn ho e s2 (fun g => absurd g e0) AB
end
def Jk : Nat → List AE → List Int
 | 0, _ => []
 | N + 1, l => l.flatMap fun x => if x.kind = 6 then x.id :: Jk N x.flow else if x.kind = 7 then x.id :: x.rows.flatMap fun r => r.cells.flatMap fun c => c.id :: Jk N c.flow else []
def NB (N : Nat) (r : AR) : List Int := r.cells.flatMap fun c => c.id :: Jk N c.flow
def IF (N : Nat) (x : AE) : List Int := if x.kind = 6 then x.id :: Jk N x.flow else if x.kind = 7 then x.id :: x.rows.flatMap (NB N) else []
theorem MP (N : Nat) (l : List AE) : Jk (N + 1) l = l.flatMap (IF N) := rfl
def QA (m2 : List Int) : Nat → List AE → Prop
 | 0, _ => True
 | N + 1, l => ∀ x ∈ l, Jj x ∧ DC m2 x.head ∧ QA m2 N x.flow ∧ (x.kind = 7 → x.rows ≠ []) ∧ ∀ r ∈ x.rows, (DC m2 r.head ∧ r.cells ≠ []) ∧ ∀ c ∈ r.cells, DC m2 c.head ∧ QA m2 N c.flow
def okr (m2 : List Int) (N : Nat) (r : AR) : Prop := (DC m2 r.head ∧ r.cells ≠ []) ∧ ∀ c ∈ r.cells, DC m2 c.head ∧ QA m2 N c.flow
def oki (m2 : List Int) (N : Nat) (x : AE) : Prop := Jj x ∧ DC m2 x.head ∧ QA m2 N x.flow ∧ (x.kind = 7 → x.rows ≠ []) ∧ ∀ r ∈ x.rows, okr m2 N r
theorem QB (m2 : List Int) (N : Nat) : QA m2 N [] := by cases N <;> simp [QA]
def more (s s' : FV) (ids : List Int) : Prop := s'.1 = s.1 ++ ids ∧ (∀ i ∈ ids, 1 ≤ i ∧ i ≤ 1073741824) ∧ (s.1.Nodup → s'.1.Nodup)
theorem more.nil {s s' : FV} (h : s'.1 = s.1) : more s s' [] := ⟨by simp [h], by simp, by rw [h]; exact id⟩
theorem more.trans {s s1 s2 : FV} {a b : List Int} (h : more s s1 a) (g : more s1 s2 b) : more s s2 (a ++ b) :=
 ⟨by rw [g.1, h.1, KF], fun i hi => by rcases Kz.1 hi with hi | hi; exact h.2.1 i hi; exact g.2.1 i hi, fun n => g.2.2 (h.2.2 n)⟩
theorem more.one {s s' : FV} {id : Int} (h : s' = (s.1 ++ [id], s.2)) (h1 : 1 ≤ id ∧ id ≤ 1073741824) (h2 : id ∉ s.1) : more s s' [id] :=
 ⟨by rw [h], by simpa using h1, fun n => by rw [h]; simp only; rw [List.nodup_append]; exact ⟨n, by simp, by rintro a ha b hb; rw [Yb.1 hb]; rintro rfl; exact h2 ha⟩⟩
def LO (s : FV) (ids : List Int) (P : Prop) (e : Int) (s' : FV) : Prop := e = 0 → more s s' ids ∧ P
def trP : Tr := .pure 0 <| .pure 1 <| .pure 2 <| .pure 3 <| .pure 4 <| .pure 5 <| .one 6 <| .one 7 .nil
section
variable {K : Ck} {n0 : Nat}
def RH (K : Ck) (n0 : Nat) (N : Nat) (x : AE) : Prop := ∀ (s : FV) (pl : Bv) (H : Hp) (n : Nat), n0 ≤ n → (∀ o y, K.st s o = some y → H o = some y) →
 BN Tryz.prog 161 [.ptr K.p 0, x.enc, pl.enc] H n (CQ K (LO s (IF N x) (oki K.m2 N x)) H n)
def Mq (K : Ck) (n0 : Nat) (N : Nat) (l : List AE) : Prop := ∀ (s : FV) (pl : Bv) (H : Hp) (n : Nat), n0 ≤ n → (∀ o y, K.st s o = some y → H o = some y) →
 BN Tryz.prog 88 [.ptr K.p 0, AG l, pl.enc] H n (CQ K (LO s (Jk N l) (QA K.m2 N l)) H n)
theorem d160 (hK : K.ok n0) (N : Nat) (l : List AE) (i : Nat) (hi : i < l.length) (h : RH K n0 N l[i]) (s : FV) (pl : Bv) {H : Hp} {n : Nat} (hn : n0 ≤ n) (hs : ∀ o y, K.st s o = some y → H o = some y) :
 BN Tryz.prog 160 [AA i, .iptr [.ptr K.p 0], .iptr [AG l], .iptr [.bool pl.body, .bool pl.note, AA pl.tables]] H n (CQ K (LO s (IF N l[i]) (oki K.m2 N l[i])) H n) := by
 refine Da Tryz.func160 rfl fun ho => ?_
 obtain ⟨x, hx⟩ : ∃ x, l[i] = x := ⟨_, rfl⟩
 rw [hx] at h ⊢
 have hgx : (l.map AE.enc)[i]? = some x.enc := by simp [hi, hx]
 have D := hK.clo
 refine AZ 0 [(0, AA i), (1, .iptr [.ptr K.p 0]), (2, .iptr [AG l]), (3, .iptr [.bool pl.body, .bool pl.note, AA pl.tables])] H n ?_ (fun m hm => ?_)
 · simp [go_sem, Jo]
 refine AV 0 (α := Int × FV) (fun q => [(5, AA q.1)]) (fun q => As K.st q.2 H) (fun q m => n ≤ m ∧ LO s (IF N x) (oki K.m2 N x) q.1 q.2) (Bt trP rfl (by kernel_rfl) (by kernel_rfl) ?_) (fun q m hm => ?_)
 · have hc := h s pl H m (by omega) hs
   simp only [KW, Bv.enc] at hc
   simp [go_sem, trP, hi, hx, KW]
   refine Y9 hc ?_
   rintro v H' n' ⟨e, s2, rfl, hT, rfl, rfl⟩
   simp [go_sem]
   exact ⟨e, s2.1, s2.2, ⟨by omega, hT⟩, Jo, AB⟩
 · refine AK ?_
   simp [go_sem]
   exact hK.ret hn ho q.1 q.2 hm.2 AB
theorem HF {α β : Type} (f : α → List β) (l : List α) (i : Nat) (h : i < l.length) : (l.take (i + 1)).flatMap f = (l.take i).flatMap f ++ f l[i] := by
 rw [JW h, YM]; simp
theorem d88 (hK : K.ok n0) (N : Nat) (l : List AE) (hl : l.length ≤ 1048576) (h : ∀ x ∈ l, RH K n0 N x) : Mq K n0 (N + 1) l := fun s pl H n hn hs => by
 refine Da Tryz.func88 rfl fun ho => ?_
 have hHb := ho.lt
 refine AZ 1 [(3, .iptr [.ptr K.p 0]), (4, .iptr [AG l]), (5, .iptr [.bool pl.body, .bool pl.note, AA pl.tables])] H n ?_ (fun m hm => ?_)
 · simp [go_sem, Bv.enc, Y6]
   refine ⟨⟨AW (Ad hHb (by omega)) (by simp [hset]), AW (Ad hHb (by omega)) (by simp [hset]), AW (Ad hHb (by omega)) (by simp [hset])⟩, fun j y => ?_⟩
   have := hHb j y; simp only [hset]; grind
 have hd := d150 hK l.length hl 160 [] [.iptr [.ptr K.p 0], .iptr [AG l], .iptr [.bool pl.body, .bool pl.note, AA pl.tables]] (fun i s' => more s s' ((l.take i).flatMap (IF N)) ∧ ∀ x ∈ l.take i, oki K.m2 N x) (fun i s' H2 n2 hi hI hn2 hs2 => by
  refine (d160 hK N l i hi (h _ (Kn hi)) s' pl hn2 hs2).mono ?_
  rintro v h' n' ⟨e, s2, rfl, hT, rfl, rfl⟩
  refine ⟨e, s2, rfl, fun e0 => ?_, rfl, rfl⟩
  obtain ⟨h1, h2⟩ := hT e0
  rw [HF _ _ _ hi]
  refine ⟨hI.1.trans h1, fun x hx => ?_⟩
  rw [JW hi] at hx
  exact F9 hI.2 h2 x hx) s ⟨more.nil rfl, by simp⟩ (H := H) (n := m) (by omega) hs
 refine AK ?_
 simp [go_sem]
 refine Y9 hd ?_
 rintro v H' n' ⟨e, s2, rfl, hT, rfl, rfl⟩
 simp [go_sem]
 refine hK.ret hn ho e s2 (fun e0 => ?_) AB
 have := hT e0
 rw [KE] at this
 exact ⟨by rw [MP]; exact this.1, this.2⟩
end
section
variable {K : Ck} {n0 : Nat}
theorem Ck.ok.up_cnt (_hK : K.ok n0) (s : FV) (c : Int) {H : Hp} (hs : ∀ o y, K.st s o = some y → H o = some y) : As K.st (s.1, c) H = hset H K.p (some (.cells (K.cells c))) := by
 funext o
 have g := hs o
 simp only [As, Ck.st, hset] at g ⊢
 by_cases q0 : o = K.p
 · simp [q0]
 · simp only [q0, if_false] at g ⊢
   split
   · rename_i y hy; exact (g y hy).symm
   · rfl
def Tj (K : Ck) (n0 : Nat) (N : Nat) (l : List AR) : Prop := ∀ (s : FV) (pl : Bv) (H : Hp) (n : Nat), n0 ≤ n → (∀ o y, K.st s o = some y → H o = some y) →
 BN Tryz.prog 224 [.ptr K.p 0, Ay l, pl.enc] H n (CQ K (LO s (l.flatMap (NB N)) (l ≠ [] ∧ ∀ r ∈ l, okr K.m2 N r)) H n)
def Dk (x : AE) : List Int := if x.kind = 6 ∨ x.kind = 7 then [x.id] else []
set_option maxHeartbeats 4000000 in
theorem d161 (hK : K.ok n0) (N : Nat) (x : AE) (hx : x.sized) (hfl : Mq K n0 N x.flow) (hrw : Tj K n0 N x.rows) : RH K n0 N x := fun s pl H n hn hs => by
 refine Da Tryz.func161 rfl fun ho => ?_
 have D := hK.clo
 have hKp : K.p < n := by have := hK.lt K.p (by simp); omega
 have hU : ∀ s', FM (As K.st s' H) n := fun s' => D.old s' hn ho
 have hUb : ∀ s' j y, As K.st s' H j = some y → j < n := fun s' j y e => (hU s' j y e).1
 have hps : ∀ s', As K.st s' H K.p = some (.cells [.map K.s0, .map K.s1, .map K.s2, .map K.s3, .map K.s4, AA s'.2]) := fun s' => (hK.has (s := s') Bu).p
 have hcnt : ∀ (q : FV) b, hset (As K.st q H) K.p (some (.cells [.map K.s0, .map K.s1, .map K.s2, .map K.s3, .map K.s4, AA b])) = As K.st (q.1, b) H := fun q b => by rw [← D.up2 q (q.1, b) H, hK.up_cnt q b Bu]; rfl
 have no : ∀ (e : Int) (s' : FV) (m : Nat), e ≠ 0 → CE n (As K.st s' H) m (AA e) (CQ K (LO s (IF N x) (oki K.m2 N x)) H n) := fun e s' m he => hK.ret hn ho e s' (fun g => absurd g he) AB
 obtain ⟨X, hX⟩ : ∃ X : SV, X = .iptr [AA x.kind, AA x.code, AA x.id, .str x.text, Ag x.head.props, AA x.head.ins, AA x.head.move, Aa x.head.dels, AO x.head.layers, AG x.flow, Ay x.rows] := ⟨_, rfl⟩
 obtain ⟨Y, hY⟩ : ∃ Y : SV, Y = .iptr [.bool pl.body, .bool pl.note, AA pl.tables] := ⟨_, rfl⟩
 refine AZ 1 [(0, .ptr K.p 0), (4, X), (5, Y)] (As K.st s H) n ?_ (fun m hm => ?_)
 · rw [DH s H hs, hX, hY]
   have hHb := ho.lt
   simp [go_sem, Jo, Bv.enc, KW]
   refine ⟨by omega, ⟨AW (Ad hHb (by omega)) (by simp [hset]), AW (Ad hHb (by omega)) (by simp [hset])⟩, fun j y => ?_⟩
   have := hHb j y; simp only [hset]; grind
 refine CD 0 [(0, .ptr K.p 0), (4, X), (5, Y)] (As K.st s H) (fun m => n ≤ m ∧ Jj x) (AK ?_) (fun m hm => ?_)
 · rw [hX]
   simp [go_sem]
   refine TC.use (by simpa [KW] using t222 x hx) ?_
   rintro v ⟨e, rfl, hT⟩
   by_cases e0 : e = 0
   · simp [go_sem, e0, Jo, hm, hT e0]
   · simp [go_sem, e0]; exact no e s _ e0
 obtain ⟨hm, hform⟩ := hm
 refine BO 0 (α := Int) (fun _ => [(0, .ptr K.p 0), (4, X), (5, Y)]) (fun c => As K.st (s.1, c) H) (fun _ m => n ≤ m) ?_ (fun c m hm => ?_)
 · simp [go_sem, hps, Jo, hm]
   refine ⟨IntKind.i64.wrap (s.2 + 1), ?_⟩
   rw [DH s H hs, hK.up_cnt s _ hs]
   exact AB
 refine AV 0 (α := FV) (fun _ => [(0, .ptr K.p 0), (4, X), (5, Y)]) (fun q => As K.st q H) (fun q m => n ≤ m ∧ more s q (Dk x)) ?_ (fun q m hm => ?_)
 · refine AZ 0 [(0, .ptr K.p 0), (4, X), (5, Y), (27, AA x.kind)] (As K.st (s.1, c) H) n ?_ (fun m hm => ?_)
   · rw [hX]; simp [go_sem, Jo, hm]
   refine AX (AK ?_)
   by_cases k1 : x.kind = 1
   · have ow : Dk x = [] := by simp [Dk, k1]
     rw [ow, hX]
     simp [go_sem, k1]
     refine (c177 x.text (by have := (Dn hx).2.1; omega)).use ?_
     simp [go_sem, hps, Jo]
     rw [hcnt]
     refine ⟨s.1, _, ⟨hm, ?_⟩, AB⟩
     exact more.nil rfl
   · by_cases k3 : x.kind = 3
     · have ow : Dk x = [] := by simp [Dk, k3]
       rw [ow, hX, hY]
       cases hb : pl.body with
       | true =>
        simp [go_sem, k3, Jo]
        refine ⟨s.1, _, ⟨hm, ?_⟩, AB⟩
        exact more.nil rfl
       | false =>
        simp [go_sem, k3]
        exact no 19 _ _ (by decide)
     · by_cases k6 : x.kind = 6
       · have ow : Dk x = [x.id] := by simp [Dk, k6]
         rw [ow, hX, hY]
         simp [go_sem, k6]
         refine (Iy _ _).use ?_
         simp [go_sem]
         refine ZQ (bs := [.imm 1 ([if pl.note then (19 : Int) else 0].map AA) false]) (h2 := As K.st (s.1, c) H) 1 (AJ (fun j z e => by have := hUb _ j z e; omega) AB) ⟨?_, trivial⟩ ?_
         · exact DN (es := [AA (if pl.note then (19 : Int) else 0)]) (Ad (hUb _) hm) (by simp) (by rw [AC]; simp [SV.cells]) (by simp [SV.storable, SV.cells])
         refine (Oz _ (by simp)).use ?_
         cases hb : pl.note with
         | true => simp [go_sem, CH]; exact no 19 _ _ (by decide)
         | false =>
         simp [go_sem, CH]
         refine Y9 (UQ hK (s.1, c) x.id (by omega) Bu) ?_
         rintro v H' n' ⟨e, s2, rfl, hT, rfl, rfl⟩
         rw [D.up2]
         by_cases e0 : e = 0
         · obtain ⟨h1, h2, h3, h4⟩ := hT e0
           simp [go_sem, e0, Jo]
           exact ⟨s2.1, s2.2, ⟨by omega, more.one (s := s) (s' := (s2.1, s.2)) (by rw [h1]) ⟨h2, h3⟩ h4⟩, AB⟩
         · simp [go_sem, e0]
           exact no e _ _ e0
       · by_cases k7 : x.kind = 7
         · have ow : Dk x = [x.id] := by simp [Dk, k7]
           rw [ow, hX, hY]
           by_cases tb : 4 ≤ pl.tables
           · simp [go_sem, k7, tb]; exact no 17 _ _ (by decide)
           simp [go_sem, k7, tb]
           refine Y9 (UQ hK (s.1, c) x.id (by omega) Bu) ?_
           rintro v H' n' ⟨e, s2, rfl, hT, rfl, rfl⟩
           rw [D.up2]
           by_cases e0 : e = 0
           · obtain ⟨h1, h2, h3, h4⟩ := hT e0
             simp [go_sem, e0, Jo]
             exact ⟨s2.1, s2.2, ⟨by omega, more.one (s := s) (s' := (s2.1, s.2)) (by rw [h1]) ⟨h2, h3⟩ h4⟩, AB⟩
           · simp [go_sem, e0]
             exact no e _ _ e0
         · have ow : Dk x = [] := by simp [Dk, k6, k7]
           rw [ow, hX, hY]
           by_cases k8 : x.kind = 8
           · simp [go_sem, k8]
             refine (Jd _ _ _).use ?_
             by_cases c8 : 1 ≤ x.id ∧ x.id ≤ 1073741824
             · simp [go_sem, c8, Jo]
               refine ⟨s.1, _, ⟨hm, ?_⟩, AB⟩
               exact more.nil rfl
             · simp [go_sem, c8]
               exact no 18 _ _ (by decide)
           · simp [go_sem, k1, k3, k6, k7, k8, Jo]
             refine ⟨s.1, _, ⟨hm, ?_⟩, AB⟩
             exact more.nil rfl
 obtain ⟨hm, hmo⟩ := hm
 refine CD 0 [(0, .ptr K.p 0), (4, X), (5, Y)] (As K.st q H) (fun m => n ≤ m ∧ DC K.m2 x.head) (AK ?_) (fun m hm => ?_)
 · rw [hX]
   simp [go_sem]
   refine Y9 (by simpa [AF.enc, AF.flat] using d86 hK q x.kind x.head (Dn hx).1 (n := m) (by omega) Bu) ?_
   rintro v H' n' ⟨e, s2, rfl, hT, rfl, rfl⟩
   rw [D.up2]
   by_cases e0 : e = 0
   · obtain ⟨h1, h2⟩ := hT e0
     simp [go_sem, e0, Jo, h1, hm, h2]
   · simp [go_sem, e0]; exact no e _ _ e0
 obtain ⟨hm, hh⟩ := hm
 refine CD 0 [] (As K.st q H) (fun m => x.kind ≠ 6 ∧ x.kind ≠ 7) (AK ?_) (fun m hk => ?_)
 · rw [hX, hY]
   by_cases k6 : x.kind = 6
   · simp [go_sem, k6]
     refine Y9 (by simpa [Bv.enc] using hfl q ⟨false, true, pl.tables⟩ (As K.st q H) m (by omega) Bu) ?_
     rintro v H' n' ⟨e, s2, rfl, hT, rfl, rfl⟩
     rw [D.up2]
     simp [go_sem]
     refine hK.ret hn ho e s2 (fun e0 => ?_) AB
     obtain ⟨h1, h2⟩ := hT e0
     have h3 := hmo.trans h1
     have e1 : Dk x ++ Jk N x.flow = IF N x := by simp [Dk, IF, k6]
     rw [e1] at h3
     exact ⟨h3, hform, hh, h2, fun h => absurd h (by omega), by rw [hform.2.1 (by omega)]; simp⟩
   · by_cases k7 : x.kind = 7
     · simp [go_sem, k7]
       refine Y9 (by simpa [Bv.enc] using hrw q ⟨false, pl.note, IntKind.i64.wrap (pl.tables + 1)⟩ (As K.st q H) m (by omega) Bu) ?_
       rintro v H' n' ⟨e, s2, rfl, hT, rfl, rfl⟩
       rw [D.up2]
       simp [go_sem]
       refine hK.ret hn ho e s2 (fun e0 => ?_) AB
       obtain ⟨h1, h2⟩ := hT e0
       have h3 := hmo.trans h1
       have e1 : Dk x ++ x.rows.flatMap (NB N) = IF N x := by simp [Dk, IF, k7]
       rw [e1] at h3
       exact ⟨h3, hform, hh, by rw [hform.1 (by omega)]; exact QB _ _, fun _ => h2.1, h2.2⟩
     · simp [go_sem, k6, k7]
 · refine AK ?_
   simp [go_sem]
   refine hK.ret hn ho 0 q (fun _ => ?_) AB
   have e1 : Dk x = IF N x := by simp [Dk, IF, hk.1, hk.2]
   rw [e1] at hmo
   exact ⟨hmo, hform, hh, by rw [hform.1 hk.1]; exact QB _ _, fun h => absurd h hk.2, by rw [hform.2.1 hk.2]; simp⟩
end
def trW2 : Tr := .pure 0 <| .pure 1 <| .pure 2 <| .pure 4 <| .pure 5 <| .pure 6 <| .pure 7 <| .pure 9 <| .pure 10 <| .pure 11 <| .pure 12 <| .one 3 <| .one 8 <| .one 13 <| .one 14 <| .one 15 <| .one 16 .nil
section
variable {K : Ck} {n0 : Nat}
def TD (N : Nat) (c : AL) : List Int := c.id :: Jk N c.flow
theorem TE (N : Nat) (r : AR) : NB N r = r.cells.flatMap (TD N) := rfl
def okcl (m2 : List Int) (N : Nat) (c : AL) : Prop := DC m2 c.head ∧ QA m2 N c.flow
theorem more.trans' {s s1 s2 : FV} {a b c : List Int} (h : more s s1 a) (g : more s1 s2 b) (e : a ++ b = c) : more s s2 c := by subst e; exact h.trans g
theorem C1 {a : Int} {l : List Int} (h : CH (a :: l) = 0) : a = 0 := by
 rw [CH] at h
 by_cases g : a = 0
 · exact g
 · rw [if_neg g] at h; exact h
theorem PK {a b : Int} {l : List Int} (h : CH (a :: b :: l) = 0) : a = 0 ∧ b = 0 := by
 have h1 := C1 h
 rw [CH, if_pos h1] at h
 exact ⟨h1, C1 h⟩
set_option maxHeartbeats 4000000 in
theorem d224 (hK : K.ok n0) (N : Nat) (l : List AR) (hl : l.length ≤ 1048576) (hr : ∀ r ∈ l, r.head.sized ∧ r.cells.length ≤ 1048576 ∧ ∀ c ∈ r.cells, c.head.sized ∧ Mq K n0 N c.flow) : Tj K n0 N l := fun s pl H n hn hs => by
 refine Da Tryz.func224 rfl fun ho => ?_
 have D := hK.clo
 have hU : ∀ s', FM (As K.st s' H) n := fun s' => D.old s' hn ho
 have hUb : ∀ s' j y, As K.st s' H j = some y → j < n := fun s' j y e => (hU s' j y e).1
 obtain ⟨T, hT⟩ : ∃ T, T = LO s (l.flatMap (NB N)) (l ≠ [] ∧ ∀ r ∈ l, okr K.m2 N r) := ⟨_, rfl⟩
 rw [← hT]
 have no : ∀ (e : Int) (s' : FV) (m : Nat), e ≠ 0 → CE n (As K.st s' H) m (AA e) (CQ K T H n) := fun e s' m he => hK.ret hn ho e s' (by rw [hT]; exact fun g => absurd g he) AB
 refine AZ 1 [(0, .ptr K.p 0), (1, Ay l), (5, .iptr [.bool pl.body, .bool pl.note, AA pl.tables])] (As K.st s H) n ?_ (fun m hm => ?_)
 · rw [DH s H hs]
   have hHb := ho.lt
   simp [go_sem, Jo, Bv.enc]
   exact ⟨AW (Ad hHb (by omega)) (by simp [hset]), AJ hHb AB⟩
 refine CD 0 [(0, .ptr K.p 0), (1, Ay l), (5, .iptr [.bool pl.body, .bool pl.note, AA pl.tables])] (As K.st s H) (fun m => n ≤ m ∧ l ≠ []) (AK ?_) (fun m hm => ?_)
 · by_cases c : l = []
   · simp [go_sem, c]; exact no 11 _ _ (by decide)
   · simp [go_sem, c, Jo, hm]
 obtain ⟨hm, hne⟩ := hm
 refine Bf 0 [(0, .ptr K.p 0), (1, Ay l), (5, .iptr [.bool pl.body, .bool pl.note, AA pl.tables])] (As K.st s H) n (AK ?_) (fun m hm => ?_)
 · by_cases c : (256 : Int) < l.length
   · simp [go_sem, c]; exact no 9 _ _ (by decide)
   · simp [go_sem, c, Jo, hm]
 refine AV 0 (α := FV) (fun _ => []) (fun q => As K.st q H) (fun q m => n ≤ m ∧ more s q (l.flatMap (NB N)) ∧ ∀ r ∈ l, okr K.m2 N r) ?_ (fun q m hm => ?_)
 · refine AZ 0 [(0, .ptr K.p 0), (5, .iptr [.bool pl.body, .bool pl.note, AA pl.tables]), (21, Ay l), (22, AA l.length), (23, AA 0)] (As K.st s H) n ?_ (fun m hm => ?_)
   · simp [go_sem, Jo, hm]
   refine AX (BX 0 (α := Nat × FV) (fun q => [(0, .ptr K.p 0), (5, .iptr [.bool pl.body, .bool pl.note, AA pl.tables]), (21, Ay l), (22, AA l.length), (23, AA q.1)]) (fun q => As K.st q.2 H) (fun q m => q.1 ≤ l.length ∧ n ≤ m ∧ more s q.2 ((l.take q.1).flatMap (NB N)) ∧ ∀ r ∈ l.take q.1, okr K.m2 N r) (fun q => l.length - q.1) (0, s) ⟨K2 _, hm, more.nil rfl, by simp⟩ ?_ AB ?_)
   · simp [go_sem, Am, Jo]
   rintro ⟨i, s1⟩ m ⟨hi, hm, hmo, hok⟩
   dsimp only at hi hmo hok ⊢
   by_cases hlt : i < l.length
   · obtain ⟨x, hx⟩ : ∃ x, l[i] = x := ⟨_, rfl⟩
     have hxm : x ∈ l := by rw [← hx]; exact Kn hlt
     obtain ⟨x1, x2, x3⟩ := hr x hxm
     have hgx : (l.map AR.enc)[i]? = some x.enc := by simp [hlt, hx]
     have w1 := wS i (by omega)
     have tk := HF (NB N) l i hlt
     rw [hx] at tk
     have tl : l.take (i + 1) = l.take i ++ [x] := by rw [JW hlt, hx]
     refine AZ 0 [(0, .ptr K.p 0), (5, .iptr [.bool pl.body, .bool pl.note, AA pl.tables]), (21, Ay l), (22, AA l.length), (23, AA i), (24, .bool true)] (As K.st s1 H) n ?_ (fun m hm => ?_)
     · simp [go_sem, Jo, hm, hlt]
     refine AZ 0 [(0, .ptr K.p 0), (5, .iptr [.bool pl.body, .bool pl.note, AA pl.tables]), (21, Ay l), (22, AA l.length), (23, AA i)] (As K.st s1 H) n ?_ (fun m hm => ?_)
     · simp [go_sem, Jo, hm]
     refine AV 0 (α := FV) (fun _ => [(0, .ptr K.p 0), (5, .iptr [.bool pl.body, .bool pl.note, AA pl.tables]), (21, Ay l), (22, AA l.length), (23, AA i)]) (fun q => As K.st q H) (fun q m => n ≤ m ∧ more s q ((l.take (i + 1)).flatMap (NB N)) ∧ okr K.m2 N x) ?_ (fun q m hm => ?_)
     · refine AX ?_
       refine AZ 1 [(0, .ptr K.p 0), (5, .iptr [.bool pl.body, .bool pl.note, AA pl.tables]), (21, Ay l), (22, AA l.length), (23, AA i), (8, .iptr (x.head.flat ++ [BT x.cells]))] (As K.st s1 H) n ?_ (fun m hm => ?_)
       · simp [go_sem, Jo, hlt, hx, Yj, AF.flat, AC]
         have hHm : ∀ j y, As K.st s1 H j = some y → j < m := fun j y e => by have := hUb _ j y e; omega
         exact ⟨by omega, AW (Ad hHm (JO _)) (AC _ _ _), AJ hHm (AJ hHm AB)⟩
       have hd := d86 hK s1 9 x.head x1 (H := As K.st s1 H) (n := m) (by omega) Bu
       refine CD 0 [(0, .ptr K.p 0), (5, .iptr [.bool pl.body, .bool pl.note, AA pl.tables]), (21, Ay l), (22, AA l.length), (23, AA i), (8, .iptr (x.head.flat ++ [BT x.cells]))] (As K.st s1 H) (fun m => n ≤ m ∧ DC K.m2 x.head ∧ x.cells ≠ []) ?_ (fun m hm => ?_)
       · refine AV 0 (α := Int × FV) (fun q => [(0, .ptr K.p 0), (5, .iptr [.bool pl.body, .bool pl.note, AA pl.tables]), (21, Ay l), (22, AA l.length), (23, AA i), (8, .iptr (x.head.flat ++ [BT x.cells])), (9, AA q.1)]) (fun q => As K.st q.2 H) (fun q m => n ≤ m ∧ (q.1 = 0 → q.2 = s1 ∧ DC K.m2 x.head ∧ x.cells ≠ [])) (Bt trW2 rfl (by kernel_rfl) (by kernel_rfl) ?_) (fun q m hm => ?_)
         · simp [go_sem, trW2, AF.flat]
           refine Y9 (by simpa [AF.enc, AF.flat] using hd) ?_
           rintro v H' n' ⟨e, s2, rfl, hT, rfl, rfl⟩
           rw [D.up2]
           simp [go_sem]
           refine (Iy _ _).use ?_
           simp [go_sem]
           refine (Iy _ _).use ?_
           simp [go_sem]
           have hea : (if x.cells = [] then (11 : Int) else 0) = 0 → x.cells ≠ [] := fun g => by intro c; rw [if_pos c] at g; cases g
           generalize (if x.cells = [] then (11 : Int) else 0) = ea at hea ⊢
           generalize (if 32 < (x.cells.length : Int) then (9 : Int) else 0) = eb
           refine ZQ (bs := [.imm 1 ([e, ea, eb].map AA) false]) (h2 := As K.st s2 H) 1 (AJ (fun j z e => by have := hUb s2 j z e; omega) AB) ⟨?_, trivial⟩ ?_
           · exact DN (es := [AA e, AA ea, AA eb]) (Ad (hUb s2) hm) (by simp) (by rw [AC]; simp [SV.cells]) (by simp [SV.storable, SV.cells])
           refine (Oz _ (by simp)).use ?_
           generalize hf : CH [e, ea, eb] = ef
           simp [go_sem, Jo]
           exact ⟨ef, s2.1, s2.2, ⟨by omega, fun h0 => by obtain ⟨g1, g2⟩ := PK (by rw [hf]; exact h0); obtain ⟨t1, t2⟩ := hT g1; exact ⟨t1, t2, hea g2⟩⟩, Jo, AB⟩
         obtain ⟨e8, s8⟩ := q
         dsimp only at hm ⊢
         by_cases e80 : e8 = 0
         case neg => exact AK (by simp [go_sem, e80]; exact no e8 _ _ e80)
         obtain ⟨h81, hhd⟩ := hm.2 e80
         rw [e80, h81]
         exact AK (by simp [go_sem, Jo, hm.1, hhd])
       obtain ⟨hm, hhd⟩ := hm
       refine AZ 0 [(0, .ptr K.p 0), (5, .iptr [.bool pl.body, .bool pl.note, AA pl.tables]), (21, Ay l), (22, AA l.length), (23, AA i), (47, BT x.cells), (48, AA x.cells.length), (49, AA 0)] (As K.st s1 H) n ?_ (fun m hm => ?_)
       · simp [go_sem, Jo, AF.flat, hm]
       refine AX (BX 0 (α := Nat × FV) (fun q => [(0, .ptr K.p 0), (5, .iptr [.bool pl.body, .bool pl.note, AA pl.tables]), (21, Ay l), (22, AA l.length), (23, AA i), (47, BT x.cells), (48, AA x.cells.length), (49, AA q.1)]) (fun q => As K.st q.2 H) (fun q m => q.1 ≤ x.cells.length ∧ n ≤ m ∧ more s1 q.2 ((x.cells.take q.1).flatMap (TD N)) ∧ ∀ c ∈ x.cells.take q.1, okcl K.m2 N c) (fun q => x.cells.length - q.1) (0, s1) ⟨K2 _, hm, more.nil rfl, by simp⟩ ?_ AB ?_)
       · simp [go_sem, Am, Jo]
       rintro ⟨j, s2⟩ m ⟨hj, hm, hmo2, hok2⟩
       dsimp only at hj hmo2 hok2 ⊢
       by_cases hjt : j < x.cells.length
       · obtain ⟨y, hy⟩ : ∃ y, x.cells[j] = y := ⟨_, rfl⟩
         have hym : y ∈ x.cells := by rw [← hy]; exact Kn hjt
         obtain ⟨y1, y2⟩ := x3 y hym
         have w2 := wS j (by omega)
         have tk2 := HF (TD N) x.cells j hjt
         rw [hy] at tk2
         have tl2 : x.cells.take (j + 1) = x.cells.take j ++ [y] := by rw [JW hjt, hy]
         refine AZ 0 [(0, .ptr K.p 0), (5, .iptr [.bool pl.body, .bool pl.note, AA pl.tables]), (21, Ay l), (22, AA l.length), (23, AA i), (47, BT x.cells), (48, AA x.cells.length), (49, AA j), (50, .bool true)] (As K.st s2 H) n ?_ (fun m hm => ?_)
         · simp [go_sem, Jo, hm, hjt]
         refine AZ 0 [(0, .ptr K.p 0), (5, .iptr [.bool pl.body, .bool pl.note, AA pl.tables]), (21, Ay l), (22, AA l.length), (23, AA i), (47, BT x.cells), (48, AA x.cells.length), (49, AA j)] (As K.st s2 H) n ?_ (fun m hm => ?_)
         · simp [go_sem, Jo, hm]
         refine AV 0 (α := FV) (fun _ => [(0, .ptr K.p 0), (5, .iptr [.bool pl.body, .bool pl.note, AA pl.tables]), (21, Ay l), (22, AA l.length), (23, AA i), (47, BT x.cells), (48, AA x.cells.length), (49, AA j)]) (fun q => As K.st q H) (fun q m => n ≤ m ∧ more s2 q (TD N y) ∧ okcl K.m2 N y) ?_ (fun q m hm => ?_)
         · refine AX ?_
           refine AZ 1 [(0, .ptr K.p 0), (5, .iptr [.bool pl.body, .bool pl.note, AA pl.tables]), (21, Ay l), (22, AA l.length), (23, AA i), (47, BT x.cells), (48, AA x.cells.length), (49, AA j), (11, .iptr ([AA y.id] ++ y.head.flat ++ [AG y.flow]))] (As K.st s2 H) n ?_ (fun m hm => ?_)
           · simp [go_sem, Jo, hjt, hy, YP, AF.flat, AC]
             have hHm : ∀ j y, As K.st s2 H j = some y → j < m := fun j y e => by have := hUb _ j y e; omega
             exact ⟨by omega, AW (Ad hHm (JO _)) (AC _ _ _), AJ hHm (AJ hHm AB)⟩
           refine AV 0 (α := FV) (fun _ => [(0, .ptr K.p 0), (5, .iptr [.bool pl.body, .bool pl.note, AA pl.tables]), (21, Ay l), (22, AA l.length), (23, AA i), (47, BT x.cells), (48, AA x.cells.length), (49, AA j), (11, .iptr ([AA y.id] ++ y.head.flat ++ [AG y.flow]))]) (fun q => As K.st q H) (fun q m => n ≤ m ∧ more s2 q [y.id]) (AK ?_) (fun q m hm => ?_)
           · simp [go_sem]
             refine Y9 (UQ hK s2 y.id (by omega) Bu) ?_
             rintro v H' n' ⟨e, s3, rfl, hT, rfl, rfl⟩
             rw [D.up2]
             by_cases e0 : e = 0
             · obtain ⟨h1, h2, h3, h4⟩ := hT e0
               simp [go_sem, e0, Jo, AF.flat]
               refine ⟨s3.1, s3.2, ⟨by omega, ?_⟩, AB⟩
               exact more.one h1 ⟨h2, h3⟩ h4
             · simp [go_sem, e0]
               exact no e _ _ e0
           obtain ⟨hm, hq1⟩ := hm
           refine CD 0 [(0, .ptr K.p 0), (5, .iptr [.bool pl.body, .bool pl.note, AA pl.tables]), (21, Ay l), (22, AA l.length), (23, AA i), (47, BT x.cells), (48, AA x.cells.length), (49, AA j), (11, .iptr ([AA y.id] ++ y.head.flat ++ [AG y.flow]))] (As K.st q H) (fun m => n ≤ m ∧ DC K.m2 y.head) (AK ?_) (fun m hm => ?_)
           · simp [go_sem, AF.flat]
             refine Y9 (by simpa [AF.enc, AF.flat] using d86 hK q 10 y.head y1 (H := As K.st q H) (n := m) (by omega) Bu) ?_
             rintro v H' n' ⟨e, s3, rfl, hT, rfl, rfl⟩
             rw [D.up2]
             by_cases e0 : e = 0
             · obtain ⟨h1, h2⟩ := hT e0
               simp [go_sem, e0, Jo, h1, h2]; omega
             · simp [go_sem, e0]
               exact no e _ _ e0
           obtain ⟨hm, hh2⟩ := hm
           refine AK ?_
           simp [go_sem, AF.flat]
           refine Y9 (by simpa [Bv.enc] using y2 q pl (As K.st q H) m (by omega) Bu) ?_
           rintro v H' n' ⟨e, s3, rfl, hT, rfl, rfl⟩
           rw [D.up2]
           by_cases e0 : e = 0
           · obtain ⟨h1, h2⟩ := hT e0
             simp [go_sem, e0, Jo]
             refine ⟨s3.1, s3.2, ⟨by omega, ?_, hh2, h2⟩, AB⟩
             exact hq1.trans' h1 rfl
           · simp [go_sem, e0]
             exact no e _ _ e0
         · refine AK ?_
           simp [go_sem, w2, Jo, -Int.natCast_add]
           refine ⟨j + 1, by omega, q.1, q.2, ⟨by omega, hm.1, hmo2.trans' hm.2.1 tk2.symm, fun c hc => ?_⟩, rfl, AB⟩
           rw [tl2] at hc
           exact F9 hok2 hm.2.2 c hc
       · have : j = x.cells.length := by omega
         subst this
         rw [KE] at hmo2 hok2
         refine AK ?_
         simp [go_sem, Jo]
         refine ⟨s2.1, s2.2, ⟨hm, ?_, hhd, hok2⟩, AB⟩
         exact hmo.trans' hmo2 (by rw [tk, TE])
     · refine AK ?_
       simp [go_sem, w1, Jo, -Int.natCast_add]
       refine ⟨i + 1, by omega, q.1, q.2, ⟨by omega, hm.1, hm.2.1, fun r hr => ?_⟩, rfl, AB⟩
       rw [tl] at hr
       exact F9 hok hm.2.2 r hr
   · have : i = l.length := by omega
     subst this
     rw [KE] at hmo hok
     refine AK ?_
     simp [go_sem]
     exact ⟨s1.1, s1.2, ⟨hm, hmo, hok⟩, AB⟩
 · refine AK ?_
   simp [go_sem]
   exact hK.ret hn ho 0 q (by rw [hT]; exact fun _ => ⟨hm.2.1, hne, hm.2.2⟩) AB
end
theorem PA {K : Ck} {n0 : Nat} (hK : K.ok n0) {B : Nat} (hB : B ≤ 1048576) : ∀ (N : Nat) (l : List AE), Ex AF.sized B N l → Mq K n0 N l
 | 0, _, h => h.elim
 | N + 1, l, h => by
  have hs := h.sized (fun _ e => e) hB
  obtain ⟨_, _, h3⟩ := Ds.1 h
  refine d88 hK N l hs.1 fun x hx => ?_
  obtain ⟨a1, a2, a3, a4⟩ := h3 x hx
  refine d161 hK N x (Zc hs.2 x hx) (PA hK hB N x.flow a2) (d224 hK N x.rows (by omega) fun r hr => ?_)
  obtain ⟨b1, b2, b3⟩ := a4 r hr
  exact ⟨b1, by omega, fun c hc => ⟨(b3 c hc).1, PA hK hB N c.flow (b3 c hc).2⟩⟩
theorem Qt (l : List (Int × Int)) (j : Nat) (x v : Int) : ∃ l', HM (GM l) j (AA x) (AA v) = GM l' := by
 unfold HM GM
 exact ⟨l.modify j fun _ => (x, v), by apply ZV; intro i; simp only [ZE, Yh]; by_cases e : j = i <;> cases l[i]? <;> simp [e]⟩
def hb (h : Hp) (n : Nat) (a0 : List (Int × Int)) (a1 a2 : List Int) : Hp :=
 hset (hset (hset (hset (hset (hset h (n + 1) (some (.map (GM a0)))) (n + 2) (some (.map (EM a1)))) (n + 3) (some (.map (EM a2)))) (n + 4) (some (.map []))) (n + 5) (some (.map []))) (n + 6) (some (.cells [.map (n + 1), .map (n + 2), .map (n + 3), .map (n + 4), .map (n + 5), AA 0]))
section
variable {h : Hp} {n : Nat} {a0 : List (Int × Int)} {a1 a2 : List Int}
theorem UX : hb h n a0 a1 a2 (n + 6) = some (.cells [.map (n + 1), .map (n + 2), .map (n + 3), .map (n + 4), .map (n + 5), AA 0]) := by simp [hb, hset]
theorem UW : hb h n a0 a1 a2 (n + 1) = some (.map (GM a0)) := by simp [hb, hset]
theorem IK : hb h n a0 a1 a2 (n + 2) = some (.map (EM a1)) := by simp [hb, hset]
theorem Rq : hb h n a0 a1 a2 (n + 3) = some (.map (EM a2)) := by simp [hb, hset]
theorem hb4 : hb h n a0 a1 a2 (n + 4) = some (.map []) := by simp [hb, hset]
theorem hb5 : hb h n a0 a1 a2 (n + 5) = some (.map []) := by simp [hb, hset]
theorem hb1s (b : List (Int × Int)) : hset (hb h n a0 a1 a2) (n + 1) (some (.map (GM b))) = hb h n b a1 a2 := by funext j; simp only [hb, hset]; grind
theorem hb2s (b : List Int) : hset (hb h n a0 a1 a2) (n + 2) (some (.map (EM b))) = hb h n a0 b a2 := by funext j; simp only [hb, hset]; grind
theorem hb3s (b : List Int) : hset (hb h n a0 a1 a2) (n + 3) (some (.map (EM b))) = hb h n a0 a1 b := by funext j; simp only [hb, hset]; grind
theorem P4 (ho : ∀ j y, h j = some y → j < n) : ∀ j y, hb h n a0 a1 a2 j = some y → j < n + 7 := fun j y e => by
 have := ho j y; simp only [hb, hset] at e; grind
theorem UY (ho : ∀ j y, h j = some y → j < n) : ∀ j y, h j = some y → hb h n a0 a1 a2 j = some y := fun j y e => by
 have := ho j y; simp only [hb, hset]; grind
end
def newQ (d : AH) (h : Hp) (n : Nat) : SV → Hp → Nat → Prop := fun v h' n' => ∃ K : Ck, K.ok n' ∧ n ≤ n' ∧ v = .ptr K.p 0 ∧ (∀ o y, K.st ([], 0) o = some y → h' o = some y) ∧ K.m2 = Bb [] (d.revs.map (·.id)) ∧ (∀ j y, h j = some y → h' j = some y) ∧ ∀ o y, K.st ([], 0) o = some y → n ≤ o
set_option maxHeartbeats 2000000 in
theorem d85 (d : AH) (h1 : d.settings.styles.length ≤ 1048576) (h2 : d.settings.lists.length ≤ 1048576) (h3 : d.revs.length ≤ 1048576) {h : Hp} {n : Nat} : BN Tryz.prog 85 [d.enc] h n (newQ d h n) := by
 refine Da Tryz.func85 rfl fun ho => ?_
 have hHb := ho.lt
 obtain ⟨X, hX⟩ : ∃ X : SV, X = .iptr ([AG d.flow] ++ d.«end».flat ++ [Aj d.revs] ++ d.settings.flat) := ⟨_, rfl⟩
 refine Bn 1 [(1, X)] h (fun m => n + 1 = m) ?_ (fun m hm => ?_)
 · rw [hX]
   simp [go_sem, AH.enc, AF.flat, AI.flat]
   exact ⟨AW (Ad hHb (JO _)) (AC _ _ _), AJ hHb AB⟩
 subst hm
 refine Bn 0 [(1, X), (3, .ptr (n + 6) 0)] (hb h n [] [] []) (fun m => n + 7 = m) ?_ (fun m hm => ?_)
 · simp [go_sem, Jo, Y6, hb, GM, EM]
 subst hm
 refine AV 0 (α := List (Int × Int)) (fun _ => [(1, X), (3, .ptr (n + 6) 0)]) (fun a => hb h n a [] []) (fun _ m => n + 7 ≤ m) ?_ (fun a0 m hm => ?_)
 · refine Bn 0 [(1, X), (3, .ptr (n + 6) 0), (19, Ac d.settings.styles), (20, AA d.settings.styles.length), (21, AA 0)] (hb h n [] [] []) (fun m => n + 7 ≤ m) ?_ (fun m hm => ?_)
   · rw [hX]; simp [go_sem, Jo, AF.flat, AI.flat]
   refine AX (BX 0 (α := Nat × List (Int × Int)) (fun q => [(1, X), (3, .ptr (n + 6) 0), (19, Ac d.settings.styles), (20, AA d.settings.styles.length), (21, AA q.1)]) (fun q => hb h n q.2 [] []) (fun q m => q.1 ≤ d.settings.styles.length ∧ n + 7 ≤ m) (fun q => d.settings.styles.length - q.1) (0, []) ⟨K2 _, hm⟩ ?_ AB ?_)
   · simp [go_sem, Am, Jo]
   rintro ⟨i, a⟩ m ⟨hi, hm⟩
   dsimp only at hi ⊢
   have hlt7 : ∀ j y, hb h n a [] [] j = some y → j < m := fun j y e => by have := P4 (h := h) (n := n) (fun j y e => hHb j y e) j y e; omega
   refine AK ?_
   by_cases hlt : i < d.settings.styles.length
   · obtain ⟨x, hx⟩ : ∃ x, d.settings.styles[i] = x := ⟨_, rfl⟩
     have w1 := wS i (by omega)
     have e6 : n + 6 ≠ m := by omega
     have e1 : n + 1 ≠ m := by omega
     have fin : ∀ b z y, ∃ a', ∀ j w, hb h n a' [] [] j = some w → hset (hset (hset (hb h n a [] []) m y) m z) (n + 1) (some (.map (GM b))) j = some w := fun b z y => ⟨b, fun j w e => by
      have := P4 (h := h) (n := n) (fun j y e => hHb j y e) j w e
      rw [← hb1s (a0 := a)] at e
      simp only [hset] at e ⊢
      split at e
      · rename_i c; rw [if_pos c]; exact e
      · rename_i c; rw [if_neg c, if_neg (by omega), if_neg (by omega)]; exact e⟩
     rcases H3 x.id a 0 with f | ⟨j, v, f⟩
     · have hpush : GM a ++ [(AA x.id, AA x.kind)] = GM (a ++ [(x.id, x.kind)]) := by simp [GM]
       simp [go_sem, hlt, hx, A7.enc, AC, AD, e6, e1, UX, UW, f, CM, hpush, w1, -Int.natCast_add]
       repeat first | refine nq ?_ | refine sq ?_ | refine aq ?_
       obtain ⟨a2, ha2⟩ := fin (a ++ [(x.id, x.kind)]) _ _
       exact ⟨i + 1, by omega, ⟨by omega, by omega⟩, a2, rfl, ha2⟩
     · obtain ⟨a', ha'⟩ := Qt a j x.id x.kind
       simp only [HM] at ha'
       simp [go_sem, hlt, hx, A7.enc, AC, AD, e6, e1, UX, UW, f, CM, ha', w1, -Int.natCast_add]
       repeat first | refine nq ?_ | refine sq ?_ | refine aq ?_
       obtain ⟨a2, ha2⟩ := fin a' _ _
       exact ⟨i + 1, by omega, ⟨by omega, by omega⟩, a2, rfl, ha2⟩
   · simp [go_sem, hlt, Jo]
     exact ⟨by omega, a, AB⟩
 refine AV 0 (α := List Int) (fun _ => [(1, X), (3, .ptr (n + 6) 0)]) (fun a => hb h n a0 a []) (fun a m => n + 7 ≤ m) ?_ (fun a1 m hm => ?_)
 · refine Bn 0 [(1, X), (3, .ptr (n + 6) 0), (36, DS d.settings.lists), (37, AA d.settings.lists.length), (38, AA 0)] (hb h n a0 [] []) (fun m => n + 7 ≤ m) ?_ (fun m hm => ?_)
   · rw [hX]; simp [go_sem, Jo, AF.flat, AI.flat, hm]
   refine AX (BX 0 (α := Nat × List Int) (fun q => [(1, X), (3, .ptr (n + 6) 0), (36, DS d.settings.lists), (37, AA d.settings.lists.length), (38, AA q.1)]) (fun q => hb h n a0 q.2 []) (fun q m => q.1 ≤ d.settings.lists.length ∧ n + 7 ≤ m ∧ q.2 = Bb [] ((d.settings.lists.take q.1).map (·.id))) (fun q => d.settings.lists.length - q.1) (0, []) ⟨K2 _, hm, by simp [Bb]⟩ ?_ AB ?_)
   · simp [go_sem, Am, Jo]
   rintro ⟨i, a⟩ m ⟨hi, hm, ha⟩
   dsimp only at hi ha ⊢
   refine AK ?_
   by_cases hlt : i < d.settings.lists.length
   · obtain ⟨x, hx⟩ : ∃ x, d.settings.lists[i] = x := ⟨_, rfl⟩
     have w1 := wS i (by omega)
     have e6 : n + 6 ≠ m := by omega
     have e1 : n + 2 ≠ m := by omega
     have hnext : Bb [] ((d.settings.lists.take (i + 1)).map (·.id)) = Eh a x.id := by rw [JW hlt, hx, K1, CB, ← ha]; rfl
     have fin : ∀ b z y, ∀ j w, hb h n a0 b [] j = some w → hset (hset (hset (hb h n a0 a []) m y) m z) (n + 2) (some (.map (EM b))) j = some w := fun b z y j w e => by
      have := P4 (h := h) (n := n) (fun j y e => hHb j y e) j w e
      rw [← hb2s (a1 := a)] at e
      simp only [hset] at e ⊢
      split at e
      · rename_i c; rw [if_pos c]; exact e
      · rename_i c; rw [if_neg c, if_neg (by omega), if_neg (by omega)]; exact e
     by_cases hm2 : x.id ∈ a
     · obtain ⟨j, f, hj⟩ := DA 0 hm2
       have hss := Ip hj
       simp only [HM] at hss
       rw [YV] at f
       simp [go_sem, hlt, hx, FL.enc, AC, AD, e6, e1, UX, IK, f, CM, hss, w1, -Int.natCast_add]
       repeat first | refine nq ?_ | refine sq ?_ | refine aq ?_
       refine ⟨i + 1, by omega, a, ⟨by omega, by omega, ?_⟩, rfl, fin a _ _⟩
       rw [Zn] at hnext; rw [hnext, Eh, if_pos hm2]
     · have f := Dh 0 hm2
       have hpush := LJ a x.id
       simp [go_sem, hlt, hx, FL.enc, AC, AD, e6, e1, UX, IK, f, CM, hpush, w1, -Int.natCast_add]
       repeat first | refine nq ?_ | refine sq ?_ | refine aq ?_
       refine ⟨i + 1, by omega, a ++ [x.id], ⟨by omega, by omega, ?_⟩, rfl, fin _ _ _⟩
       rw [Zn] at hnext; rw [hnext, Eh, if_neg hm2]
   · have : i = d.settings.lists.length := by omega
     subst this
     rw [KE] at ha
     simp [go_sem, Jo]
     exact ⟨by omega, a, AB⟩
 refine AV 0 (α := List Int) (fun _ => [(1, X), (3, .ptr (n + 6) 0)]) (fun a => hb h n a0 a1 a) (fun a m => n + 7 ≤ m ∧ a = Bb [] (d.revs.map (·.id))) ?_ (fun a2 m hm => ?_)
 · refine Bn 0 [(1, X), (3, .ptr (n + 6) 0), (50, Aj d.revs), (51, AA d.revs.length), (52, AA 0)] (hb h n a0 a1 []) (fun m => n + 7 ≤ m) ?_ (fun m hm => ?_)
   · rw [hX]; simp [go_sem, Jo, AF.flat, AI.flat, hm]
   refine AX (BX 0 (α := Nat × List Int) (fun q => [(1, X), (3, .ptr (n + 6) 0), (50, Aj d.revs), (51, AA d.revs.length), (52, AA q.1)]) (fun q => hb h n a0 a1 q.2) (fun q m => q.1 ≤ d.revs.length ∧ n + 7 ≤ m ∧ q.2 = Bb [] ((d.revs.take q.1).map (·.id))) (fun q => d.revs.length - q.1) (0, []) ⟨K2 _, hm, by simp [Bb]⟩ ?_ AB ?_)
   · simp [go_sem, Am, Jo]
   rintro ⟨i, a⟩ m ⟨hi, hm, ha⟩
   dsimp only at hi ha ⊢
   refine AK ?_
   by_cases hlt : i < d.revs.length
   · obtain ⟨x, hx⟩ : ∃ x, d.revs[i] = x := ⟨_, rfl⟩
     have w1 := wS i (by omega)
     have e6 : n + 6 ≠ m := by omega
     have e1 : n + 3 ≠ m := by omega
     have hnext : Bb [] ((d.revs.take (i + 1)).map (·.id)) = Eh a x.id := by rw [JW hlt, hx, K1, CB, ← ha]; rfl
     have fin : ∀ b z y, ∀ j w, hb h n a0 a1 b j = some w → hset (hset (hset (hb h n a0 a1 a) m y) m z) (n + 3) (some (.map (EM b))) j = some w := fun b z y j w e => by
      have := P4 (h := h) (n := n) (fun j y e => hHb j y e) j w e
      rw [← hb3s (a2 := a)] at e
      simp only [hset] at e ⊢
      split at e
      · rename_i c; rw [if_pos c]; exact e
      · rename_i c; rw [if_neg c, if_neg (by omega), if_neg (by omega)]; exact e
     by_cases hm2 : x.id ∈ a
     · obtain ⟨j, f, hj⟩ := DA 0 hm2
       have hss := Ip hj
       simp only [HM] at hss
       rw [YV] at f
       simp [go_sem, hlt, hx, Av.enc, AC, AD, e6, e1, UX, Rq, f, CM, hss, w1, -Int.natCast_add]
       repeat first | refine nq ?_ | refine sq ?_ | refine aq ?_
       refine ⟨i + 1, by omega, a, ⟨by omega, by omega, ?_⟩, rfl, fin a _ _⟩
       rw [Zn] at hnext; rw [hnext, Eh, if_pos hm2]
     · have f := Dh 0 hm2
       have hpush := LJ a x.id
       simp [go_sem, hlt, hx, Av.enc, AC, AD, e6, e1, UX, Rq, f, CM, hpush, w1, -Int.natCast_add]
       repeat first | refine nq ?_ | refine sq ?_ | refine aq ?_
       refine ⟨i + 1, by omega, a ++ [x.id], ⟨by omega, by omega, ?_⟩, rfl, fin _ _ _⟩
       rw [Zn] at hnext; rw [hnext, Eh, if_neg hm2]
   · have : i = d.revs.length := by omega
     subst this
     rw [KE] at ha
     simp [go_sem, Jo]
     exact ⟨a, ⟨by omega, ha⟩, AB⟩
 refine AK ?_
 simp [go_sem]
 refine .inl ⟨⟨n + 6, n + 1, n + 2, n + 3, n + 4, n + 5, a0, a1, a2⟩, ⟨by simp, by simp; omega⟩, by omega, rfl, fun o y e => ?_, hm.2, UY hHb, fun o y e => ?_⟩
 · simp only [Ck.st, Ck.cells, EM] at e
   by_cases c6 : o = n + 6
   · subst c6; simp at e; rw [UX]; exact congrArg some e
   · by_cases c4 : o = n + 4
     · subst c4; simp at e; rw [hb4]; exact congrArg some e
     · by_cases c1 : o = n + 1
       · subst c1; simp at e; rw [UW]; exact congrArg some e
       · by_cases c2 : o = n + 2
         · subst c2; simp at e; rw [IK]; exact congrArg some e
         · by_cases c3 : o = n + 3
           · subst c3; simp at e; rw [Rq]; exact congrArg some e
           · by_cases c5 : o = n + 5
             · subst c5; simp at e; rw [hb5]; exact congrArg some e
             · rw [if_neg c6, if_neg c4, if_neg c1, if_neg c2, if_neg c3, if_neg c5] at e; cases e
 · simp only [Ck.st] at e
   by_cases c : n ≤ o
   · exact c
   · rw [if_neg (by omega), if_neg (by omega), if_neg (by omega), if_neg (by omega), if_neg (by omega), if_neg (by omega)] at e; cases e
def trK1 : Tr := .pure 0 <| .pure 1 <| .pure 3 <| .pure 4 <| .one 2 <| .one 5 <| .one 6 <| .one 7 <| .one 8 .nil
def Tc : Tr := .pure 0 <| .pure 1 <| .pure 2 <| .pure 4 <| .pure 5 <| .pure 6 <| .one 3 <| .one 7 <| .one 8 <| .one 9 <| .one 10 <| .one 11 <| .one 12 <| .one 13 <| .one 14 <| .one 15 <| .one 16 <| .one 17 <| .one 18 <| .one 19 <| .one 20 <| .one 21 .nil
structure GT (N : Nat) (d : AH) : Prop where
 flow : QA (Bb [] (d.revs.map (·.id))) N d.flow
 ids : ∀ i ∈ Jk N d.flow, 1 ≤ i ∧ i ≤ 1073741824
 nodup : (Jk N d.flow).Nodup
 revs : EI d.revs = 0
 «end» : DC (Bb [] (d.revs.map (·.id))) d.«end»
set_option maxHeartbeats 2000000 in
theorem t24 (d : AH) {B N : Nat} (hB : B ≤ 1048576) (hl : Ex AF.sized B N d.flow) (he : d.«end».sized) (h1 : d.settings.styles.length ≤ 1048576) (h2 : d.settings.lists.length ≤ 1048576) (h3 : d.revs.length ≤ 1048576) (h4 : ∀ r ∈ d.revs, r.author.size ≤ 1048576)
 (h83 : TC 83 [d.settings.enc] fun v => ∃ e, v = AA e) : TC 24 [d.enc] (Nc (GT N d)) := by
 intro h n
 refine Da Tryz.func24 rfl fun ho => ?_
 have hHb := ho.lt
 obtain ⟨X, hX⟩ : ∃ X : SV, X = .iptr ([AG d.flow] ++ d.«end».flat ++ [Aj d.revs] ++ d.settings.flat) := ⟨_, rfl⟩
 obtain ⟨T, hT⟩ : ∃ T : Prop, T = GT N d := ⟨_, rfl⟩
 rw [← hT]
 have no : ∀ (e : Int) (H2 : Hp) (m : Nat), e ≠ 0 → (∀ j y, h j = some y → H2 j = some y) → CE n H2 m (AA e) (fun v h' n' => Nc T v ∧ h' = h ∧ n' = n) := fun e H2 m he hh => GG ho hh (by simp [closed]) (Nc.no he)
 refine AZ 1 [(1, X)] h n ?_ (fun m hm => ?_)
 · rw [hX]
   simp [go_sem, AH.enc, AF.flat, AI.flat]
   exact ⟨AW (Ad hHb (JO _)) (AC _ _ _), AJ hHb AB⟩
 refine CD 0 [(1, X)] h (fun m => n ≤ m ∧ EI d.revs = 0) ?_ (fun m hm => ?_)
 · refine AV 0 (α := Int) (fun e => [(1, X), (3, AA e)]) (fun _ => h) (fun e m => n ≤ m ∧ (e = 0 → EI d.revs = 0)) (Bt trK1 rfl (by kernel_rfl) (by kernel_rfl) ?_) (fun e m hm => ?_)
   · have hHm : ∀ j y, h j = some y → j < m := fun j y e => by have := hHb j y e; omega
     rw [hX]
     simp [go_sem, trK1, AF.flat, AI.flat]
     refine TC.use (by simpa [AI.enc, AI.flat] using h83) ?_
     rintro v ⟨e, rfl⟩
     simp [go_sem]
     refine (c84 d.revs h3 h4).use ?_
     simp [go_sem]
     refine ZQ (bs := [.imm 1 ([e, EI d.revs].map AA) false]) (h2 := h) 1 (AJ hHm AB) ⟨?_, trivial⟩ ?_
     · exact DN (es := [AA e, AA (EI d.revs)]) (Ad hHm (JO _)) (by simp) (by rw [AC]; simp [SV.cells]) (by simp [SV.storable, SV.cells])
     refine (Oz _ (by simp)).use ?_
     generalize hf : CH [e, EI d.revs] = ef
     simp [go_sem, Jo]
     refine ⟨ef, ⟨by omega, fun h0 => ?_⟩, Jo⟩
     rw [h0, CH] at hf
     split at hf
     · exact C1 hf
     · rename_i c; exact absurd hf c
   by_cases e0 : e = 0
   case neg => exact AK (by simp [go_sem, e0]; exact no e _ _ e0 AB)
   have hrv := hm.2 e0
   rw [e0]
   exact AK (by simp [go_sem, Jo, hm.1, hrv])
 obtain ⟨hm, hrv⟩ := hm
 refine BO 0 (α := Ck) (fun q => [(1, X), (4, .ptr q.p 0)]) (fun q => As q.st ([], 0) h) (fun q m => n ≤ m ∧ q.ok m ∧ q.m2 = Bb [] (d.revs.map (·.id)) ∧ ∀ o y, q.st ([], 0) o = some y → n ≤ o) ?_ (fun K n1 hq => ?_)
 · rw [hX]
   simp [go_sem, AF.flat, AI.flat]
   refine Y9 (by simpa [AH.enc, AF.flat, AI.flat] using d85 d h1 h2 h3 (h := h) (n := m)) ?_
   rintro v H' n' ⟨K, a1, a2, rfl, a4, a5, a6, a7⟩
   simp [go_sem, Jo]
   refine ⟨K, ⟨by omega, a1, a5, fun o y e => by have := a7 o y e; omega⟩, Jo, fun o y e => ?_⟩
   simp only [As] at e
   cases c : K.st ([], 0) o with
   | some z => rw [c] at e; cases e; exact a4 o y c
   | none => rw [c] at e; exact a6 o y e
 obtain ⟨hn1, hK, hm2, hlo⟩ := hq
 have D := hK.clo
 have hlos : ∀ s' o y, K.st s' o = some y → n ≤ o := fun s' o y e => by
  cases c : K.st ([], 0) o with
  | some z => exact hlo o z c
  | none => rw [D.dom ([], 0) s' o c] at e; cases e
 have BV : ∀ s', ∀ j y, h j = some y → As K.st s' h j = some y := fun s' j y e => by
  simp only [As]
  cases c : K.st s' j with
  | some z => have := hlos s' j z c; have := hHb j y e; omega
  | none => exact e
 have hUb : ∀ s' j y, As K.st s' h j = some y → j < n1 := fun s' j y e => (D.old s' (JO _) (fun j y e => ⟨by have := hHb j y e; omega, I0 hn1 (ho j y e).2⟩) j y e).1
 have hps : ∀ s', As K.st s' h K.p = some (.cells [.map K.s0, .map K.s1, .map K.s2, .map K.s3, .map K.s4, AA s'.2]) := fun s' => (hK.has (s := s') Bu).p
 refine AZ 1 [(1, X), (4, .ptr K.p 0), (5, .iptr [AA d.«end».ins, AA d.«end».move, Aa d.«end».dels, AO d.«end».layers])] (As K.st ([], 0) h) n1 ?_ (fun m hm => ?_)
 · rw [hX]
   simp [go_sem, Jo, AF.flat, AI.flat, AC]
   exact ⟨AW (Ad (hUb _) (JO _)) (AC _ _ _), AJ (hUb _) (AJ (hUb _) AB)⟩
 refine CD 0 [(1, X), (4, .ptr K.p 0)] (As K.st ([], 0) h) (fun m => n1 ≤ m ∧ DC K.m2 d.«end») ?_ (fun m hm => ?_)
 · have hd := d86 hK ([], 0) 3 d.«end» he (H := As K.st ([], 0) h) (n := m) hm Bu
   refine AV 0 (α := Int × FV) (fun q => [(1, X), (4, .ptr K.p 0), (6, AA q.1)]) (fun q => As K.st q.2 h) (fun q m => n1 ≤ m ∧ (q.1 = 0 → q.2 = ([], 0) ∧ DC K.m2 d.«end»)) (Bt Tc rfl (by kernel_rfl) (by kernel_rfl) ?_) (fun q m hm => ?_)
   · rw [hX]
     have fin : ∀ (e ea : Int) (s2 : FV) (m1 : Nat) (KK : SV → Hp → Nat → Prop), n1 ≤ m1 → KK (AA (CH [e, ea])) (As K.st s2 h) (m1 + 1) → Ak (By.plain.call false 0) Tryz.prog 82 [.sl m1 0 1 2 true] (hset (As K.st s2 h) m1 (some (.cells [AA e, AA ea]))) (m1 + 1) KK := fun e ea s2 m1 KK hm1 hk => by
      refine ZQ (bs := [.imm 1 ([e, ea].map AA) false]) (h2 := As K.st s2 h) 1 (AJ (fun j z e => by have := hUb s2 j z e; omega) AB) ⟨?_, trivial⟩ ?_
      · exact DN (es := [AA e, AA ea]) (Ad (hUb s2) hm1) (by simp) (by rw [AC]; simp [SV.cells]) (by simp [SV.storable, SV.cells])
      exact (Oz _ (by simp)).use hk
     have hd' : ∀ KK : SV → Hp → Nat → Prop, (∀ e s2, (e = 0 → s2 = ([], 0) ∧ DC K.m2 d.«end») → KK (AA e) (As K.st s2 h) m) → Ak (By.plain.call false 0) Tryz.prog 86 [.ptr K.p 0, AA 3, .agg [Ag d.«end».props, AA d.«end».ins, AA d.«end».move, Aa d.«end».dels, AO d.«end».layers]] (As K.st ([], 0) h) m KK := fun KK hk => by
      refine Y9 (by simpa [AF.enc, AF.flat] using hd) ?_
      rintro v H' n' ⟨e, s2, rfl, hT2, rfl, rfl⟩
      rw [D.up2]
      exact hk e s2 hT2
     clear hd
     generalize hin : d.«end».ins = ins at hd' ⊢
     generalize hmv : d.«end».move = mv at hd' ⊢
     by_cases i0 : ins = 0
     · subst i0
       by_cases m0 : mv = 0
       · subst m0
         simp [go_sem, Tc, AF.flat, hin, hmv]
         refine hd' _ fun e s2 hT2 => ?_
         simp [go_sem]
         refine (Iy _ _).use ?_
         simp [go_sem]
         refine fin _ _ _ _ _ hm ?_
         generalize hf : CH [e, _] = ef
         simp [go_sem, Jo]
         exact ⟨ef, s2.1, s2.2, ⟨by omega, fun h0 => by have := hT2 (C1 (by rw [hf]; exact h0)); rw [this.1]; exact ⟨⟨rfl, rfl⟩, this.2⟩⟩, Jo, AB⟩
       · simp [go_sem, Tc, AF.flat, hin, hmv]
         refine hd' _ fun e s2 hT2 => ?_
         simp [go_sem, m0]
         refine (Iy _ _).use ?_
         simp [go_sem]
         refine fin _ _ _ _ _ hm ?_
         generalize hf : CH [e, _] = ef
         simp [go_sem, Jo]
         exact ⟨ef, s2.1, s2.2, ⟨by omega, fun h0 => by have := hT2 (C1 (by rw [hf]; exact h0)); rw [this.1]; exact ⟨⟨rfl, rfl⟩, this.2⟩⟩, Jo, AB⟩
     · simp [go_sem, Tc, AF.flat, hin, hmv]
       refine hd' _ fun e s2 hT2 => ?_
       simp [go_sem, i0]
       refine (Iy _ _).use ?_
       simp [go_sem]
       refine fin _ _ _ _ _ hm ?_
       generalize hf : CH [e, _] = ef
       simp [go_sem, Jo]
       exact ⟨ef, s2.1, s2.2, ⟨by omega, fun h0 => by have := hT2 (C1 (by rw [hf]; exact h0)); rw [this.1]; exact ⟨⟨rfl, rfl⟩, this.2⟩⟩, Jo, AB⟩
   obtain ⟨e8, s8⟩ := q
   dsimp only at hm ⊢
   by_cases e80 : e8 = 0
   case neg => exact AK (by simp [go_sem, e80]; exact no e8 _ _ e80 (BV _))
   obtain ⟨h81, hhd⟩ := hm.2 e80
   rw [e80, h81]
   exact AK (by simp [go_sem, Jo, hm.1, hhd])
 obtain ⟨hm, hhd⟩ := hm
 refine AV 0 (α := FV) (fun _ => [(4, .ptr K.p 0)]) (fun q => As K.st q h) (fun q m => n1 ≤ m ∧ more ([], 0) q (Jk N d.flow) ∧ QA K.m2 N d.flow) (AK ?_) (fun q m hm => ?_)
 · rw [hX]
   simp [go_sem, AF.flat, AI.flat]
   refine Y9 (by simpa [Bv.enc] using PA hK hB N d.flow hl ([], 0) ⟨true, false, 0⟩ (As K.st ([], 0) h) m hm Bu) ?_
   rintro v H' n' ⟨e, s2, rfl, hT2, rfl, rfl⟩
   rw [D.up2]
   by_cases e0 : e = 0
   · obtain ⟨b1, b2⟩ := hT2 e0
     simp [go_sem, e0, Jo]
     exact ⟨s2.1, s2.2, ⟨hm, b1, b2⟩, AB⟩
   · simp [go_sem, e0]
     exact no e _ _ e0 (BV _)
 refine AK ?_
 simp [go_sem, hps]
 refine (Iy _ _).use ?_
 simp [go_sem]
 refine GG ho (BV _) (by simp [closed]) (Nc.ok ?_)
 rw [hT]
 rw [hm2] at hm hhd
 exact ⟨hm.2.2, hm.2.1.2.1, by have := hm.2.1.2.2 List.nodup_nil; rw [hm.2.1.1] at this; simpa using this, hrv, hhd⟩
end Go.Proofs.YtgakninlhfkkmaaGreat.Sh
