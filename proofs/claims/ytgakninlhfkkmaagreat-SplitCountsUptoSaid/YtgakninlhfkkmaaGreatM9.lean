/- A part of the proof (part 9 of 13). -/
import Derived.Test.YtgakninlhfkkmaaGreatM8
namespace Go.Proofs.YtgakninlhfkkmaaGreat.Sh
open Proofs
set_option maxRecDepth 10000
mutual
theorem closed_mono {n m : Nat} (h : n ≤ m) : ∀ v : SV, closed n v = true → closed m v = true
  | .agg cs, e => by rw [closed] at *; exact closedL_mono h cs e
  | .tup cs, e => by rw [closed] at *; exact closedL_mono h cs e
  | .fn _ a b, e => by rw [closed, Bool.and_eq_true] at *; exact ⟨closedL_mono h a e.1, closedL_mono h b e.2⟩
  | .ptr o _, e => by simp only [closed, decide_eq_true_eq] at *; omega
  | .iptr cs, e => by rw [closed] at *; exact closedL_mono h cs e
  | .sl o _ _ _ _, e => by simp only [closed, decide_eq_true_eq] at *; omega
  | .imm _ es _, e => by rw [closed] at *; exact closedL_mono h es e
  | .map o, e => by simp only [closed, decide_eq_true_eq] at *; omega
  | .int _ _, _ | .bool _, _ | .str _, _ | .junk, _ | .nilp, _ | .nilf, _ | .nilm, _ => by simp [closed]
theorem closedL_mono {n m : Nat} (h : n ≤ m) : ∀ l : List SV, closedL n l = true → closedL m l = true
  | [], _ => by rw [closedL]
  | s :: l, e => by rw [closedL, Bool.and_eq_true] at *; exact ⟨closed_mono h s e.1, closedL_mono h l e.2⟩
end
theorem closedO_mono {n m : Nat} (h : n ≤ m) {y : SObj} (hc : closedO n y = true) : closedO m y = true := by
  cases y with
  | cells cs ty => exact closedL_mono h _ hc
  | map es =>
    simp only [closedO, List.all_eq_true, Bool.and_eq_true] at hc ⊢
    exact fun p hp => ⟨closed_mono h _ (hc p hp).1, closed_mono h _ (hc p hp).2⟩
  | loop l => rfl
  | iter l r =>
    simp only [closedO, List.all_eq_true, Bool.and_eq_true, Option.all_eq_true] at hc ⊢
    exact ⟨fun p hp => ⟨closed_mono h _ (hc.1 p hp).1, closed_mono h _ (hc.1 p hp).2⟩, fun p hp => ⟨closed_mono h _ (hc.2 p hp).1, closed_mono h _ (hc.2 p hp).2⟩⟩
section
variable {σ : Type}
def upS (st : σ → Nat → Option SObj) (s : σ) (H : Hp) : Hp := fun o => match st s o with | some y => some y | none => H o
structure Clo (st : σ → Nat → Option SObj) (n0 : Nat) (g : FuncId) (a b : List SV) (f : σ → SPart → Head × Bool × σ) (ok : Head → Prop) : Prop where
  lt : ∀ s o, n0 ≤ o → st s o = none
  dom : ∀ s s' o, st s o = none → st s' o = none
  cl : ∀ s o y, st s o = some y → closedO n0 y = true
  call : ∀ s p H n, ok p.head → n0 ≤ n → (∀ o y, st s o = some y → H o = some y) → SCall Tryz.prog g (a ++ [p.enc] ++ b) H n (fun v h' n' => v = .tup [(f s p).1.enc, .bool (f s p).2.1] ∧ h' = upS st (f s p).2.2 H ∧ n' = n)
variable {st : σ → Nat → Option SObj} {n0 : Nat} {g : FuncId} {a b : List SV} {f : σ → SPart → Head × Bool × σ} {ok : Head → Prop}
theorem Clo.ne (C : Clo st n0 g a b f ok) (s : σ) (H : Hp) {o : Nat} (h : n0 ≤ o) : upS st s H o = H o := by simp [upS, C.lt s o h]
theorem Clo.up2 (C : Clo st n0 g a b f ok) (s s' : σ) (H : Hp) : upS st s' (upS st s H) = upS st s' H := by
  funext o
  simp only [upS]
  cases h : st s' o with
  | some y => rfl
  | none => simp [C.dom s' s o h]
theorem Clo.hset (C : Clo st n0 g a b f ok) (s : σ) (H : Hp) {o : Nat} (h : n0 ≤ o) (y : Option SObj) : hset (upS st s H) o y = upS st s (hset H o y) := by
  funext j
  simp only [upS, Sh.hset]
  split
  · subst_vars; rw [C.lt s _ h]
  · rfl
theorem upS_self (s : σ) (H : Hp) (h : ∀ o y, st s o = some y → H o = some y) : upS st s H = H := by
  funext o
  simp only [upS]
  cases e : st s o with
  | some y => rw [h o y e]
  | none => rfl
theorem Clo.old (C : Clo st n0 g a b f ok) (s : σ) {H : Hp} {n : Nat} (hn : n0 ≤ n) (ho : Old H n) : Old (upS st s H) n := fun o y e => by
  simp only [upS] at e
  cases e1 : st s o with
  | some z =>
    rw [e1] at e; cases e
    refine ⟨?_, closedO_mono hn (C.cl s o y e1)⟩
    by_cases h : n0 ≤ o
    · rw [C.lt s o h] at e1; cases e1
    · omega
  | none => rw [e1] at e; exact ho o y e
theorem Clo.acc (C : Clo st n0 g a b f ok) {n m z : Nat} {o : Option Nat} {es : List SV} (hn : n0 ≤ n) (hA : AccI n m z o es) (s' : σ) (H : Hp) : upS st s' (AccH o es H) = AccH o es (upS st s' H) := by
  cases o with
  | none => rfl
  | some j => have := (hA.lt j rfl).1; simp only [AccH]; rw [C.hset s' H (by omega)]
theorem Clo.has (C : Clo st n0 g a b f ok) {n m z : Nat} {o : Option Nat} {es : List SV} (hn : n0 ≤ n) (hA : AccI n m z o es) {s : σ} {H : Hp} (h : ∀ k y, st s k = some y → H k = some y) : ∀ k y, st s k = some y → AccH o es H k = some y := fun k y e => by
  cases o with
  | none => exact h k y e
  | some j =>
    have := (hA.lt j rfl).1
    simp only [AccH]
    rw [hset_ne _ _ ?_]
    · exact h k y e
    · rintro rfl; rw [C.lt s k (by omega)] at e; cases e
theorem has_up {s : σ} {H : Hp} : ∀ k y, st s k = some y → upS st s H k = some y := fun k y e => by simp [upS, e]
theorem acc_lt {n m z : Nat} {o : Option Nat} {es : List SV} {h : Hp} (hb : ∀ j y, h j = some y → j < n) (hnm : n ≤ m) (hA : AccI n m z o es) : ∀ j y, AccH o es h j = some y → j < m := fun j y e => by
  cases o with
  | none => have := hb j y e; omega
  | some k =>
    have := (hA.lt k rfl).2
    simp only [AccH, hset] at e
    split at e
    · omega
    · have := hb j y e; omega
theorem lt_none {h : Hp} {m : Nat} (hb : ∀ j y, h j = some y → j < m) {k : Nat} (hk : m ≤ k) : h k = none := by
  cases e : h k with
  | none => rfl
  | some y => have := hb k y e; omega
theorem AccV.fz' {h : Hp} {n m z k : Nat} {o : Option Nat} {es : List SV} (hn : ∀ j, n ≤ j → h j = none) (H : AccI n m z o es) {h' : Hp} (hh : ∀ j y, AccH o es h j = some y → h' j = some y) : Fz h' h (k + 1) (AccV z o es) (.imm z es false) := by
  cases o with
  | none => rw [H.none rfl]; exact .inr ⟨by simp, .inl rfl, trivial, by simp⟩
  | some j =>
    have hj := hh j (.cells (es.flatMap SV.cells)) (by simp [AccH, hset])
    refine .inr ⟨hn j (H.lt j rfl).1, by simp, rfl, rfl, _, _, hj, by simp [takeN, flat_len H.size]; rfl, H.size, ?_⟩
    have : ∀ l : List SV, All2 (Fz h' h k) l l := by
      intro l; induction l with
      | nil => trivial
      | cons a l ih => exact ⟨Fz.same, ih⟩
    simp only [← flat_len H.size, List.take_length]
    exact this _
theorem acc_old {h : Hp} {n m z : Nat} {o : Option Nat} {es : List SV} (hb : ∀ j y, h j = some y → j < n) (H : AccI n m z o es) : ∀ j x, h j = some x → AccH o es h j = some x := fun j x e => by
  cases o with
  | none => exact e
  | some k =>
    have h1 := (H.lt k rfl).1
    have h2 := hb j x e
    simp only [AccH]; rw [hset_ne _ _ (by omega)]; exact e
theorem acc_live' {h H : Hp} {n m p z : Nat} {es : List SV} {e : SV} {o : Option Nat} {v : SV} (hb : ∀ j y, h j = some y → j < n) (hn : n ≤ p) (hA : AccI n m z o es) (hH : ∀ j y, h j = some y → H j = some y) :
    ∀ j y, AccH (some p) (es ++ [e]) h j = some y → (Out.app H p { val := v, upd := o.map fun j => (j, none), new := some (.cells (es.flatMap SV.cells ++ e.cells)) }) j = some y := by
  intro j y hj
  simp only [AccH] at hj
  by_cases e1 : j = p
  · subst e1
    rw [hset_at] at hj
    simp only [Out.app, hset_at]
    rw [← hj]; simp
  · rw [hset_ne _ _ e1] at hj
    have hlt := hb j y hj
    have := hH j y hj
    cases o with
    | none => simp [Out.app, hset_ne _ _ e1, this]
    | some k =>
      have hk : j ≠ k := by have := (hA.lt k rfl).1; omega
      simp [Out.app, hset_ne _ _ e1, hset_ne _ _ hk, this]
theorem ret_accU {h : Hp} {n n' m z : Nat} {o : Option Nat} {es : List SV} (ho : Old h n) (H : AccI n m z o es) (hc : ∀ e ∈ es, closed n e = true) : RetS n (AccH o es h) n' (AccV z o es) (fun v h' n' => v = .imm z es false ∧ h' = h ∧ n' = n) :=
  .inr ⟨1, .imm z es false, h, AccV.fz ho H look_same, by rw [closed]; exact closedL_iff.2 hc, fun j x e => ⟨AccH.old ho H j x e, ho j x e⟩, rfl, rfl, rfl⟩
theorem set_keep {h h' : Hp} {m : Nat} {y : Option SObj} (hb : ∀ j z, h j = some z → j < m) (hh : ∀ j z, h j = some z → h' j = some z) : ∀ j z, h j = some z → hset h' m y j = some z := fun j z e => by
  rw [hset_ne _ _ (by have := hb j z e; omega)]; exact hh j z e
def trR : Tr := .pure 0 <| .pure 1 <| .pure 2 <| .pure 3 <| .pure 4 <| .pure 5 <| .pure 6 <| .pure 7 <| .pure 8 <| .pure 9 <| .pure 10 <| .one 11 <| .one 12 <| .one 13 <| .one 14 <| .one 15 .nil
variable {it : Int → List Item → Bool → σ → List Item × σ} {mid : Bool} {P : List Item → Prop} {sc : Scope}
def ItC (st : σ → Nat → Option SObj) (n0 : Nat) (g : FuncId) (a b : List SV) (it : Int → List Item → Bool → σ → List Item × σ) (sc : Scope) (P : List Item → Prop) : Prop :=
  ∀ id l mid s H n, P l → n0 ≤ n → (∀ o y, st s o = some y → H o = some y) → SCall Tryz.prog 121 [.fn (.func g) a b, intE id, itemsE l, sc.enc, .bool mid] H n (fun v h' n' => v = itemsE (it id l mid s).1 ∧ h' = upS st (it id l mid s).2 H ∧ n' = n)
set_option maxHeartbeats 2000000 in
theorem d257 (C : Clo st n0 g a b f ok) (hit : ItC st n0 g a b it sc P) (l : List Row) (hl : l.length ≤ 1048576) (hr : ∀ r ∈ l, ok r.head ∧ r.cells.length ≤ 1048576 ∧ ∀ c ∈ r.cells, ok c.head ∧ P c.flow) (s : σ) {H : Hp} {n : Nat} (hn : n0 ≤ n) (hs : ∀ o y, st s o = some y → H o = some y) :
    SCall Tryz.prog 257 [.fn (.func g) a b, rowsE l, sc.enc, .bool mid] H n (fun v h' n' => v = rowsE (rowsG f it mid l s).1 ∧ h' = upS st (rowsG f it mid l s).2 H ∧ n' = n) := by
  refine goS Tryz.func257 rfl (by kernel_rfl) (by kernel_rfl) (by simp [go_sem]) fun ho => ?_
  obtain ⟨R, hR⟩ : ∃ R : Nat → List Row × σ, ∀ i, R i = (l.take i).foldl (rowStep f it mid) ([], s) := ⟨_, fun _ => rfl⟩
  have hR0 : R 0 = ([], s) := by rw [hR]; rfl
  have hRs : ∀ i x, (h : i < l.length) → l[i] = x → R (i + 1) = rowStep f it mid (R i) x := fun i x h hx => by rw [hR, hR, foldl_take _ _ _ _ _ h hx]
  have hRl : R l.length = rowsG f it mid l s := by rw [hR, List.take_length]; rfl
  have hRn : ∀ i, (R i).1.length ≤ i := fun i => by rw [hR]; have := rowsG_len (f := f) (it := it) (mid := mid) (l.take i) ([], s); simp at this; omega
  clear hR
  have hU : ∀ s', Old (upS st s' H) n := fun s' => C.old s' hn ho
  have hUb : ∀ s' j y, upS st s' H j = some y → j < n := fun s' j y e => (hU s' j y e).1
  refine SP_mid 1 (α := Unit) (fun _ => [(0, .fn (.func g) a b), (1, rowsE l), (3, .bool mid), (6, .iptr [intE sc.id, intE sc.a, intE sc.b])]) (fun _ => upS st s H) (fun _ m => n ≤ m) ?_ (fun _ m hm => ?_)
  · simp [go_sem, Scope.enc, Fz.same, upS_self s H hs]
    refine ⟨ptr_fz (ho.none (Nat.le_refl n)) (by simp [hset]), fun j y e => by rw [hset_ne _ _ (by have := (ho j y e).1; omega)]; exact e⟩
  refine SP_mid 0 (α := Unit) (fun _ => [(0, .fn (.func g) a b), (1, rowsE l), (3, .bool mid), (6, .iptr [intE sc.id, intE sc.a, intE sc.b]), (9, .imm 0 [] true)]) (fun _ => upS st s H) (fun _ m => n ≤ m) ?_ (fun _ m hm => ?_)
  · simp [go_sem, Fz.same, hm]
  refine SP_midS 0 (α := Option Nat) (fun o => [(9, AccV 6 o ((R l.length).1.map Row.enc))]) (fun o => AccH o ((R l.length).1.map Row.enc) (upS st (R l.length).2 H)) (fun o m => n ≤ m ∧ AccI n m 6 o ((R l.length).1.map Row.enc)) ?_ (fun o m hm => ?_)
  · refine SP_mid 0 (α := Unit) (fun _ => [(0, .fn (.func g) a b), (3, .bool mid), (6, .iptr [intE sc.id, intE sc.a, intE sc.b]), (9, .imm 0 [] true), (19, rowsE l), (20, intE l.length), (21, intE 0)]) (fun _ => upS st s H) (fun _ m => n ≤ m) ?_ (fun _ m hm => ?_)
    · simp [go_sem, Fz.same, hm]
    refine SP_block (goloopS 0 (α := Nat × Option Nat) (fun q => [(0, .fn (.func g) a b), (3, .bool mid), (6, .iptr [intE sc.id, intE sc.a, intE sc.b]), (9, AccV 6 q.2 ((R q.1).1.map Row.enc)), (19, rowsE l), (20, intE l.length), (21, intE q.1)])
      (fun q => AccH q.2 ((R q.1).1.map Row.enc) (upS st (R q.1).2 H)) (fun q m => q.1 ≤ l.length ∧ n ≤ m ∧ AccI n m 6 q.2 ((R q.1).1.map Row.enc)) (fun q => l.length - q.1) (0, none) ⟨Nat.zero_le _, hm, by simp only [hR0]; exact AccI.nil _ _ _⟩ ?_ ?_ ?_)
    · simp [go_sem, look, AccV, Fz.same]
    · simp only [hR0]; exact look_same
    clear hm m
    rintro ⟨i, o⟩ m ⟨hi, hnm, hA⟩
    dsimp only at hi hA ⊢
    have hEn : ((R i).1.map Row.enc).length ≤ i := by rw [List.length_map]; exact hRn i
    by_cases hlt : i < l.length
    · obtain ⟨x, hx⟩ : ∃ x, l[i] = x := ⟨_, rfl⟩
      have hxm : x ∈ l := by rw [← hx]; exact List.getElem_mem hlt
      obtain ⟨x1, x2, x3⟩ := hr x hxm
      have hgx : (l.map Row.enc)[i]? = some x.enc := by simp [hlt, hx]
      have hst := hRs i x hlt hx
      have w1 : IntKind.i64.wrap ((i : Int) + 1) = ((i + 1 : Nat) : Int) := by rw [wr64] <;> omega
      generalize hSi : (R i).2 = si at hst
      generalize hEi : (R i).1.map Row.enc = E at hA hEn ⊢
      have hXb : ∀ s' j y, AccH o E (upS st s' H) j = some y → j < m := fun s' => acc_lt (hUb s') hnm hA
      refine SP_mid 0 (α := Unit) (fun _ => [(0, .fn (.func g) a b), (3, .bool mid), (6, .iptr [intE sc.id, intE sc.a, intE sc.b]), (9, AccV 6 o E), (19, rowsE l), (20, intE l.length), (21, intE i), (22, .bool true)]) (fun _ => AccH o E (upS st si H)) (fun _ m' => m = m') ?_ (fun _ m' hm' => ?_)
      · simp [go_sem, Fz.same, hlt]
      subst hm'
      refine SP_mid 0 (α := Unit) (fun _ => [(0, .fn (.func g) a b), (3, .bool mid), (6, .iptr [intE sc.id, intE sc.a, intE sc.b]), (9, AccV 6 o E), (19, rowsE l), (20, intE l.length), (21, intE i)]) (fun _ => AccH o E (upS st si H)) (fun _ m2 => m = m2) ?_ (fun _ m2 hm2 => ?_)
      · simp [go_sem, Fz.same]
      subst hm2
      refine SP_midS 0 (α := Option Nat) (fun o => [(0, .fn (.func g) a b), (3, .bool mid), (6, .iptr [intE sc.id, intE sc.a, intE sc.b]), (9, AccV 6 o ((R (i + 1)).1.map Row.enc)), (19, rowsE l), (20, intE l.length), (21, intE i)]) (fun o => AccH o ((R (i + 1)).1.map Row.enc) (upS st (R (i + 1)).2 H)) (fun o m => n ≤ m ∧ AccI n m 6 o ((R (i + 1)).1.map Row.enc)) ?_ (fun o m hm => ?_)
      · refine SP_block ?_
        refine SP_mid 1 (α := Unit) (fun _ => [(0, .fn (.func g) a b), (3, .bool mid), (6, .iptr [intE sc.id, intE sc.a, intE sc.b]), (9, AccV 6 o E), (19, rowsE l), (20, intE l.length), (21, intE i), (11, .iptr (x.head.flat ++ [cellsE x.cells]))]) (fun _ => AccH o E (upS st si H)) (fun _ m2 => m ≤ m2) ?_ (fun _ m2 hm2 => ?_)
        · simp [go_sem, Fz.same, hlt, hx, Row.enc_eq, Head.flat, hset_at]
          refine ⟨ptr_fz (lt_none (hXb _) (Nat.le_refl m)) (hset_at _ _ _), set_keep (hXb _) (set_keep (hXb _) look_same)⟩
        have hXb2 : ∀ s' j y, AccH o E (upS st s' H) j = some y → j < m2 := fun s' j y e => by have := hXb s' j y e; omega
        obtain ⟨p, hp⟩ : ∃ p : SPart, p = ⟨x.head, mid, 1⟩ := ⟨_, rfl⟩
        have hcall := C.call si p (AccH o E (upS st si H)) m2 (by rw [hp]; exact x1) (by omega) (C.has hn hA has_up)
        have hst' : R (i + 1) = if (f si p).2.1 then ((R i).1 ++ [.mk (f si p).1 (cellsG f it mid x.cells (f si p).2.2).1], (cellsG f it mid x.cells (f si p).2.2).2) else ((R i).1, (f si p).2.2) := by rw [hst, hp, rowStep, hSi]
        rw [C.acc hn hA, C.up2] at hcall
        have hpe : p.enc = .agg (x.head.flat ++ [.bool mid, intE 1]) := by rw [hp]; rfl
        clear hst hSi
        rcases hf : f si p with ⟨h', k, s1⟩
        rw [hf] at hcall hst'
        dsimp only at hcall hst'
        refine SP_mid 1 (α := Unit) (fun _ => [(0, .fn (.func g) a b), (3, .bool mid), (6, .iptr [intE sc.id, intE sc.a, intE sc.b]), (9, AccV 6 o E), (19, rowsE l), (20, intE l.length), (21, intE i), (11, .iptr (x.head.flat ++ [cellsE x.cells])), (12, .iptr h'.flat), (13, .bool k)]) (fun _ => AccH o E (upS st s1 H)) (fun _ m3 => m2 ≤ m3) ?_ (fun _ m3 hm3 => ?_)
        · rw [hpe] at hcall
          simp only [Head.flat, List.cons_append, List.nil_append, List.append_assoc] at hcall
          simp [go_sem, Head.flat]
          refine SC.use hcall ?_
          rintro v H' n' ⟨rfl, rfl, rfl⟩
          simp [go_sem, Fz.same, Head.enc, Head.flat, hset_at]
          exact ⟨ptr_fz (lt_none (hXb2 _) (Nat.le_refl _)) (hset_at _ _ _), set_keep (hXb2 _) (set_keep (hXb2 _) look_same)⟩
        cases k with
        | false =>
          have hst2 : R (i + 1) = ((R i).1, s1) := by simpa using hst'
          simp only [hst2, hEi]
          refine SP_of ?_
          simp [go_sem, Fz.same]
          exact ⟨o, ⟨by omega, hA.mono (by omega)⟩, rfl, look_same⟩
        | true =>
          have hst2 : R (i + 1) = ((R i).1 ++ [.mk h' (cellsG f it mid x.cells s1).1], (cellsG f it mid x.cells s1).2) := by simpa using hst'
          simp only [hst2, List.map_append, hEi, List.map_cons, List.map_nil]
          clear hst' hst2 hcall hpe hf
          refine SP_mid 0 (α := Unit) (fun _ => [(0, .fn (.func g) a b), (3, .bool mid), (6, .iptr [intE sc.id, intE sc.a, intE sc.b]), (9, AccV 6 o E), (19, rowsE l), (20, intE l.length), (21, intE i), (11, .iptr (x.head.flat ++ [cellsE x.cells])), (12, .iptr h'.flat)]) (fun _ => AccH o E (upS st s1 H)) (fun _ m4 => m3 = m4) ?_ (fun _ m4 hm4 => ?_)
          · simp [go_sem, Fz.same]
          subst hm4
          refine SP_mid 0 (α := Unit) (fun _ => [(0, .fn (.func g) a b), (3, .bool mid), (6, .iptr [intE sc.id, intE sc.a, intE sc.b]), (9, AccV 6 o E), (19, rowsE l), (20, intE l.length), (21, intE i), (11, .iptr (x.head.flat ++ [cellsE x.cells])), (12, .iptr h'.flat), (14, .imm 0 [] true)]) (fun _ => AccH o E (upS st s1 H)) (fun _ m4 => m3 = m4) ?_ (fun _ m4 hm4 => ?_)
          · simp [go_sem, Fz.same]
          subst hm4
          refine SP_midS 1 (α := Unit) (fun _ => [(0, .fn (.func g) a b), (3, .bool mid), (6, .iptr [intE sc.id, intE sc.a, intE sc.b]), (9, AccV 6 o E), (19, rowsE l), (20, intE l.length), (21, intE i), (12, .iptr h'.flat), (14, cellsE (cellsG f it mid x.cells s1).1)]) (fun _ => AccH o E (upS st (cellsG f it mid x.cells s1).2 H)) (fun _ m4 => m3 ≤ m4) ?_ (fun _ m4 hm4 => ?_)
          · refine SP_mid 0 (α := Unit) (fun _ => [(0, .fn (.func g) a b), (3, .bool mid), (6, .iptr [intE sc.id, intE sc.a, intE sc.b]), (9, AccV 6 o E), (19, rowsE l), (20, intE l.length), (21, intE i), (12, .iptr h'.flat), (14, .imm 0 [] true), (37, cellsE x.cells), (38, intE x.cells.length), (39, intE 0)]) (fun _ => AccH o E (upS st s1 H)) (fun _ m4 => m3 = m4) ?_ (fun _ m4 hm4 => ?_)
            · simp [go_sem, Fz.same, Head.flat]
            subst hm4
            obtain ⟨Q, hQ⟩ : ∃ Q : Nat → List Cell × σ, ∀ i, Q i = (x.cells.take i).foldl (cellStep f it mid) ([], s1) := ⟨_, fun _ => rfl⟩
            have hQ0 : Q 0 = ([], s1) := by rw [hQ]; rfl
            have hQs : ∀ i y, (h : i < x.cells.length) → x.cells[i] = y → Q (i + 1) = cellStep f it mid (Q i) y := fun i y h hy => by rw [hQ, hQ, foldl_take _ _ _ _ _ h hy]
            have hQl : Q x.cells.length = cellsG f it mid x.cells s1 := by rw [hQ, List.take_length]; rfl
            have hQn : ∀ i, (Q i).1.length ≤ i := fun i => by rw [hQ]; have := cellsG_len (f := f) (it := it) (mid := mid) (x.cells.take i) ([], s1); simp at this; omega
            clear hQ
            have hBb : ∀ s' j y, AccH o E (upS st s' H) j = some y → j < m3 := fun s' j y e => by have := hXb s' j y e; omega
            refine SP_block (goloopS 0 (α := Nat × Option Nat) (fun q => [(0, .fn (.func g) a b), (3, .bool mid), (6, .iptr [intE sc.id, intE sc.a, intE sc.b]), (9, AccV 6 o E), (19, rowsE l), (20, intE l.length), (21, intE i), (12, .iptr h'.flat), (14, AccV 7 q.2 ((Q q.1).1.map Cell.enc)), (37, cellsE x.cells), (38, intE x.cells.length), (39, intE q.1)])
              (fun q => AccH q.2 ((Q q.1).1.map Cell.enc) (AccH o E (upS st (Q q.1).2 H))) (fun q m => q.1 ≤ x.cells.length ∧ m3 ≤ m ∧ AccI m3 m 7 q.2 ((Q q.1).1.map Cell.enc)) (fun q => x.cells.length - q.1) (0, none) ⟨Nat.zero_le _, Nat.le_refl _, by simp only [hQ0]; exact AccI.nil _ _ _⟩ ?_ ?_ ?_)
            · simp [go_sem, look, AccV, Fz.same]
            · simp only [hQ0]; exact look_same
            rintro ⟨j, o2⟩ m4 ⟨hj, hm4, hA2⟩
            dsimp only at hj hA2 ⊢
            have hCn : ((Q j).1.map Cell.enc).length ≤ j := by rw [List.length_map]; exact hQn j
            by_cases hjt : j < x.cells.length
            · obtain ⟨y, hy⟩ : ∃ y, x.cells[j] = y := ⟨_, rfl⟩
              have hym : y ∈ x.cells := by rw [← hy]; exact List.getElem_mem hjt
              obtain ⟨y1, y2⟩ := x3 y hym
              have hgy : (x.cells.map Cell.enc)[j]? = some y.enc := by simp [hjt, hy]
              have hqt := hQs j y hjt hy
              have w2 : IntKind.i64.wrap ((j : Int) + 1) = ((j + 1 : Nat) : Int) := by rw [wr64] <;> omega
              generalize hSj : (Q j).2 = sj at hqt
              generalize hGj : (Q j).1.map Cell.enc = G at hA2 hCn ⊢
              have hYb : ∀ s' j y, AccH o2 G (AccH o E (upS st s' H)) j = some y → j < m4 := fun s' => acc_lt (hBb s') hm4 hA2
              refine SP_mid 0 (α := Unit) (fun _ => [(0, .fn (.func g) a b), (3, .bool mid), (6, .iptr [intE sc.id, intE sc.a, intE sc.b]), (9, AccV 6 o E), (19, rowsE l), (20, intE l.length), (21, intE i), (12, .iptr h'.flat), (14, AccV 7 o2 G), (37, cellsE x.cells), (38, intE x.cells.length), (39, intE j), (40, .bool true)]) (fun _ => AccH o2 G (AccH o E (upS st sj H))) (fun _ m' => m4 = m') ?_ (fun _ m' hm' => ?_)
              · simp [go_sem, Fz.same, hjt]
              subst hm'
              refine SP_mid 0 (α := Unit) (fun _ => [(0, .fn (.func g) a b), (3, .bool mid), (6, .iptr [intE sc.id, intE sc.a, intE sc.b]), (9, AccV 6 o E), (19, rowsE l), (20, intE l.length), (21, intE i), (12, .iptr h'.flat), (14, AccV 7 o2 G), (37, cellsE x.cells), (38, intE x.cells.length), (39, intE j)]) (fun _ => AccH o2 G (AccH o E (upS st sj H))) (fun _ m' => m4 = m') ?_ (fun _ m' hm' => ?_)
              · simp [go_sem, Fz.same]
              subst hm'
              refine SP_midS 0 (α := Option Nat) (fun o2 => [(0, .fn (.func g) a b), (3, .bool mid), (6, .iptr [intE sc.id, intE sc.a, intE sc.b]), (9, AccV 6 o E), (19, rowsE l), (20, intE l.length), (21, intE i), (12, .iptr h'.flat), (14, AccV 7 o2 ((Q (j + 1)).1.map Cell.enc)), (37, cellsE x.cells), (38, intE x.cells.length), (39, intE j)]) (fun o2 => AccH o2 ((Q (j + 1)).1.map Cell.enc) (AccH o E (upS st (Q (j + 1)).2 H))) (fun o2 m => m3 ≤ m ∧ AccI m3 m 7 o2 ((Q (j + 1)).1.map Cell.enc)) ?_ (fun o2 m hm => ?_)
              · refine SP_block ?_
                refine SP_mid 1 (α := Unit) (fun _ => [(0, .fn (.func g) a b), (3, .bool mid), (6, .iptr [intE sc.id, intE sc.a, intE sc.b]), (9, AccV 6 o E), (19, rowsE l), (20, intE l.length), (21, intE i), (12, .iptr h'.flat), (14, AccV 7 o2 G), (37, cellsE x.cells), (38, intE x.cells.length), (39, intE j), (16, .iptr ([intE y.id] ++ y.head.flat ++ [itemsE y.flow]))]) (fun _ => AccH o2 G (AccH o E (upS st sj H))) (fun _ m5 => m4 ≤ m5) ?_ (fun _ m5 hm5 => ?_)
                · simp [go_sem, Fz.same, hjt, hy, Cell.enc_eq, Head.flat, hset_at]
                  refine ⟨ptr_fz (lt_none (hYb _) (Nat.le_refl m4)) (hset_at _ _ _), set_keep (hYb _) (set_keep (hYb _) look_same)⟩
                have hYb2 : ∀ s' j y, AccH o2 G (AccH o E (upS st s' H)) j = some y → j < m5 := fun s' j y e => by have := hYb s' j y e; omega
                obtain ⟨p2, hp2⟩ : ∃ p : SPart, p = ⟨y.head, mid, 1⟩ := ⟨_, rfl⟩
                have hcall2 := C.call sj p2 (AccH o2 G (AccH o E (upS st sj H))) m5 (by rw [hp2]; exact y1) (by omega) (C.has (by omega) hA2 (C.has hn hA has_up))
                have hqt' : Q (j + 1) = if (f sj p2).2.1 then ((Q j).1 ++ [.mk y.id (f sj p2).1 (it y.id y.flow mid (f sj p2).2.2).1], (it y.id y.flow mid (f sj p2).2.2).2) else ((Q j).1, (f sj p2).2.2) := by rw [hqt, hp2, cellStep, hSj]
                rw [C.acc (by omega) hA2, C.acc hn hA, C.up2] at hcall2
                have hpe2 : p2.enc = .agg (y.head.flat ++ [.bool mid, intE 1]) := by rw [hp2]; rfl
                clear hqt hSj
                rcases hf2 : f sj p2 with ⟨h2, k2, s2⟩
                rw [hf2] at hcall2 hqt'
                dsimp only at hcall2 hqt'
                refine SP_mid 1 (α := Unit) (fun _ => [(0, .fn (.func g) a b), (3, .bool mid), (6, .iptr [intE sc.id, intE sc.a, intE sc.b]), (9, AccV 6 o E), (19, rowsE l), (20, intE l.length), (21, intE i), (12, .iptr h'.flat), (14, AccV 7 o2 G), (37, cellsE x.cells), (38, intE x.cells.length), (39, intE j), (16, .iptr ([intE y.id] ++ y.head.flat ++ [itemsE y.flow])), (17, .iptr h2.flat), (18, .bool k2)]) (fun _ => AccH o2 G (AccH o E (upS st s2 H))) (fun _ m6 => m5 ≤ m6) ?_ (fun _ m6 hm6 => ?_)
                · rw [hpe2] at hcall2
                  simp only [Head.flat, List.cons_append, List.nil_append, List.append_assoc] at hcall2
                  simp [go_sem, Head.flat]
                  refine SC.use hcall2 ?_
                  rintro v H' n' ⟨rfl, rfl, rfl⟩
                  simp [go_sem, Fz.same, Head.enc, Head.flat, hset_at]
                  exact ⟨ptr_fz (lt_none (hYb2 _) (Nat.le_refl _)) (hset_at _ _ _), set_keep (hYb2 _) (set_keep (hYb2 _) look_same)⟩
                cases k2 with
                | false =>
                  have hst3 : Q (j + 1) = ((Q j).1, s2) := by simpa using hqt'
                  simp only [hst3, hGj]
                  refine SP_of ?_
                  simp [go_sem, Fz.same]
                  exact ⟨o2, ⟨by omega, hA2.mono (by omega)⟩, rfl, look_same⟩
                | true =>
                  have hst3 : Q (j + 1) = ((Q j).1 ++ [.mk y.id h2 (it y.id y.flow mid s2).1], (it y.id y.flow mid s2).2) := by simpa using hqt'
                  simp only [hst3, List.map_append, hGj, List.map_cons, List.map_nil]
                  clear hqt' hst3 hcall2 hpe2 hf2
                  refine SP_mid 0 (α := Unit) (fun _ => [(0, .fn (.func g) a b), (3, .bool mid), (6, .iptr [intE sc.id, intE sc.a, intE sc.b]), (9, AccV 6 o E), (19, rowsE l), (20, intE l.length), (21, intE i), (12, .iptr h'.flat), (14, AccV 7 o2 G), (37, cellsE x.cells), (38, intE x.cells.length), (39, intE j), (16, .iptr ([intE y.id] ++ y.head.flat ++ [itemsE y.flow])), (17, .iptr h2.flat), (52, .bool true)]) (fun _ => AccH o2 G (AccH o E (upS st s2 H))) (fun _ m7 => m6 = m7) ?_ (fun _ m7 hm7 => ?_)
                  · simp [go_sem, Fz.same]
                  subst hm7
                  refine SWE_cond (b := true) (by simp [go_sem]) ?_
                  rw [if_pos rfl]
                  have hc3 := hit y.id y.flow mid s2 (AccH o2 G (AccH o E (upS st s2 H))) m6 y2 (by omega) (C.has (by omega) hA2 (C.has hn hA has_up))
                  rw [C.acc (by omega) hA2, C.acc hn hA, C.up2] at hc3
                  generalize it y.id y.flow mid s2 = r3 at hc3 ⊢
                  obtain ⟨q3, s3⟩ := r3
                  dsimp only at hc3 ⊢
                  refine SP_tr trR rfl (by kernel_rfl) (by kernel_rfl) ?_
                  simp [go_sem, trR, Head.flat]
                  refine SC.use (by simpa [Scope.enc] using hc3) ?_
                  rintro v H' n' ⟨rfl, rfl, rfl⟩
                  simp [go_sem]
                  have hpush := hA2.push (j := n' + 1) (m' := n' + 1 + 1) (e := (Cell.mk y.id h2 q3).enc) (Cell.E.st _) (Cell.E.len _) (by omega) (by omega)
                  rw [app1g (es := G) (e := (Cell.mk y.id h2 q3).enc) (o := o2) (t := 167) (t2 := 167) (el := 171) (z := 7) (by simp [go_sem]) (by simp [go_sem]) (by simp [go_sem]) (by simp) (by simp [go_sem]) (by simp [go_sem]) (by simp [go_sem]) (by omega) hA2 (Cell.E.len _) ?a1 ?a2]
                  case a1 => simp [hset_at, Cell.enc_eq, SV.cells, Cell.id, Cell.head, Cell.flow]
                  case a2 =>
                    intro j e
                    have := (hA2.lt j e).2
                    rw [hset_ne _ _ (by omega)]; exact acc_at j e
                  have hlive := acc_live' (p := n' + 1) (v := .sl (n' + 1) 0 7 (G.length + 1) false) (e := (Cell.mk y.id h2 q3).enc) (hBb s3) (by omega) hA2 (H := hset (AccH o2 G (AccH o E (upS st s3 H))) n' (some (.cells [intE y.id, propsE h2.props, intE h2.ins, intE h2.move, delsE h2.dels, layersE h2.layers, itemsE q3]))) (set_keep (fun j z e => by have := hBb s3 j z e; omega) (acc_old (hBb s3) hA2))
                  have hvv : AccV 7 (some (n' + 1)) (G ++ [(Cell.mk y.id h2 q3).enc]) = .sl (n' + 1) 0 7 (G.length + 1) false := by simp [AccV]
                  simp [go_sem]
                  exact ⟨some (n' + 1), ⟨by omega, hpush⟩, hvv.symm, by simpa [Out.app, SV.cells] using hlive⟩
              · refine SP_of ?_
                simp [go_sem, w2, Fz.same, -Int.natCast_add]
                exact ⟨j + 1, by omega, o2, ⟨by omega, hm.1, hm.2⟩, ⟨rfl, rfl⟩, look_same⟩
            · have : j = x.cells.length := by omega
              subst this
              rw [hQl] at hA2 ⊢
              refine SP_of ?_
              simp [go_sem, Fz.same]
              exact ⟨by omega, AccV.fz' (fun j hj => lt_none (hBb _) hj) hA2 look_same, acc_old (hBb _) hA2⟩
          · generalize cellsG f it mid x.cells s1 = r2
            obtain ⟨q2, s2⟩ := r2
            dsimp only
            refine SP_of ?_
            simp [go_sem, Head.flat]
            have hpush := hA.push (j := m4 + 1) (m' := m4 + 1 + 1) (e := (Row.mk h' q2).enc) (Row.E.st _) (Row.E.len _) (by omega) (by omega)
            rw [app1g (es := E) (e := (Row.mk h' q2).enc) (o := o) (t := 68) (t2 := 68) (el := 169) (z := 6) (by simp [go_sem]) (by simp [go_sem]) (by simp [go_sem]) (by simp) (by simp [go_sem]) (by simp [go_sem]) (by simp [go_sem]) (by omega) hA (Row.E.len _) ?a1 ?a2]
            case a1 => simp [hset_at, Row.enc_eq, SV.cells, Row.head, Row.cells]
            case a2 =>
              intro j e
              have := (hA.lt j e).2
              rw [hset_ne _ _ (by omega)]; exact acc_at j e
            have hlive := acc_live' (p := m4 + 1) (v := .sl (m4 + 1) 0 6 (E.length + 1) false) (e := (Row.mk h' q2).enc) (hUb s2) (by omega) hA (H := hset (AccH o E (upS st s2 H)) m4 (some (.cells [propsE h'.props, intE h'.ins, intE h'.move, delsE h'.dels, layersE h'.layers, cellsE q2]))) (set_keep (fun j z e => by have := hUb s2 j z e; omega) (acc_old (hUb s2) hA))
            have hvv : AccV 6 (some (m4 + 1)) (E ++ [(Row.mk h' q2).enc]) = .sl (m4 + 1) 0 6 (E.length + 1) false := by simp [AccV]
            simp [go_sem]
            exact ⟨some (m4 + 1), ⟨by omega, hpush⟩, hvv.symm, by simpa [Out.app, SV.cells] using hlive⟩
      · refine SP_of ?_
        simp [go_sem, w1, Fz.same, -Int.natCast_add]
        exact ⟨i + 1, by omega, o, ⟨by omega, hm.1, hm.2⟩, ⟨rfl, rfl⟩, look_same⟩
    · have : i = l.length := by omega
      subst this
      refine SP_of ?_
      simp [go_sem]
      exact ⟨o, ⟨hnm, hA⟩, rfl, look_same⟩
  · refine SP_of ?_
    simp [go_sem]
    rw [hRl] at hm ⊢
    exact ret_accU (hU _) hm.2 (fun e he => by obtain ⟨x, _, rfl⟩ := List.mem_map.1 he; exact Row.cl n x)
end
section
variable {σ : Type} {st : σ → Nat → Option SObj} {n0 : Nat} {g : FuncId} {a b : List SV} {f : σ → SPart → Head × Bool × σ} {ok : Head → Prop} {it : Int → List Item → Bool → σ → List Item × σ} {mid : Bool} {P : List Item → Prop} {sc : Scope}
def okI (ok : Head → Prop) (P : List Item → Prop) (x : Item) : Prop := ok x.head ∧ x.text.size ≤ 1048576 ∧ P x.flow ∧ x.rows.length ≤ 1048576 ∧ ∀ r ∈ x.rows, ok r.head ∧ r.cells.length ≤ 1048576 ∧ ∀ c ∈ r.cells, ok c.head ∧ P c.flow
set_option maxHeartbeats 2000000 in
theorem d190 (C : Clo st n0 g a b f ok) (hit : ItC st n0 g a b it sc P) (l : List Item) (hl : l.length ≤ 1048576) (hr : ∀ x ∈ l, okI ok P x) (s : σ) {H : Hp} {n : Nat} (hn : n0 ≤ n) (hs : ∀ o y, st s o = some y → H o = some y) :
    SCall Tryz.prog 190 [.fn (.func g) a b, itemsE l, sc.enc, .bool mid] H n (fun v h' n' => v = itemsE (partsG f it mid l s).1 ∧ h' = upS st (partsG f it mid l s).2 H ∧ n' = n) := by
  refine goS Tryz.func190 rfl (by kernel_rfl) (by kernel_rfl) (by simp [go_sem]) fun ho => ?_
  obtain ⟨R, hR⟩ : ∃ R : Nat → List Item × σ, ∀ i, R i = (l.take i).foldl (partStep f it mid) ([], s) := ⟨_, fun _ => rfl⟩
  have hR0 : R 0 = ([], s) := by rw [hR]; rfl
  have hRs : ∀ i x, (h : i < l.length) → l[i] = x → R (i + 1) = partStep f it mid (R i) x := fun i x h hx => by rw [hR, hR, foldl_take _ _ _ _ _ h hx]
  have hRl : R l.length = partsG f it mid l s := by rw [hR, List.take_length]; rfl
  have hRn : ∀ i, (R i).1.length ≤ i := fun i => by rw [hR]; have := partsG_len (f := f) (it := it) (mid := mid) (l.take i) ([], s); simp at this; omega
  clear hR
  have hU : ∀ s', Old (upS st s' H) n := fun s' => C.old s' hn ho
  have hUb : ∀ s' j y, upS st s' H j = some y → j < n := fun s' j y e => (hU s' j y e).1
  refine SP_mid 1 (α := Unit) (fun _ => [(0, .fn (.func g) a b), (1, itemsE l), (3, .bool mid), (6, .iptr [intE sc.id, intE sc.a, intE sc.b])]) (fun _ => upS st s H) (fun _ m => n ≤ m) ?_ (fun _ m hm => ?_)
  · simp [go_sem, Scope.enc, Fz.same, upS_self s H hs]
    refine ⟨ptr_fz (ho.none (Nat.le_refl n)) (by simp [hset]), fun j y e => by rw [hset_ne _ _ (by have := (ho j y e).1; omega)]; exact e⟩
  refine SP_mid 0 (α := Unit) (fun _ => [(0, .fn (.func g) a b), (1, itemsE l), (3, .bool mid), (6, .iptr [intE sc.id, intE sc.a, intE sc.b]), (9, .imm 0 [] true)]) (fun _ => upS st s H) (fun _ m => n ≤ m) ?_ (fun _ m hm => ?_)
  · simp [go_sem, Fz.same, hm]
  refine SP_midS 0 (α := Option Nat) (fun o => [(9, AccV 11 o ((R l.length).1.map Item.enc))]) (fun o => AccH o ((R l.length).1.map Item.enc) (upS st (R l.length).2 H)) (fun o m => n ≤ m ∧ AccI n m 11 o ((R l.length).1.map Item.enc)) ?_ (fun o m hm => ?_)
  · refine SP_mid 0 (α := Unit) (fun _ => [(0, .fn (.func g) a b), (1, itemsE l), (3, .bool mid), (6, .iptr [intE sc.id, intE sc.a, intE sc.b]), (9, .imm 0 [] true), (16, itemsE l), (17, intE l.length), (18, intE 0)]) (fun _ => upS st s H) (fun _ m => n ≤ m) ?_ (fun _ m hm => ?_)
    · simp [go_sem, Fz.same, hm]
    refine SP_block (goloopS 0 (α := Nat × Option Nat) (fun q => [(0, .fn (.func g) a b), (1, itemsE l), (3, .bool mid), (6, .iptr [intE sc.id, intE sc.a, intE sc.b]), (9, AccV 11 q.2 ((R q.1).1.map Item.enc)), (16, itemsE l), (17, intE l.length), (18, intE q.1)])
      (fun q => AccH q.2 ((R q.1).1.map Item.enc) (upS st (R q.1).2 H)) (fun q m => q.1 ≤ l.length ∧ n ≤ m ∧ AccI n m 11 q.2 ((R q.1).1.map Item.enc)) (fun q => l.length - q.1) (0, none) ⟨Nat.zero_le _, hm, by simp only [hR0]; exact AccI.nil _ _ _⟩ ?_ ?_ ?_)
    · simp [go_sem, look, AccV, Fz.same]
    · simp only [hR0]; exact look_same
    clear hm m
    rintro ⟨i, o⟩ m ⟨hi, hnm, hA⟩
    dsimp only at hi hA ⊢
    have hEn : ((R i).1.map Item.enc).length ≤ i := by rw [List.length_map]; exact hRn i
    by_cases hlt : i < l.length
    · obtain ⟨x, hx⟩ : ∃ x, l[i] = x := ⟨_, rfl⟩
      have hxm : x ∈ l := by rw [← hx]; exact List.getElem_mem hlt
      obtain ⟨x1, x2, x3, x4, x5⟩ := hr x hxm
      have hgx : (l.map Item.enc)[i]? = some x.enc := by simp [hlt, hx]
      have hst := hRs i x hlt hx
      have w1 : IntKind.i64.wrap ((i : Int) + 1) = ((i + 1 : Nat) : Int) := by rw [wr64] <;> omega
      generalize hSi : (R i).2 = si at hst
      generalize hEi : (R i).1.map Item.enc = E at hA hEn ⊢
      have hXb : ∀ s' j y, AccH o E (upS st s' H) j = some y → j < m := fun s' => acc_lt (hUb s') hnm hA
      refine SP_mid 0 (α := Unit) (fun _ => [(0, .fn (.func g) a b), (1, itemsE l), (3, .bool mid), (6, .iptr [intE sc.id, intE sc.a, intE sc.b]), (9, AccV 11 o E), (16, itemsE l), (17, intE l.length), (18, intE i), (19, .bool true)]) (fun _ => AccH o E (upS st si H)) (fun _ m' => m = m') ?_ (fun _ m' hm' => ?_)
      · simp [go_sem, Fz.same, hlt]
      subst hm'
      refine SP_mid 0 (α := Unit) (fun _ => [(0, .fn (.func g) a b), (1, itemsE l), (3, .bool mid), (6, .iptr [intE sc.id, intE sc.a, intE sc.b]), (9, AccV 11 o E), (16, itemsE l), (17, intE l.length), (18, intE i)]) (fun _ => AccH o E (upS st si H)) (fun _ m2 => m = m2) ?_ (fun _ m2 hm2 => ?_)
      · simp [go_sem, Fz.same]
      subst hm2
      refine SP_midS 0 (α := Option Nat) (fun o => [(0, .fn (.func g) a b), (1, itemsE l), (3, .bool mid), (6, .iptr [intE sc.id, intE sc.a, intE sc.b]), (9, AccV 11 o ((R (i + 1)).1.map Item.enc)), (16, itemsE l), (17, intE l.length), (18, intE i)]) (fun o => AccH o ((R (i + 1)).1.map Item.enc) (upS st (R (i + 1)).2 H)) (fun o m => n ≤ m ∧ AccI n m 11 o ((R (i + 1)).1.map Item.enc)) ?_ (fun o m hm => ?_)
      · refine SP_block ?_
        refine SP_mid 0 (α := Nat) (fun p => [(0, .fn (.func g) a b), (1, itemsE l), (3, .bool mid), (6, .iptr [intE sc.id, intE sc.a, intE sc.b]), (9, AccV 11 o E), (16, itemsE l), (17, intE l.length), (18, intE i), (10, intE i), (11, .ptr p 0)]) (fun p => hset (AccH o E (upS st si H)) p (some (.cells [intE x.kind, intE x.code, intE x.id, .str x.text, propsE x.head.props, intE x.head.ins, intE x.head.move, delsE x.head.dels, layersE x.head.layers, itemsE x.flow, rowsE x.rows]))) (fun p m2 => m ≤ p ∧ p < m2) ?_ (fun p m2 hm2 => ?_)
        · simp [go_sem, Fz.same, hlt, hx, Item.enc_eq, hset_at, hset_two]
          exact ⟨m, by omega, rfl, look_same⟩
        have hXb2 : ∀ s' j y, AccH o E (upS st s' H) j = some y → j < p := fun s' j y e => by have := hXb s' j y e; omega
        refine SP_mid 0 (α := Unit) (fun _ => [(0, .fn (.func g) a b), (1, itemsE l), (3, .bool mid), (6, .iptr [intE sc.id, intE sc.a, intE sc.b]), (9, AccV 11 o E), (16, itemsE l), (17, intE l.length), (18, intE i), (10, intE i), (11, .ptr p 0), (12, intE (runLen [x]).1)]) (fun _ => hset (AccH o E (upS st si H)) p (some (.cells [intE x.kind, intE x.code, intE x.id, .str x.text, propsE x.head.props, intE x.head.ins, intE x.head.move, delsE x.head.dels, layersE x.head.layers, itemsE x.flow, rowsE x.rows]))) (fun _ m3 => m2 ≤ m3) ?_ (fun _ m3 hm3 => ?_)
        · have hle : i + 1 ≤ l.length := hlt
          have hsl : List.drop i (List.take (i + 1) (l.map Item.enc)) = [x.enc] := by rw [List.drop_take, Nat.add_sub_cancel_left, List.drop_eq_getElem_cons (by simpa using hlt)]; simp [hx]
          simp [go_sem, w1, hle, hsl, -Int.natCast_add, -List.map_take, -List.map_drop]
          refine PC.use (c35 [x] (by simp) (by simpa using x2)) ?_
          simp [go_sem, Fz.same]
        obtain ⟨pt, hp⟩ : ∃ q : SPart, q = ⟨x.head, mid, (runLen [x]).1⟩ := ⟨_, rfl⟩
        have hcall := fun y => C.call si pt (hset (AccH o E (upS st si H)) p y) m3 (by rw [hp]; exact x1) (by omega) (fun k z e => by rw [hset_ne _ _ (by rintro rfl; rw [C.lt si k (by omega)] at e; cases e)]; exact C.has hn hA has_up k z e)
        have hst' : R (i + 1) = if (f si pt).2.1 then ((R i).1 ++ [x.put (f si pt).1 (innerG f it mid x (f si pt).2.2).1.1 (innerG f it mid x (f si pt).2.2).1.2], (innerG f it mid x (f si pt).2.2).2) else ((R i).1, (f si pt).2.2) := by rw [hst, hp, partStep, hSi]
        have hup : ∀ s' y, upS st s' (hset (AccH o E (upS st si H)) p y) = hset (AccH o E (upS st s' H)) p y := fun s' y => by rw [← C.hset _ _ (by omega), C.acc hn hA, C.up2]
        simp only [hup] at hcall
        have hpe : pt.enc = .agg (x.head.flat ++ [.bool mid, intE (runLen [x]).1]) := by rw [hp]; rfl
        clear hst hSi hup
        rcases hf : f si pt with ⟨h', k, s1⟩
        rw [hf] at hcall hst'
        dsimp only at hcall hst'
        have hYb : ∀ s' y j z, hset (AccH o E (upS st s' H)) p y j = some z → j < m3 := fun s' y j z e => by
          by_cases h : j = p
          · omega
          · rw [hset_ne _ _ h] at e; have := hXb2 s' j z e; omega
        refine SP_mid 1 (α := Unit) (fun _ => [(0, .fn (.func g) a b), (1, itemsE l), (3, .bool mid), (6, .iptr [intE sc.id, intE sc.a, intE sc.b]), (9, AccV 11 o E), (16, itemsE l), (17, intE l.length), (18, intE i), (11, .ptr p 0), (14, .iptr h'.flat), (15, .bool k)]) (fun _ => hset (AccH o E (upS st s1 H)) p (some (.cells [intE x.kind, intE x.code, intE x.id, .str x.text, propsE x.head.props, intE x.head.ins, intE x.head.move, delsE x.head.dels, layersE x.head.layers, itemsE x.flow, rowsE x.rows]))) (fun _ m4 => m3 ≤ m4) ?_ (fun _ m4 hm4 => ?_)
        · rw [hpe] at hcall
          simp only [Head.flat, List.cons_append, List.nil_append, List.append_assoc] at hcall
          simp [go_sem, Head.flat, hset_at]
          refine SC.use (hcall _) ?_
          rintro v H' n' ⟨rfl, rfl, rfl⟩
          simp [go_sem, Fz.same, Head.enc, Head.flat, hset_at]
          exact ⟨ptr_fz (lt_none (hYb _ _) (Nat.le_refl _)) (hset_at _ _ _), set_keep (hYb _ _) (set_keep (hYb _ _) look_same)⟩
        cases k with
        | false =>
          have hst2 : R (i + 1) = ((R i).1, s1) := by simpa using hst'
          simp only [hst2, hEi]
          refine SP_of ?_
          simp [go_sem, Fz.same, Head.flat, hset_at, hset_two]
          exact ⟨o, ⟨by omega, hA.mono (by omega)⟩, rfl, set_keep (hXb2 _) look_same⟩
        | true =>
          have hst2 : R (i + 1) = ((R i).1 ++ [x.put h' (innerG f it mid x s1).1.1 (innerG f it mid x s1).1.2], (innerG f it mid x s1).2) := by simpa using hst'
          simp only [hst2, List.map_append, hEi, List.map_cons, List.map_nil]
          clear hst' hst2 hcall hpe hf
          refine SP_mid 0 (α := Unit) (fun _ => [(0, .fn (.func g) a b), (1, itemsE l), (3, .bool mid), (6, .iptr [intE sc.id, intE sc.a, intE sc.b]), (9, AccV 11 o E), (16, itemsE l), (17, intE l.length), (18, intE i), (11, .ptr p 0)]) (fun _ => hset (AccH o E (upS st s1 H)) p (some (.cells [intE x.kind, intE x.code, intE x.id, .str x.text, propsE h'.props, intE h'.ins, intE h'.move, delsE h'.dels, layersE h'.layers, itemsE x.flow, rowsE x.rows]))) (fun _ m5 => m4 = m5) ?_ (fun _ m5 hm5 => ?_)
          · simp [go_sem, Fz.same, Head.flat, hset_at, hset_two]
          subst hm5
          have hupP : ∀ s' y, upS st s' (hset (AccH o E (upS st s1 H)) p y) = hset (AccH o E (upS st s' H)) p y := fun s' y => by rw [← C.hset _ _ (by omega), C.acc hn hA, C.up2]
          have hasP : ∀ y k z, st s1 k = some z → hset (AccH o E (upS st s1 H)) p y k = some z := fun y k z e => by rw [hset_ne _ _ (by rintro rfl; rw [C.lt s1 k (by omega)] at e; cases e)]; exact C.has hn hA has_up k z e
          refine SP_mid 1 (α := Unit) (fun _ => [(0, .fn (.func g) a b), (1, itemsE l), (3, .bool mid), (6, .iptr [intE sc.id, intE sc.a, intE sc.b]), (9, AccV 11 o E), (16, itemsE l), (17, intE l.length), (18, intE i), (11, .iptr [intE x.kind, intE x.code, intE x.id, .str x.text, propsE h'.props, intE h'.ins, intE h'.move, delsE h'.dels, layersE h'.layers, itemsE (innerG f it mid x s1).1.1, rowsE (innerG f it mid x s1).1.2])]) (fun _ => AccH o E (upS st (innerG f it mid x s1).2 H)) (fun _ m5 => m4 ≤ m5) ?_ (fun _ m5 hm5 => ?_)
          · by_cases k6 : x.kind = 6
            · have hc3 := fun y => hit x.id x.flow mid s1 (hset (AccH o E (upS st s1 H)) p y) m4 x3 (by omega) (hasP y)
              simp only [hupP] at hc3
              have hin : innerG f it mid x s1 = (((it x.id x.flow mid s1).1, x.rows), (it x.id x.flow mid s1).2) := by rw [innerG, if_pos k6]
              rw [hin]
              generalize it x.id x.flow mid s1 = r3 at hc3 ⊢
              obtain ⟨q3, s3⟩ := r3
              dsimp only at hc3 ⊢
              simp [go_sem, hset_at, k6]
              refine SC.use (by simpa [Scope.enc] using hc3 _) ?_
              rintro v H' n' ⟨rfl, rfl, rfl⟩
              simp [go_sem, Fz.same, hset_at, hset_two]
              exact ⟨ptr_fz (lt_none (hXb2 _) (Nat.le_refl _)) (hset_at _ _ _), set_keep (hXb2 _) look_same⟩
            · by_cases k7 : x.kind = 7
              · have hc3 := fun y => d257 (mid := mid) C hit x.rows x4 x5 s1 (n := m4) (by omega) (hasP y)
                simp only [hupP] at hc3
                have hin : innerG f it mid x s1 = ((x.flow, (rowsG f it mid x.rows s1).1), (rowsG f it mid x.rows s1).2) := by rw [innerG, if_neg k6, if_pos k7]
                rw [hin]
                generalize rowsG f it mid x.rows s1 = r3 at hc3 ⊢
                obtain ⟨q3, s3⟩ := r3
                dsimp only at hc3 ⊢
                simp [go_sem, hset_at, k7]
                refine SC.use (by simpa [Scope.enc] using hc3 _) ?_
                rintro v H' n' ⟨rfl, rfl, rfl⟩
                simp [go_sem, Fz.same, hset_at, hset_two]
                exact ⟨ptr_fz (lt_none (hXb2 _) (Nat.le_refl _)) (hset_at _ _ _), set_keep (hXb2 _) look_same⟩
              · have hin : innerG f it mid x s1 = ((x.flow, x.rows), s1) := by rw [innerG, if_neg k6, if_neg k7]
                rw [hin]
                dsimp only
                simp [go_sem, Fz.same, hset_at, k6, k7]
                exact ⟨ptr_fz (lt_none (hXb2 _) (Nat.le_refl _)) (hset_at _ _ _), set_keep (hXb2 _) look_same⟩
          · generalize innerG f it mid x s1 = r2
            obtain ⟨⟨q2, q3⟩, s2⟩ := r2
            dsimp only
            refine SP_of ?_
            simp [go_sem]
            have hpush := hA.push (j := m5 + 1) (m' := m5 + 1 + 1) (e := (x.put h' q2 q3).enc) (Item.E.st _) (Item.E.len _) (by omega) (by omega)
            rw [app1g (es := E) (e := (x.put h' q2 q3).enc) (o := o) (t := 22) (t2 := 22) (el := 70) (z := 11) (by simp [go_sem]) (by simp [go_sem]) (by simp [go_sem]) (by simp) (by simp [go_sem]) (by simp [go_sem]) (by simp [go_sem]) (by omega) hA (Item.E.len _) ?a1 ?a2]
            case a1 => simp [hset_at, Item.enc_eq, SV.cells, Item.put, Item.kind, Item.code, Item.id, Item.text, Item.head, Item.flow, Item.rows]
            case a2 =>
              intro j e
              have := (hA.lt j e).2
              rw [hset_ne _ _ (by omega)]; exact acc_at j e
            have hlive := acc_live' (p := m5 + 1) (v := .sl (m5 + 1) 0 11 (E.length + 1) false) (e := (x.put h' q2 q3).enc) (hUb s2) (by omega) hA (H := hset (AccH o E (upS st s2 H)) m5 (some (.cells [intE x.kind, intE x.code, intE x.id, .str x.text, propsE h'.props, intE h'.ins, intE h'.move, delsE h'.dels, layersE h'.layers, itemsE q2, rowsE q3]))) (set_keep (fun j z e => by have := hUb s2 j z e; omega) (acc_old (hUb s2) hA))
            have hvv : AccV 11 (some (m5 + 1)) (E ++ [(x.put h' q2 q3).enc]) = .sl (m5 + 1) 0 11 (E.length + 1) false := by simp [AccV]
            simp [go_sem]
            exact ⟨some (m5 + 1), ⟨by omega, hpush⟩, hvv.symm, by simpa [Out.app, SV.cells] using hlive⟩
      · refine SP_of ?_
        simp [go_sem, w1, Fz.same, -Int.natCast_add]
        exact ⟨i + 1, by omega, o, ⟨by omega, hm.1, hm.2⟩, ⟨rfl, rfl⟩, look_same⟩
    · have : i = l.length := by omega
      subst this
      refine SP_of ?_
      simp [go_sem]
      exact ⟨o, ⟨hnm, hA⟩, rfl, look_same⟩
  · refine SP_of ?_
    simp [go_sem]
    rw [hRl] at hm ⊢
    exact ret_accU (hU _) hm.2 (fun e he => by obtain ⟨x, _, rfl⟩ := List.mem_map.1 he; exact Item.cl n x)
end
def trI : Tr := .pure 0 <| .pure 1 <| .pure 2 <| .pure 4 <| .pure 5 <| .pure 6 <| .pure 8 <| .pure 9 <| .pure 10 <| .one 3 <| .one 7 <| .one 11 <| .one 12 <| .one 13 <| .one 14 .nil
section
variable {σ : Type} {st : σ → Nat → Option SObj} {n0 : Nat} {g : FuncId} {a b : List SV} {f : σ → SPart → Head × Bool × σ} {ok : Head → Prop} {sc : Scope}
theorem ret_immU {h h2 : Hp} {n n' : Nat} {v : SV} (ho : Old h n) (hc : closed n v = true) (hh : ∀ j y, h j = some y → h2 j = some y) : RetS n h2 n' v (fun w h' n' => w = v ∧ h' = h ∧ n' = n) :=
  .inr ⟨0, v, h, Fz.same, hc, fun j x e => ⟨hh j x e, ho j x e⟩, rfl, rfl, rfl⟩
set_option maxHeartbeats 2000000 in
theorem d121 (C : Clo st n0 g a b f ok) (hp : Head → Prop) (K : Nat) (hK : K ≤ 349525) (hok : ∀ h : Head, hp h → ok h ∧ h.sized) : ∀ N, ItC st n0 g a b (itemsG f sc N) sc (lim hp K N)
  | 0 => fun id l mid s H n h => h.elim
  | N + 1 => fun id l mid s H n hl hn hs => by
    have ih := d121 C hp K hK hok N
    have hsz := hl.sized (fun h e => (hok h e).2) (by omega)
    have htx : ∀ x ∈ l, x.text.size ≤ 1048576 := Item.sizedL_text hsz.2
    have hparts : ∀ l, lim hp K (N + 1) l → ∀ x ∈ l, okI ok (lim hp K N) x := fun l hl x hx => by
      obtain ⟨h1, h2, h3⟩ := lim_iff.1 hl
      obtain ⟨h4, h5, h6, h7⟩ := h3 x hx
      exact ⟨(hok _ h4).1, by have := textsL_mem hx; omega, h5, by omega, fun r hr => ⟨(hok _ (h7 r hr).1).1, by have := (h7 r hr).2.1; omega, fun c hc => ⟨(hok _ ((h7 r hr).2.2 c hc).1).1, ((h7 r hr).2.2 c hc).2⟩⟩⟩
    refine goS Tryz.func121 rfl (by kernel_rfl) (by kernel_rfl) (by simp [go_sem]) fun ho => ?_
    have hU : ∀ s', Old (upS st s' H) n := fun s' => C.old s' hn ho
    have hUb : ∀ s' j y, upS st s' H j = some y → j < n := fun s' j y e => (hU s' j y e).1
    refine SP_mid 1 (α := Unit) (fun _ => [(0, .fn (.func g) a b), (1, intE id), (2, itemsE l), (4, .bool mid), (8, .iptr [intE sc.id, intE sc.a, intE sc.b])]) (fun _ => upS st s H) (fun _ m => n ≤ m) ?_ (fun _ m hm => ?_)
    · simp [go_sem, Scope.enc, Fz.same, upS_self s H hs]
      refine ⟨ptr_fz (ho.none (Nat.le_refl n)) (by simp [hset]), fun j y e => by rw [hset_ne _ _ (by have := (ho j y e).1; omega)]; exact e⟩
    by_cases hin : inScope sc id l mid = true
    · have he : itemsG f sc (N + 1) id l mid s = ((partsG f (itemsG f sc N) false (runSlice l 0 sc.a).1 s).1 ++ (partsG f (itemsG f sc N) true (runSlice l sc.a sc.b).1 (partsG f (itemsG f sc N) false (runSlice l 0 sc.a).1 s).2).1 ++ (partsG f (itemsG f sc N) false (runSlice l sc.b (runLen l).1).1 (partsG f (itemsG f sc N) true (runSlice l sc.a sc.b).1 (partsG f (itemsG f sc N) false (runSlice l 0 sc.a).1 s).2).2).1, (partsG f (itemsG f sc N) false (runSlice l sc.b (runLen l).1).1 (partsG f (itemsG f sc N) true (runSlice l sc.a sc.b).1 (partsG f (itemsG f sc N) false (runSlice l 0 sc.a).1 s).2).2).2) := by rw [itemsG, if_pos hin]
      simp only [inScope, Bool.and_eq_true, decide_eq_true_eq, Bool.not_eq_true'] at hin
      obtain ⟨⟨⟨⟨i1, i2⟩, i3⟩, i4⟩, i5⟩ := hin
      subst i1 i2
      rw [he]
      have l1 := lim_slice 0 sc.a hl
      have l2 := lim_slice sc.a sc.b hl
      have l3 := lim_slice sc.b (runLen l).1 hl
      have n1 := runSlice_len l 0 sc.a
      have n2 := runSlice_len l sc.a sc.b
      have n3 := runSlice_len l sc.b (runLen l).1
      have hlK := hl.1
      have c1 := c180 l 0 sc.a hsz.1 hsz.2
      have c2 := c180 l sc.a sc.b hsz.1 hsz.2
      have c3 := c180 l sc.b (runLen l).1 hsz.1 hsz.2
      refine SP_seq ?_
      refine SP_mid 0 (α := Unit) (fun _ => [(0, .fn (.func g) a b), (2, itemsE l), (8, .iptr [intE sc.id, intE sc.a, intE sc.b]), (26, .bool true)]) (fun _ => upS st s H) (fun _ m' => m = m') ?_ (fun _ m' hm' => ?_)
      · simp [go_sem, Fz.same]
      subst hm'
      refine SWE_cond (b := true) (by simp [go_sem]) ?_
      rw [if_pos rfl]
      refine SP_mid 0 (α := Unit) (fun _ => [(0, .fn (.func g) a b), (2, itemsE l), (8, .iptr [intE sc.id, intE sc.a, intE sc.b]), (11, intE (runLen l).1)]) (fun _ => upS st s H) (fun _ m' => m ≤ m') ?_ (fun _ m' hm' => ?_)
      · simp [go_sem]
        refine PC.use (c35 l hsz.1 htx) ?_
        simp [go_sem, Fz.same]
      refine SP_mid 0 (α := Unit) (fun _ => [(0, .fn (.func g) a b), (2, itemsE l), (8, .iptr [intE sc.id, intE sc.a, intE sc.b]), (11, intE (runLen l).1), (47, .bool true)]) (fun _ => upS st s H) (fun _ m2 => m' = m2) ?_ (fun _ m2 hm2 => ?_)
      · simp [go_sem, Fz.same, i3, i4, i5]
      subst hm2
      refine SWE_cond (b := true) (by simp [go_sem]) ?_
      rw [if_pos rfl]
      refine SP_mid 0 (α := Unit) (fun _ => [(0, .fn (.func g) a b), (2, itemsE l), (8, .iptr [intE sc.id, intE sc.a, intE sc.b]), (11, intE (runLen l).1), (13, itemsE (runSlice l 0 sc.a).1)]) (fun _ => upS st s H) (fun _ m2 => m' ≤ m2) ?_ (fun _ m2 hm2 => ?_)
      · simp [go_sem]
        refine PC.use c1 ?_
        simp [go_sem, Fz.same]
      refine SP_mid 0 (α := Unit) (fun _ => [(0, .fn (.func g) a b), (2, itemsE l), (8, .iptr [intE sc.id, intE sc.a, intE sc.b]), (11, intE (runLen l).1), (13, itemsE (runSlice l 0 sc.a).1), (15, itemsE (runSlice l sc.a sc.b).1)]) (fun _ => upS st s H) (fun _ m3 => m2 ≤ m3) ?_ (fun _ m3 hm3 => ?_)
      · simp [go_sem]
        refine PC.use c2 ?_
        simp [go_sem, Fz.same]
      refine SP_mid 0 (α := Unit) (fun _ => [(0, .fn (.func g) a b), (8, .iptr [intE sc.id, intE sc.a, intE sc.b]), (13, itemsE (runSlice l 0 sc.a).1), (15, itemsE (runSlice l sc.a sc.b).1), (17, itemsE (runSlice l sc.b (runLen l).1).1)]) (fun _ => upS st s H) (fun _ m4 => m3 ≤ m4) ?_ (fun _ m4 hm4 => ?_)
      · simp [go_sem]
        refine PC.use c3 ?_
        simp [go_sem, Fz.same]
      generalize hr1 : (runSlice l 0 sc.a).1 = r1 at l1 n1 ⊢
      generalize hr2 : (runSlice l sc.a sc.b).1 = r2 at l2 n2 ⊢
      generalize hr3 : (runSlice l sc.b (runLen l).1).1 = r3 at l3 n3 ⊢
      have w1 := fun m (hm : n ≤ m) => d190 (mid := false) (sc := sc) C ih r1 (by omega) (hparts r1 l1) s (H := upS st s H) (n := m) (by omega) has_up
      have e1 := partsG_len (f := f) (it := itemsG f sc N) (mid := false) r1 ([], s)
      have z1 : partsG f (itemsG f sc N) false r1 s = r1.foldl (partStep f (itemsG f sc N) false) ([], s) := rfl
      rw [← z1] at e1
      generalize partsG f (itemsG f sc N) false r1 s = q1 at w1 e1 ⊢
      obtain ⟨q1, s1⟩ := q1
      have w2 := fun m (hm : n ≤ m) => d190 (mid := true) (sc := sc) C ih r2 (by omega) (hparts r2 l2) s1 (H := upS st s1 H) (n := m) (by omega) has_up
      have e2 := partsG_len (f := f) (it := itemsG f sc N) (mid := true) r2 ([], s1)
      have z2 : partsG f (itemsG f sc N) true r2 s1 = r2.foldl (partStep f (itemsG f sc N) true) ([], s1) := rfl
      rw [← z2] at e2
      dsimp only at w1 e1 ⊢
      generalize partsG f (itemsG f sc N) true r2 s1 = q2 at w2 e2 ⊢
      obtain ⟨q2, s2⟩ := q2
      have w3 := fun m (hm : n ≤ m) => d190 (mid := false) (sc := sc) C ih r3 (by omega) (hparts r3 l3) s2 (H := upS st s2 H) (n := m) (by omega) has_up
      have e3 := partsG_len (f := f) (it := itemsG f sc N) (mid := false) r3 ([], s2)
      have z3 : partsG f (itemsG f sc N) false r3 s2 = r3.foldl (partStep f (itemsG f sc N) false) ([], s2) := rfl
      rw [← z3] at e3
      dsimp only at w2 e2 ⊢
      generalize partsG f (itemsG f sc N) false r3 s2 = q3 at w3 e3 ⊢
      obtain ⟨q3, s3⟩ := q3
      dsimp only at w3 e3 ⊢
      simp only [C.up2, Scope.enc] at w1 w2 w3
      have hcc := c189 [q1, q2, q3] (by simp) (by simp at e1 e2 e3 ⊢; omega)
      refine SP_midS 0 (α := Unit) (fun _ => [(10, itemsE (q1 ++ q2 ++ q3))]) (fun _ => upS st s3 H) (fun _ m5 => m4 ≤ m5) (SP_tr trI rfl (by kernel_rfl) (by kernel_rfl) ?_) (fun _ m5 hm5 => ?_)
      · simp [go_sem, trI]
        refine SC.use (w1 m4 (by omega)) ?_
        rintro v H' n' ⟨rfl, rfl, rfl⟩
        simp [go_sem]
        refine SC.use (w2 _ (by omega)) ?_
        rintro v H' n' ⟨rfl, rfl, rfl⟩
        simp [go_sem]
        refine SC.use (w3 _ (by omega)) ?_
        rintro v H' n' ⟨rfl, rfl, rfl⟩
        simp [go_sem]
        refine SCallE.fz (bs := [.imm 1 ([q1, q2, q3].map itemsE) false]) (h2 := upS st s3 H) 1 (set_keep (fun j z e => by have := hUb s3 j z e; omega) look_same) ⟨?_, trivial⟩ ?_
        · exact sl_fz (es := [itemsE q1, itemsE q2, itemsE q3]) (lt_none (hUb s3) (by omega)) (by simp) (by rw [hset_at]; simp [SV.cells]) (by simp [SV.storable, SV.cells])
        refine PC.use hcc ?_
        simp [go_sem, Fz.same]
      · refine SP_of ?_
        simp [go_sem]
        have := ret_immU (h2 := upS st s3 H) (n' := m5) (v := itemsE (q1 ++ q2 ++ q3)) (hU s3) (Item.E.imm _ _ _ _) look_same
        simpa using this
    · have he : itemsG f sc (N + 1) id l mid s = partsG f (itemsG f sc N) mid l s := by rw [itemsG, if_neg hin]
      rw [he]
      refine SP_mid 0 (α := Unit) (fun _ => [(0, .fn (.func g) a b), (2, itemsE l), (4, .bool mid), (8, .iptr [intE sc.id, intE sc.a, intE sc.b])]) (fun _ => upS st s H) (fun _ m' => m ≤ m') ?_ (fun _ m' hm' => ?_)
      · by_cases c1 : id = sc.id
        · cases mid with
          | true => simp [go_sem, Fz.same, c1]
          | false =>
            simp [go_sem, c1]
            refine PC.use (c35 l hsz.1 htx) ?_
            by_cases a0 : 0 ≤ sc.a
            · by_cases ab : sc.a ≤ sc.b
              · have bl : ¬ sc.b ≤ (runLen l).1 := fun bl => hin (by simp [inScope, c1, a0, ab, bl])
                simp [go_sem, Fz.same, a0, ab, bl]
              · simp [go_sem, Fz.same, a0, ab]
            · simp [go_sem, Fz.same, a0]
        · simp [go_sem, Fz.same, c1]
      refine SP_mid 0 (α := Unit) (fun _ => [(10, itemsE (partsG f (itemsG f sc N) mid l s).1)]) (fun _ => upS st (partsG f (itemsG f sc N) mid l s).2 H) (fun _ m' => n ≤ m') ?_ (fun _ m' hm' => ?_)
      · have w := d190 (mid := mid) (sc := sc) C ih l hsz.1 (hparts l hl) s (H := upS st s H) (n := m') (by omega) has_up
        simp only [C.up2, Scope.enc] at w
        generalize partsG f (itemsG f sc N) mid l s = q at w ⊢
        obtain ⟨q, s1⟩ := q
        dsimp only at w ⊢
        simp [go_sem]
        refine SC.use w ?_
        rintro v H' n' ⟨rfl, rfl, rfl⟩
        simp [go_sem, Fz.same]
        omega
      · refine SP_of ?_
        simp [go_sem]
        have := ret_immU (h2 := upS st (partsG f (itemsG f sc N) mid l s).2 H) (n' := m') (v := itemsE (partsG f (itemsG f sc N) mid l s).1) (hU _) (Item.E.imm _ _ _ _) look_same
        simpa using this
end
section
variable {σ : Type} {st : σ → Nat → Option SObj} {n0 : Nat} {g : FuncId} {a b : List SV} {f : σ → SPart → Head × Bool × σ} {ok : Head → Prop} {sc : Scope}
def whole0 (f : σ → SPart → Head × Bool × σ) (sc : Scope) (N : Nat) (d : Document) (revs : List Rev) (s : σ) : Document × σ :=
  (⟨(itemsG f sc N 0 d.flow false s).1, (f (itemsG f sc N 0 d.flow false s).2 ⟨d.«end», false, 1⟩).1, revs, d.settings⟩, (f (itemsG f sc N 0 d.flow false s).2 ⟨d.«end», false, 1⟩).2.2)
theorem has_set {n : Nat} (hlt : ∀ s o, n ≤ o → st s o = none) {s : σ} {H : Hp} {p : Nat} (hp : n ≤ p) (y : Option SObj) (h : ∀ k z, st s k = some z → H k = some z) : ∀ k z, st s k = some z → hset H p y k = some z := fun k z e => by
  rw [hset_ne _ _ (by rintro rfl; rw [hlt s k hp] at e; cases e)]; exact h k z e
theorem hset_back {n p : Nat} (hp : n ≠ p) (X : Hp) (a b c : Option SObj) : hset (hset (hset X n a) p b) n c = hset (hset X n c) p b := by
  funext j; simp only [hset]; grind
def zDoc : List SV := [.imm 0 [] true, .imm 0 [] true, intE 0, intE 0, .imm 0 [] true, .imm 0 [] true, .imm 0 [] true, .imm 0 [] true, .imm 0 [] true, .imm 0 [] true, .imm 0 [] true]
set_option maxHeartbeats 2000000 in
theorem d49 (C : Clo st n0 g a b f ok) (hp : Head → Prop) (K : Nat) (hK : K ≤ 349525) (hok : ∀ h : Head, hp h → ok h ∧ h.sized) (N : Nat) (d : Document) (revs : List Rev) (s : σ) (hl : lim hp K N d.flow) (hend : hp d.«end»)
    (h1 : (whole0 f sc N d revs s).1.sized) (h2 : (whole0 f sc N d revs s).1.normal.sized) (h3 : (addU [] (Item.usL (runNormal (whole0 f sc N d revs s).1.flow) ++ (whole0 f sc N d revs s).1.«end».all)).length ≤ 1048576) {H : Hp} {n : Nat} (hn : n0 ≤ n) (hs : ∀ o y, st s o = some y → H o = some y) :
    SCall Tryz.prog 49 [.fn (.func g) a b, d.enc, sc.enc, revsE revs] H n (fun v h' n' => v = (whole0 f sc N d revs s).1.normal.enc ∧ h' = upS st (whole0 f sc N d revs s).2 H ∧ n' = n) := by
  refine goS Tryz.func49 rfl (by kernel_rfl) (by kernel_rfl) (by simp [go_sem]) fun ho => ?_
  have hU : ∀ s', Old (upS st s' H) n := fun s' => C.old s' hn ho
  have hUb : ∀ s' j y, upS st s' H j = some y → j < n := fun s' j y e => (hU s' j y e).1
  have e1 : n + 2 ≠ n := by omega
  have e2 : n ≠ n + 2 := by omega
  have hlive : ∀ s' y z, ∀ j w, upS st s' H j = some w → hset (hset (upS st s' H) n y) (n + 2) z j = some w := fun s' y z => set_keep (fun j z e => by have := hUb s' j z e; omega) (set_keep (hUb s') look_same)
  have hup : ∀ s1 s' y z, upS st s' (hset (hset (upS st s1 H) n y) (n + 2) z) = hset (hset (upS st s' H) n y) (n + 2) z := fun s1 s' y z => by rw [← C.hset _ _ (by omega), ← C.hset _ _ (by omega), C.up2]
  have hhas : ∀ s' y z, ∀ k w, st s' k = some w → hset (hset (upS st s' H) n y) (n + 2) z k = some w := fun s' y z => has_set C.lt (by omega) z (has_set C.lt hn y has_up)
  refine SP_mid 1 (α := Unit) (fun _ => [(0, .fn (.func g) a b), (3, revsE revs), (5, .ptr n 0), (6, .iptr [intE sc.id, intE sc.a, intE sc.b]), (8, .ptr (n + 2) 0)])
    (fun _ => hset (hset (upS st s H) n (some (.cells ([itemsE d.flow] ++ d.«end».flat ++ [revsE d.revs] ++ d.settings.flat)))) (n + 2) (some (.cells zDoc))) (fun _ m => m = n + 3) ?_ (fun _ m hm => ?_)
  · simp [go_sem, Scope.enc, Fz.same, upS_self s H hs, Document.enc, Head.flat, Settings.flat, Nat.add_assoc, zDoc]
    refine ⟨ptr_fz (by rw [hset_ne _ _ (by omega), hset_ne _ _ (by omega)]; exact ho.none (by omega)) (by simp [hset]), fun j y => ?_⟩
    have := ho j y; simp only [hset]; grind
  subst hm
  have c1 := d121 (sc := sc) C hp K hK hok N 0 d.flow false s
  simp only [whole0] at h1 h2 h3 ⊢
  generalize itemsG f sc N 0 d.flow false s = q at c1 h1 h2 h3 ⊢
  obtain ⟨q, s1⟩ := q
  dsimp only at c1 h1 h2 h3 ⊢
  refine SP_mid 0 (α := Unit) (fun _ => [(0, .fn (.func g) a b), (3, revsE revs), (5, .ptr n 0), (8, .ptr (n + 2) 0)])
    (fun _ => hset (hset (upS st s1 H) n (some (.cells ([itemsE q] ++ d.«end».flat ++ [revsE d.revs] ++ d.settings.flat)))) (n + 2) (some (.cells zDoc))) (fun _ m => n + 3 ≤ m) ?_ (fun _ m hm => ?_)
  · have c2 := fun y z m (hm : n ≤ m) => c1 (hset (hset (upS st s H) n y) (n + 2) z) m hl (by omega) (hhas s y z)
    simp only [hup, Scope.enc] at c2
    simp [go_sem, Head.flat, Settings.flat, hset_at, hset_ne]
    refine SC.use (c2 _ _ _ (by omega)) ?_
    rintro v H' n' ⟨rfl, rfl, rfl⟩
    simp [go_sem, Fz.same, hset_at, hset_ne, hset_back e2]
  have c3 := fun y z m (hm : n ≤ m) => C.call s1 ⟨d.«end», false, 1⟩ (hset (hset (upS st s1 H) n y) (n + 2) z) m (hok _ hend).1 (by omega) (hhas s1 y z)
  generalize f s1 ⟨d.«end», false, 1⟩ = r at c3 h1 h2 h3 ⊢
  obtain ⟨h', k, s2⟩ := r
  simp only [hup, SPart.enc, Head.flat, List.cons_append, List.nil_append, List.append_assoc] at c3
  dsimp only at c3 h1 h2 h3 ⊢
  refine SP_mid 0 (α := Unit) (fun _ => [(3, revsE revs), (5, .ptr n 0), (8, .ptr (n + 2) 0)])
    (fun _ => hset (hset (upS st s2 H) n (some (.cells ([itemsE q] ++ h'.flat ++ [revsE d.revs] ++ d.settings.flat)))) (n + 2) (some (.cells zDoc))) (fun _ m2 => m ≤ m2) ?_ (fun _ m2 hm2 => ?_)
  · simp [go_sem, Head.flat, Settings.flat, hset_at, hset_ne]
    refine SC.use (c3 _ _ _ (by omega)) ?_
    rintro v H' n' ⟨rfl, rfl, rfl⟩
    simp [go_sem, Fz.same, hset_at, hset_ne, hset_back e2, Head.enc, Head.flat]
  refine SP_mid 0 (α := Unit) (fun _ => [(5, .ptr n 0), (8, .ptr (n + 2) 0)])
    (fun _ => hset (hset (upS st s2 H) n (some (.cells ([itemsE q] ++ h'.flat ++ [revsE revs] ++ d.settings.flat)))) (n + 2) (some (.cells zDoc))) (fun _ m3 => m2 ≤ m3) ?_ (fun _ m3 hm3 => ?_)
  · simp [go_sem, Fz.same, Head.flat, Settings.flat, hset_at, hset_ne, hset_back e2]
  generalize hD : (⟨q, h', revs, d.settings⟩ : Document) = D at h1 h2 h3 ⊢
  have hDf : q = D.flow ∧ h' = D.«end» ∧ revs = D.revs ∧ d.settings = D.settings := by rw [← hD]; exact ⟨rfl, rfl, rfl, rfl⟩
  obtain ⟨f1, f2, f3, f4⟩ := hDf
  rw [f1, f2] at h3
  rw [f1, f2, f3, f4]
  refine SP_of ?_
  simp [go_sem, Head.flat, Settings.flat, hset_at, hset_ne]
  refine PC.use (by simpa [Document.enc, Head.flat, Settings.flat] using c21 D h1 h2 h3) ?_
  generalize hE : D.normal = E
  have hcl : closed n E.enc = true := by simp [Document.enc, Head.flat, Settings.flat, closed, closedL, Item.E.closedL, Prp.E.closedL, Del.E.closedL, Layer.E.closedL, Rev.E.closedL, Style.E.closedL, Lst.E.closedL, Comment.E.closedL, Var.E.closedL]
  simp [go_sem, Document.enc, Head.flat, Settings.flat, hset_at, zDoc]
  simp only [Document.enc, Head.flat, Settings.flat, List.cons_append, List.nil_append] at hcl
  exact ret_immU (hU s2) hcl (set_keep (fun j z e => by have := hUb s2 j z e; omega) (hlive s2 _ _))
end
section
variable {σ : Type} {st : σ → Nat → Option SObj} {n0 : Nat} {g : FuncId} {a b : List SV} {u : σ → SPart → σ} {ok : Head → Prop} {sc : Scope}
structure Vis (st : σ → Nat → Option SObj) (n0 : Nat) (g : FuncId) (a b : List SV) (u : σ → SPart → σ) (ok : Head → Prop) : Prop where
  lt : ∀ s o, n0 ≤ o → st s o = none
  dom : ∀ s s' o, st s o = none → st s' o = none
  cl : ∀ s o y, st s o = some y → closedO n0 y = true
  call : ∀ s p H n, ok p.head → n0 ≤ n → (∀ o y, st s o = some y → H o = some y) → SCall Tryz.prog g (a ++ [p.enc] ++ b) H n (fun v h' n' => v = .tup [] ∧ h' = upS st (u s p) H ∧ n' = n)
def lookF (u : σ → SPart → σ) (s : σ) (p : SPart) : Head × Bool × σ := (p.head, true, u s p)
theorem Vis.clo (C : Vis st n0 g a b u ok) : Clo st n0 112 [] [.iptr [.fn (.func g) a b]] (lookF u) ok where
  lt := C.lt
  dom := C.dom
  cl := C.cl
  call s p H n hp hn hs := by
    have Cx : Clo st n0 g a b (lookF u) (fun _ => False) := ⟨C.lt, C.dom, C.cl, fun s p H n h => h.elim⟩
    refine goS Tryz.func112 rfl (by kernel_rfl) (by kernel_rfl) (by simp [go_sem]) fun ho => ?_
    have hU : ∀ s', Old (upS st s' H) n := fun s' => Cx.old s' hn ho
    have hUb : ∀ s' j y, upS st s' H j = some y → j < n := fun s' j y e => (hU s' j y e).1
    have hc := C.call s p (hset H (n + 1) (some (.cells [.imm 0 [] true, intE 0, intE 0, .imm 0 [] true, .imm 0 [] true]))) (n + 2) hp (by omega) (has_set C.lt (by omega) _ hs)
    have hup : ∀ s' y, upS st s' (hset H (n + 1) y) = hset (upS st s' H) (n + 1) y := fun s' y => by rw [Cx.hset _ _ (by omega)]
    rw [hup] at hc
    refine SP_mid 1 (α := Unit) (fun _ => [(1, .iptr [.fn (.func g) a b]), (2, .iptr (p.head.flat ++ [.bool p.mid, intE p.units])), (3, .ptr (n + 1) 0)]) (fun _ => hset H (n + 1) (some (.cells [.imm 0 [] true, intE 0, intE 0, .imm 0 [] true, .imm 0 [] true]))) (fun _ m => m = n + 2) ?_ (fun _ m hm => ?_)
    · simp [go_sem, SPart.enc, Head.flat, Fz.same]
      refine ⟨ptr_fz (by rw [hset_ne _ _ (by omega)]; exact ho.none (Nat.le_refl n)) (by simp [hset]), fun j y => ?_⟩
      have := ho j y; simp only [hset]; grind
    subst hm
    refine SP_mid 0 (α := Unit) (fun _ => [(2, .iptr (p.head.flat ++ [.bool p.mid, intE p.units])), (3, .ptr (n + 1) 0)]) (fun _ => hset (upS st (u s p) H) (n + 1) (some (.cells [.imm 0 [] true, intE 0, intE 0, .imm 0 [] true, .imm 0 [] true]))) (fun _ m => n + 2 ≤ m) ?_ (fun _ m hm => ?_)
    · simp [go_sem, Head.flat]
      refine SC.use (by simpa [SPart.enc, Head.flat] using hc) ?_
      rintro v H' n' ⟨rfl, rfl, rfl⟩
      simp [go_sem, Fz.same]
    refine SP_of ?_
    simp [go_sem, Head.flat, hset_at, hset_two]
    have := ret_immU (h2 := hset (upS st (u s p) H) (n + 1) (some (.cells [propsE p.head.props, intE p.head.ins, intE p.head.move, delsE p.head.dels, layersE p.head.layers]))) (n' := m) (v := .tup [p.head.enc, .bool true]) (hU (u s p)) (by simp [closed, closedL, Head.enc, Head.flat, Prp.E.closedL, Del.E.closedL, Layer.E.closedL]) (set_keep (fun j z e => by have := hUb _ j z e; omega) look_same)
    simpa [Head.enc, Head.flat, lookF] using this
set_option maxHeartbeats 2000000 in
theorem d36 (C : Vis st n0 g a b u ok) (hp : Head → Prop) (K : Nat) (hK : K ≤ 349525) (hok : ∀ h : Head, hp h → ok h ∧ h.sized) (N : Nat) (d : Document) (s : σ) (hl : lim hp K N d.flow) (hend : hp d.«end»)
    (h1 : (whole0 (lookF u) sc N d d.revs s).1.sized) (h2 : (whole0 (lookF u) sc N d d.revs s).1.normal.sized) (h3 : (addU [] (Item.usL (runNormal (whole0 (lookF u) sc N d d.revs s).1.flow) ++ (whole0 (lookF u) sc N d d.revs s).1.«end».all)).length ≤ 1048576) {H : Hp} {n : Nat} (hn : n0 ≤ n) (hs : ∀ o y, st s o = some y → H o = some y) :
    SCall Tryz.prog 36 [d.enc, sc.enc, .fn (.func g) a b] H n (fun v h' n' => v = .tup [] ∧ h' = upS st (whole0 (lookF u) sc N d d.revs s).2 H ∧ n' = n) := by
  have Cx := C.clo
  refine goS Tryz.func36 rfl (by kernel_rfl) (by kernel_rfl) (by simp [go_sem]) fun ho => ?_
  have hU : ∀ s', Old (upS st s' H) n := fun s' => Cx.old s' hn ho
  refine SP_mid 1 (α := Unit) (fun _ => [(3, .iptr ([itemsE d.flow] ++ d.«end».flat ++ [revsE d.revs] ++ d.settings.flat)), (4, .iptr [intE sc.id, intE sc.a, intE sc.b]), (5, .iptr [.fn (.func g) a b])]) (fun _ => H) (fun _ m => n ≤ m) ?_ (fun _ m hm => ?_)
  · simp [go_sem, Scope.enc, Document.enc, Head.flat, Settings.flat, Nat.add_assoc]
    refine ⟨⟨ptr_fz (ho.none (by omega)) (by simp [hset]), ptr_fz (ho.none (by omega)) (by simp [hset]), ptr_fz (ho.none (by omega)) (by simp [hset])⟩, fun j y => ?_⟩
    have := ho j y; simp only [hset]; grind
  have c := d49 (sc := sc) Cx hp K hK hok N d d.revs s hl hend h1 h2 h3 (H := H) (n := m) (by omega) hs
  generalize (whole0 (lookF u) sc N d d.revs s).1.normal.enc = w at c
  generalize (whole0 (lookF u) sc N d d.revs s).2 = s2 at c ⊢
  refine SP_of ?_
  simp [go_sem, Head.flat, Settings.flat]
  refine SC.use (by simpa [Scope.enc, Document.enc, Head.flat, Settings.flat] using c) ?_
  rintro v H' n' ⟨rfl, rfl, rfl⟩
  simp [go_sem]
  exact ret_immU (hU s2) (by simp [closed, closedL]) look_same
end
def st2 (p q : Nat) (s : Int × Int) (o : Nat) : Option SObj := if o = p then some (.cells [intE s.1]) else if o = q then some (.cells [intE s.2]) else none
def cntU (rev : Int) (s : Int × Int) (x : SPart) : Int × Int :=
  if x.head.uses rev then if x.mid then (IntKind.i64.wrap (s.1 + x.units), s.2) else (s.1, IntKind.i64.wrap (s.2 + x.units)) else s
theorem st2_up {p q : Nat} (hpq : p ≠ q) (s : Int × Int) (H : Hp) : upS (st2 p q) s H = hset (hset H p (some (.cells [intE s.1]))) q (some (.cells [intE s.2])) := by
  funext o
  simp only [upS, st2, hset]
  by_cases h1 : o = p
  · subst h1; simp [hpq]
  · by_cases h2 : o = q
    · subst h2; simp [h1]
    · simp [h1, h2]
theorem v37 {p q n0 : Nat} (hpq : p ≠ q) (hp : p < n0) (hq : q < n0) (rev : Int) : Vis (st2 p q) n0 37 [] [.iptr [intE rev], .ptr p 0, .ptr q 0] (cntU rev) (fun h => h.sized ∧ h.revs.length ≤ 1048576) where
  lt s o h := by simp only [st2]; rw [if_neg (by omega), if_neg (by omega)]
  dom s s' o h := by
    simp only [st2] at h ⊢
    by_cases e1 : o = p
    · rw [if_pos e1] at h; cases h
    · by_cases e2 : o = q
      · rw [if_neg e1, if_pos e2] at h; cases h
      · rw [if_neg e1, if_neg e2]
  cl s o y h := by simp only [st2] at h; split at h <;> first | (cases h; simp [closedO, closed, closedL]) | (split at h <;> first | (cases h; simp [closedO, closed, closedL]) | cases h)
  call s x H n hx hn hs := by
    have a1 : H p = some (.cells [intE s.1]) := hs p _ (by simp [st2])
    have a2 : H q = some (.cells [intE s.2]) := hs q _ (by simp [st2, Ne.symm hpq])
    have b1 : p ≠ n := by omega
    have b2 : q ≠ n := by omega
    have hU : ∀ y1 y2, (∀ z, y1 = some z → closedO n z = true) → (∀ z, y2 = some z → closedO n z = true) → Old H n → Old (hset (hset H p y1) q y2) n := fun y1 y2 c1 c2 ho j z e => by
      simp only [hset] at e
      split at e
      · subst_vars; exact ⟨by omega, c2 z rfl⟩
      · split at e
        · subst_vars; exact ⟨by omega, c1 z rfl⟩
        · exact ho j z e
    refine goS Tryz.func37 rfl (by kernel_rfl) (by kernel_rfl) (by simp [go_sem]) fun ho => ?_
    refine SP_mid 1 (α := Unit) (fun _ => [(1, .iptr [intE rev]), (2, .ptr p 0), (3, .ptr q 0), (4, .iptr (x.head.flat ++ [.bool x.mid, intE x.units]))]) (fun _ => H) (fun _ m => n ≤ m) ?_ (fun _ m hm => ?_)
    · simp [go_sem, SPart.enc, Head.flat, Fz.same]
      refine ⟨ptr_fz (ho.none (Nat.le_refl n)) (by simp [hset]), set_keep (fun j z e => (ho j z e).1) look_same⟩
    refine SP_of ?_
    simp [go_sem, Head.flat]
    refine PC.use (by simpa [Head.enc, Head.flat] using c38 x.head hx.1 hx.2 rev) ?_
    rw [st2_up hpq]
    cases hu : x.head.uses rev with
    | false =>
      simp [go_sem]
      have hk : cntU rev s x = s := by simp [cntU, hu]
      rw [hk]
      have e : hset (hset H p (some (.cells [intE s.1]))) q (some (.cells [intE s.2])) = H := by
        funext j; simp only [hset]; split
        · subst_vars; exact a2.symm
        · split
          · subst_vars; exact a1.symm
          · rfl
      rw [e]
      exact ret_immU ho (by simp [closed, closedL]) look_same
    | true =>
      cases hmid : x.mid with
      | true =>
        have hk : cntU rev s x = (IntKind.i64.wrap (s.1 + x.units), s.2) := by simp [cntU, hu, hmid]
        rw [hk]
        simp [go_sem, a1]
        refine ret_immU (hU _ _ (by rintro z e; cases e; simp [closedO, closed, closedL]) (by rintro z e; cases e; simp [closedO, closed, closedL]) ho) (by simp [closed, closedL]) fun j y e => ?_
        simp only [hset] at e ⊢; grind
      | false =>
        have hk : cntU rev s x = (s.1, IntKind.i64.wrap (s.2 + x.units)) := by simp [cntU, hu, hmid]
        rw [hk]
        simp [go_sem, a2]
        refine ret_immU (hU _ _ (by rintro z e; cases e; simp [closedO, closed, closedL]) (by rintro z e; cases e; simp [closedO, closed, closedL]) ho) (by simp [closed, closedL]) fun j y e => ?_
        simp only [hset] at e ⊢; grind
def rangeBad (sc : Scope) (l : List Item) : Prop := sc.a < 0 ∨ sc.b < sc.a ∨ (runLen l).1 < sc.b
instance (sc : Scope) (l : List Item) : Decidable (rangeBad sc l) := by unfold rangeBad; infer_instance
def spCount (N : Nat) (d : Document) (rev : Int) (sc : Scope) : Int × Int × Int :=
  if (docFlow d sc.id).isSome = false then (0, 0, 8)
  else if rangeBad sc (((docFlow d sc.id).map Fl.items).getD []) then (0, 0, 2)
  else if (rvFind d.revs rev).2 = false then (0, 0, 22)
  else ((whole0 (lookF (cntU rev)) sc N d d.revs (0, 0)).2.1, (whole0 (lookF (cntU rev)) sc N d d.revs (0, 0)).2.2, 0)
def trE : Tr := .two 0 1 (.two 1 2 (.one 2 (.one 3 (.one 4 .nil))) (.one 1 (.one 3 (.one 4 .nil)))) (.one 0 (.one 2 (.one 3 (.one 4 .nil))))
set_option maxHeartbeats 2000000 in
theorem c13 (hp : Head → Prop) (K : Nat) (hK : K ≤ 349525) (hok : ∀ h : Head, hp h → (h.sized ∧ h.revs.length ≤ 1048576) ∧ h.sized) (N : Nat) (d : Document) (rev : Int) (sc : Scope) (hl : lim hp K N d.flow) (hend : hp d.«end») (hr : d.revs.length ≤ 1048576)
    (hfl : ∀ fl, docFlow d sc.id = some fl → fl.items.length ≤ 1048576 ∧ ∀ x ∈ fl.items, x.text.size ≤ 1048576)
    (h1 : (whole0 (lookF (cntU rev)) sc N d d.revs (0, 0)).1.sized) (h2 : (whole0 (lookF (cntU rev)) sc N d d.revs (0, 0)).1.normal.sized) (h3 : (addU [] (Item.usL (runNormal (whole0 (lookF (cntU rev)) sc N d d.revs (0, 0)).1.flow) ++ (whole0 (lookF (cntU rev)) sc N d d.revs (0, 0)).1.«end».all)).length ≤ 1048576) :
    PC 13 [d.enc, intE rev, sc.enc] (.tup [intE (spCount N d rev sc).1, intE (spCount N d rev sc).2.1, intE (spCount N d rev sc).2.2]) := by
  intro h n
  refine goS Tryz.func13 rfl (by kernel_rfl) (by kernel_rfl) (by simp [go_sem]) fun ho => ?_
  have e0 : n + 3 ≠ n + 4 := by omega
  have e1 : n + 4 ≠ n + 3 := by omega
  have hsz := hl.sized (fun h e => (hok h e).2) (by omega)
  refine SP_mid 1 (α := Unit) (fun _ => [(3, .iptr ([itemsE d.flow] ++ d.«end».flat ++ [revsE d.revs] ++ d.settings.flat)), (4, .iptr [intE rev]), (5, .iptr [intE sc.id, intE sc.a, intE sc.b]), (6, .ptr (n + 3) 0), (7, .ptr (n + 4) 0)]) (fun _ => upS (st2 (n + 3) (n + 4)) (0, 0) h) (fun _ m => n + 5 = m) ?_ (fun _ m hm => ?_)
  · rw [st2_up e0]
    simp [go_sem, Scope.enc, Document.enc, Head.flat, Settings.flat, Fz.same, Nat.add_assoc]
    refine ⟨⟨ptr_fz (by simp [hset]; exact ho.none (by omega)) (by simp [hset]), ptr_fz (by simp [hset]; exact ho.none (by omega)) (by simp [hset]), ptr_fz (by simp [hset]; exact ho.none (by omega)) (by simp [hset])⟩, fun j y => ?_⟩
    have := ho j y; simp only [hset]; grind
  subst hm
  have hend2 : ∀ (x y z : Int) (H : Hp), H (n + 3) = some (.cells [intE x]) → H (n + 4) = some (.cells [intE y]) → (∀ j w, j < n → h j = some w → H j = some w) → ∀ m, RetS n H m (.tup [intE x, intE y, intE z]) (Is (.tup [intE x, intE y, intE z]) h n) := fun x y z H _ _ hh m => retIs ho (fun j w e => hh j w (ho j w e).1 e) rfl (by simp [closed, closedL])
  have hold : ∀ s j w, j < n → h j = some w → upS (st2 (n + 3) (n + 4)) s h j = some w := fun s j w hj e => by simp only [upS, st2]; rw [if_neg (by omega), if_neg (by omega)]; exact e
  have g3 : ∀ s, upS (st2 (n + 3) (n + 4)) s h (n + 3) = some (.cells [intE s.1]) := fun s => by simp [upS, st2]
  have g4 : ∀ s, upS (st2 (n + 3) (n + 4)) s h (n + 4) = some (.cells [intE s.2]) := fun s => by simp [upS, st2]
  refine SP_mid 0 (α := Unit) (fun _ => [(3, .iptr ([itemsE d.flow] ++ d.«end».flat ++ [revsE d.revs] ++ d.settings.flat)), (4, .iptr [intE rev]), (5, .iptr [intE sc.id, intE sc.a, intE sc.b]), (6, .ptr (n + 3) 0), (7, .ptr (n + 4) 0), (9, itemsE (((docFlow d sc.id).map Fl.items).getD [])), (10, .bool (docFlow d sc.id).isSome)]) (fun _ => upS (st2 (n + 3) (n + 4)) (0, 0) h) (fun _ m => n + 5 ≤ m) ?_ (fun _ m hm => ?_)
  · simp [go_sem, Head.flat, Settings.flat]
    refine PC.use (by simpa [Document.enc, Head.flat, Settings.flat] using c34 d sc.id hsz.1 hsz.2) ?_
    simp [go_sem, Fz.same]
  cases hfd : docFlow d sc.id with
  | none =>
    have hc : spCount N d rev sc = (0, 0, 8) := by simp [spCount, hfd]
    rw [hc]
    refine SP_of ?_
    simp [go_sem, g3, g4, hset_at, hset_ne]
    refine hend2 0 0 8 _ ?_ ?_ ?_ _
    · simp [hset]
    · simp [hset]
    · intro j w hj e; rw [hset_ne _ _ (by omega), hset_ne _ _ (by omega)]; exact hold _ j w hj e
  | some fl =>
  obtain ⟨hfl1, hfl2⟩ := hfl fl hfd
  dsimp only [Option.map_some, Option.getD_some, Option.isSome_some]
  have hcs : spCount N d rev sc = if rangeBad sc fl.items then (0, 0, 2) else if (rvFind d.revs rev).2 = false then (0, 0, 22) else ((whole0 (lookF (cntU rev)) sc N d d.revs (0, 0)).2.1, (whole0 (lookF (cntU rev)) sc N d d.revs (0, 0)).2.2, 0) := by simp [spCount, hfd]
  refine SP_mid 0 (α := Unit) (fun _ => [(3, .iptr ([itemsE d.flow] ++ d.«end».flat ++ [revsE d.revs] ++ d.settings.flat)), (4, .iptr [intE rev]), (5, .iptr [intE sc.id, intE sc.a, intE sc.b]), (6, .ptr (n + 3) 0), (7, .ptr (n + 4) 0), (9, itemsE fl.items)]) (fun _ => upS (st2 (n + 3) (n + 4)) (0, 0) h) (fun _ m2 => m = m2) ?_ (fun _ m2 hm2 => ?_)
  · simp [go_sem, Fz.same]
  subst hm2
  by_cases hb : rangeBad sc fl.items
  · rw [if_pos hb] at hcs
    rw [hcs]
    refine SP_seq ?_
    refine SP_mid 0 (α := Unit) (fun _ => [(3, .iptr ([itemsE d.flow] ++ d.«end».flat ++ [revsE d.revs] ++ d.settings.flat)), (4, .iptr [intE rev]), (5, .iptr [intE sc.id, intE sc.a, intE sc.b]), (6, .ptr (n + 3) 0), (7, .ptr (n + 4) 0), (11, intE (runLen fl.items).1)]) (fun _ => upS (st2 (n + 3) (n + 4)) (0, 0) h) (fun _ m2 => m ≤ m2) ?_ (fun _ m2 hm2 => ?_)
    · simp [go_sem]
      refine PC.use (c35 fl.items hfl1 hfl2) ?_
      simp [go_sem, Fz.same]
    have fin : ∀ y1 y2 m', RetS n (hset (hset (upS (st2 (n + 3) (n + 4)) (0, 0) h) (n + 3) y1) (n + 4) y2) m' (.tup [intE 0, intE 0, intE 2]) (Is (.tup [intE 0, intE 0, intE 2]) h n) := fun y1 y2 m' =>
      retIs ho (fun j w e => by have := (ho j w e).1; rw [hset_ne _ _ (by omega), hset_ne _ _ (by omega)]; exact hold _ j w this e) rfl (by simp [closed, closedL])
    unfold rangeBad at hb
    refine SP_of ?_
    by_cases a0 : sc.a < 0
    · simp [go_sem, g3, g4, hset_at, hset_ne, a0]
      exact fin _ _ _
    · by_cases a1 : sc.b < sc.a
      · simp [go_sem, g3, g4, hset_at, hset_ne, a0, a1]
        exact fin _ _ _
      · have a2 : (runLen fl.items).1 < sc.b := by omega
        simp [go_sem, g3, g4, hset_at, hset_ne, a0, a1, a2]
        exact fin _ _ _
  rw [if_neg hb] at hcs
  refine SP_mid 0 (α := Unit) (fun _ => [(3, .iptr ([itemsE d.flow] ++ d.«end».flat ++ [revsE d.revs] ++ d.settings.flat)), (4, .iptr [intE rev]), (5, .iptr [intE sc.id, intE sc.a, intE sc.b]), (6, .ptr (n + 3) 0), (7, .ptr (n + 4) 0)]) (fun _ => upS (st2 (n + 3) (n + 4)) (0, 0) h) (fun _ m2 => m ≤ m2) ?_ (fun _ m2 hm2 => ?_)
  · unfold rangeBad at hb
    have a0 : ¬ sc.a < 0 := by omega
    have a1 : ¬ sc.b < sc.a := by omega
    have a2 : ¬ (runLen fl.items).1 < sc.b := by omega
    simp [go_sem]
    refine PC.use (c35 fl.items hfl1 hfl2) ?_
    simp [go_sem, Fz.same, a0, a1, a2]
  have cr := c20 d.revs hr rev
  generalize rvFind d.revs rev = rf at cr hcs
  obtain ⟨rf, kf⟩ := rf
  cases kf with
  | false =>
    have hcs2 : spCount N d rev sc = (0, 0, 22) := by simpa using hcs
    rw [hcs2]
    have fin : ∀ y1 y2 y3 m', n + 5 ≤ m' → ∀ q, m' ≤ q → ∀ m'', RetS n (hset (hset (hset (upS (st2 (n + 3) (n + 4)) (0, 0) h) q y3) (n + 3) y1) (n + 4) y2) m'' (.tup [intE 0, intE 0, intE 22]) (Is (.tup [intE 0, intE 0, intE 22]) h n) := fun y1 y2 y3 m' _ q _ m'' =>
      retIs ho (fun j w e => by have := (ho j w e).1; rw [hset_ne _ _ (by omega), hset_ne _ _ (by omega), hset_ne _ _ (by omega)]; exact hold _ j w this e) rfl (by simp [closed, closedL])
    refine SP_of ?_
    have q1 : n + 3 ≠ m2 := by omega
    have q2 : n + 4 ≠ m2 := by omega
    simp [go_sem, Head.flat, Settings.flat]
    refine PC.use cr ?_
    simp [go_sem, g3, g4, hset_at, hset_ne, hset_two, q1, q2, Rev.enc]
    exact fin _ _ _ m2 (by omega) _ (Nat.le_refl _) _
  | true =>
    have hcs2 : spCount N d rev sc = ((whole0 (lookF (cntU rev)) sc N d d.revs (0, 0)).2.1, (whole0 (lookF (cntU rev)) sc N d d.revs (0, 0)).2.2, 0) := by simpa using hcs
    rw [hcs2]
    clear hcs hcs2
    refine SP_mid 0 (α := Unit) (fun _ => [(3, .iptr ([itemsE d.flow] ++ d.«end».flat ++ [revsE d.revs] ++ d.settings.flat)), (4, .iptr [intE rev]), (5, .iptr [intE sc.id, intE sc.a, intE sc.b]), (6, .ptr (n + 3) 0), (7, .ptr (n + 4) 0)]) (fun _ => upS (st2 (n + 3) (n + 4)) (0, 0) h) (fun _ m3 => m2 ≤ m3) ?_ (fun _ m3 hm3 => ?_)
    · simp [go_sem, Head.flat, Settings.flat]
      refine PC.use cr ?_
      simp [go_sem, Fz.same, hset_at, hset_two, Rev.enc]
      exact set_keep (fun j z e => by
        simp only [upS, st2] at e
        by_cases x1 : j = n + 3
        · omega
        · by_cases x2 : j = n + 4
          · omega
          · rw [if_neg x1, if_neg x2] at e; have := (ho j z e).1; omega) look_same
    have c := d36 (sc := sc) (v37 (n0 := n + 5) e0 (by omega) (by omega) rev) hp K hK hok N d (0, 0) hl hend h1 h2 h3 (H := upS (st2 (n + 3) (n + 4)) (0, 0) h) (n := m3) (by omega) has_up
    generalize (whole0 (lookF (cntU rev)) sc N d d.revs (0, 0)).2 = s2 at c ⊢
    have hu2 : upS (st2 (n + 3) (n + 4)) s2 (upS (st2 (n + 3) (n + 4)) (0, 0) h) = upS (st2 (n + 3) (n + 4)) s2 h := (v37 (n0 := n + 5) e0 (by omega) (by omega) rev).clo.up2 _ _ _
    rw [hu2] at c
    refine SP_mid 0 (α := Unit) (fun _ => [(6, .ptr (n + 3) 0), (7, .ptr (n + 4) 0)]) (fun _ => upS (st2 (n + 3) (n + 4)) s2 h) (fun _ m4 => m3 ≤ m4) ?_ (fun _ m4 hm4 => ?_)
    · simp [go_sem, Head.flat, Settings.flat]
      refine SCallE.fz (bs := [d.enc, sc.enc, .fn (.func 37) [] [.iptr [intE rev], .ptr (n + 3) 0, .ptr (n + 4) 0]]) 1 look_same ?_ ?_
      · refine ⟨?_, ?_, ?_, trivial⟩
        · simp [Document.enc, Head.flat, Settings.flat, Fz.same]
        · simp [Scope.enc, Fz.same]
        · exact Fz.same
      refine SC.use c ?_
      rintro v H' n' ⟨rfl, rfl, rfl⟩
      simp [go_sem, Fz.same]
    have fin : ∀ y1 y2 m'', RetS n (hset (hset (upS (st2 (n + 3) (n + 4)) s2 h) (n + 3) y1) (n + 4) y2) m'' (.tup [intE s2.1, intE s2.2, intE 0]) (Is (.tup [intE s2.1, intE s2.2, intE 0]) h n) := fun y1 y2 m'' =>
      retIs ho (fun j w e => by have := (ho j w e).1; rw [hset_ne _ _ (by omega), hset_ne _ _ (by omega)]; exact hold _ j w this e) rfl (by simp [closed, closedL])
    refine SP_midS 0 (α := Unit) (fun _ => [(6, .ptr (n + 3) 0), (7, .ptr (n + 4) 0), (8, intE 0)]) (fun _ => upS (st2 (n + 3) (n + 4)) s2 h) (fun _ m5 => m4 ≤ m5) (SP_tr trE rfl (by kernel_rfl) (by kernel_rfl) ?_) (fun _ m5 hm5 => ?_)
    · have hset_back : hset (hset (upS (st2 (n + 3) (n + 4)) s2 h) (n + 3) (some (.cells [intE s2.1]))) (n + 4) (some (.cells [intE s2.2])) = upS (st2 (n + 3) (n + 4)) s2 h := by
        funext j; simp only [hset, upS, st2]; grind
      simp [go_sem, trE, Fz.same, g3, g4, hset_ne, hset_back]
    · refine SP_of ?_
      simp [go_sem, g3, g4]
      exact retIs ho (fun j w e => hold _ j w (ho j w e).1 e) rfl (by simp [closed, closedL])
section
variable {σ : Type} (f : σ → SPart → Head × Bool × σ) (fl : Int → List Item → Scope → Bool → σ → List Item × σ) (sc : Scope) (mid : Bool)
def lcellStep (q : List Cell × σ) (c : Cell) : List Cell × σ :=
  (if (f q.2 ⟨c.head, mid, 1⟩).2.1 then q.1 ++ [.mk c.id (f q.2 ⟨c.head, mid, 1⟩).1 (fl c.id c.flow sc mid (f q.2 ⟨c.head, mid, 1⟩).2.2).1] else q.1, (fl c.id c.flow sc mid (f q.2 ⟨c.head, mid, 1⟩).2.2).2)
def lcells (l : List Cell) (s : σ) : List Cell × σ := l.foldl (lcellStep f fl sc mid) ([], s)
def lrowG (x : Row) (s : σ) : Row × Bool × σ :=
  (.mk (f s ⟨x.head, mid, 1⟩).1 (lcells f fl sc mid x.cells (f s ⟨x.head, mid, 1⟩).2.2).1, (f s ⟨x.head, mid, 1⟩).2.1 && decide (0 < (lcells f fl sc mid x.cells (f s ⟨x.head, mid, 1⟩).2.2).1.length), (lcells f fl sc mid x.cells (f s ⟨x.head, mid, 1⟩).2.2).2)
def lrowStep (q : List Row × σ) (x : Row) : List Row × σ := (if (lrowG f fl sc mid x q.2).2.1 then q.1 ++ [(lrowG f fl sc mid x q.2).1] else q.1, (lrowG f fl sc mid x q.2).2.2)
def lrows (l : List Row) (s : σ) : List Row × σ := l.foldl (lrowStep f fl sc mid) ([], s)
def lin (x : Item) (s : σ) : List Item × σ := if x.kind = 6 then fl x.id x.flow sc mid s else (x.flow, s)
def lstep (q : List Item × σ) (x : Item) : List Item × σ :=
  let r := f q.2 ⟨x.head, mid, (runLen [x]).1⟩
  let w := lin fl sc mid x r.2.2
  let v := lrows f fl sc mid x.rows w.2
  (if r.2.1 && !(decide (x.kind = 7) && decide (v.1.length = 0)) then q.1 ++ [x.put r.1 w.1 v.1] else q.1, v.2)
def llist (l : List Item) (s : σ) : List Item × σ := l.foldl (lstep f fl sc mid) ([], s)
end
def noScope : Scope := ⟨-1, 0, 0⟩
def lflow {σ : Type} (f : σ → SPart → Head × Bool × σ) : Nat → Int → List Item → Scope → Bool → σ → List Item × σ
  | 0, _, _, _, _, s => ([], s)
  | N + 1, id, l, sc, mid, s =>
    if id = sc.id ∧ mid = false then
      let p1 := llist f (lflow f N) noScope false (runSlice l 0 sc.a).1 s
      let p2 := llist f (lflow f N) noScope true (runSlice l sc.a sc.b).1 p1.2
      let p3 := llist f (lflow f N) noScope false (runSlice l sc.b (runLen l).1).1 p2.2
      (p1.1 ++ p2.1 ++ p3.1, p3.2)
    else llist f (lflow f N) sc mid l s
section
variable {σ : Type} {f : σ → SPart → Head × Bool × σ} {fl : Int → List Item → Scope → Bool → σ → List Item × σ} {sc : Scope} {mid : Bool}
theorem lcells_len (l : List Cell) (z : List Cell × σ) : (l.foldl (lcellStep f fl sc mid) z).1.length ≤ z.1.length + l.length := by
  induction l generalizing z with
  | nil => simp
  | cons a l ih =>
    have := ih (lcellStep f fl sc mid z a)
    have h2 : (lcellStep f fl sc mid z a).1.length ≤ z.1.length + 1 := by unfold lcellStep; dsimp only; split <;> simp
    simp only [List.foldl_cons, List.length_cons]; omega
theorem lrows_len (l : List Row) (z : List Row × σ) : (l.foldl (lrowStep f fl sc mid) z).1.length ≤ z.1.length + l.length := by
  induction l generalizing z with
  | nil => simp
  | cons a l ih =>
    have := ih (lrowStep f fl sc mid z a)
    have h2 : (lrowStep f fl sc mid z a).1.length ≤ z.1.length + 1 := by unfold lrowStep; dsimp only; split <;> simp
    simp only [List.foldl_cons, List.length_cons]; omega
theorem llist_len (l : List Item) (z : List Item × σ) : (l.foldl (lstep f fl sc mid) z).1.length ≤ z.1.length + l.length := by
  induction l generalizing z with
  | nil => simp
  | cons a l ih =>
    have := ih (lstep f fl sc mid z a)
    have h2 : (lstep f fl sc mid z a).1.length ≤ z.1.length + 1 := by unfold lstep; dsimp only; split <;> simp
    simp only [List.foldl_cons, List.length_cons]; omega
end
section
variable {σ : Type}
structure LClo (st : σ → Nat → Option SObj) (n0 : Nat) (g : FuncId) (a b : List SV) (f : σ → SPart → Head × Bool × σ) (ok : Head → Prop) : Prop where
  lt : ∀ s o, n0 ≤ o → st s o = none
  dom : ∀ s s' o, st s o = none → st s' o = none
  cl : ∀ s o y, st s o = some y → closedO n0 y = true
  call : ∀ s p H n, ok p.head → n0 ≤ n → (∀ o y, st s o = some y → H o = some y) → SCall Tryz.prog g (a ++ [p.head.enc, intE p.units, .bool p.mid] ++ b) H n (fun v h' n' => v = .tup [(f s p).1.enc, .bool (f s p).2.1] ∧ h' = upS st (f s p).2.2 H ∧ n' = n)
variable {st : σ → Nat → Option SObj} {n0 : Nat} {g : FuncId} {a b : List SV} {f : σ → SPart → Head × Bool × σ} {ok : Head → Prop}
theorem LClo.cx (C : LClo st n0 g a b f ok) : Clo st n0 g a b f (fun _ => False) := ⟨C.lt, C.dom, C.cl, fun _ _ _ _ h => h.elim⟩
variable {fl : Int → List Item → Scope → Bool → σ → List Item × σ} {mid : Bool} {P : List Item → Prop} {sc : Scope}
def FlC (st : σ → Nat → Option SObj) (n0 : Nat) (g : FuncId) (a b : List SV) (fl : Int → List Item → Scope → Bool → σ → List Item × σ) (P : List Item → Prop) : Prop :=
  ∀ id l sc mid s H n, P l → n0 ≤ n → (∀ o y, st s o = some y → H o = some y) → SCall Tryz.prog 115 [itemsE l, intE id, sc.enc, .bool mid, .fn (.func g) a b] H n (fun v h' n' => v = itemsE (fl id l sc mid s).1 ∧ h' = upS st (fl id l sc mid s).2 H ∧ n' = n)
def zRow : List SV := [.imm 0 [] true, intE 0, intE 0, .imm 0 [] true, .imm 0 [] true, .imm 0 [] true]
theorem acc_mono {h h' : Hp} {o : Option Nat} {es : List SV} (hh : ∀ j y, h j = some y → h' j = some y) : ∀ j y, AccH o es h j = some y → AccH o es h' j = some y := fun j y e => by
  cases o with
  | none => exact hh j y e
  | some k =>
    simp only [AccH, hset] at e ⊢
    split at e
    · rename_i c; rw [if_pos c]; exact e
    · rename_i c; rw [if_neg c]; exact hh j y e
set_option maxHeartbeats 2000000 in
theorem d181 (C : LClo st n0 g a b f ok) (hfl : FlC st n0 g a b fl P) (x : Row) (hx : ok x.head ∧ x.cells.length ≤ 1048576 ∧ ∀ c ∈ x.cells, ok c.head ∧ P c.flow) (s : σ) {H : Hp} {n : Nat} (hn : n0 ≤ n) (hs : ∀ o y, st s o = some y → H o = some y) :
    SCall Tryz.prog 181 [x.enc, sc.enc, .bool mid, .fn (.func g) a b] H n (fun v h' n' => v = .tup [(lrowG f fl sc mid x s).1.enc, .bool (lrowG f fl sc mid x s).2.1] ∧ h' = upS st (lrowG f fl sc mid x s).2.2 H ∧ n' = n) := by
  have D := C.cx
  refine goS Tryz.func181 rfl (by kernel_rfl) (by kernel_rfl) (by simp [go_sem]) fun ho => ?_
  obtain ⟨x1, x2, x3⟩ := hx
  have hU : ∀ s', Old (upS st s' H) n := fun s' => D.old s' hn ho
  have hUb : ∀ s' j y, upS st s' H j = some y → j < n := fun s' j y e => (hU s' j y e).1
  have hRb : ∀ s' j y, hset (upS st s' H) (n + 2) (some (.cells zRow)) j = some y → j < n + 3 := fun s' j y e => by
    simp only [hset] at e
    split at e
    · omega
    · have := hUb s' j y e; omega
  have hup : ∀ s1 s' z, upS st s' (hset (upS st s1 H) (n + 2) z) = hset (upS st s' H) (n + 2) z := fun s1 s' z => by rw [← D.hset _ _ (by omega), D.up2]
  have hhas : ∀ s' z, ∀ k w, st s' k = some w → hset (upS st s' H) (n + 2) z k = some w := fun s' z => has_set C.lt (by omega) z has_up
  refine SP_mid 1 (α := Unit) (fun _ => [(2, .bool mid), (3, .fn (.func g) a b), (4, .iptr (x.head.flat ++ [cellsE x.cells])), (5, .iptr [intE sc.id, intE sc.a, intE sc.b]), (8, .ptr (n + 2) 0)]) (fun _ => hset (upS st s H) (n + 2) (some (.cells zRow))) (fun _ m => n + 3 = m) ?_ (fun _ m hm => ?_)
  · simp [go_sem, Scope.enc, Row.enc_eq, Head.flat, Fz.same, upS_self s H hs, zRow, Nat.add_assoc]
    refine ⟨⟨ptr_fz (by rw [hset_ne _ _ (by omega)]; exact ho.none (by omega)) (by simp [hset]), ptr_fz (by rw [hset_ne _ _ (by omega)]; exact ho.none (by omega)) (by simp [hset])⟩, fun j y => ?_⟩
    have := ho j y; simp only [hset]; grind
  subst hm
  have hcall := fun z => C.call s ⟨x.head, mid, 1⟩ (hset (upS st s H) (n + 2) z) (n + 3) x1 (by omega) (hhas s z)
  simp only [lrowG]
  generalize f s ⟨x.head, mid, 1⟩ = r at hcall ⊢
  obtain ⟨h', k, s1⟩ := r
  dsimp only at hcall ⊢
  simp only [hup, List.cons_append, List.nil_append, List.append_assoc] at hcall
  refine SP_mid 1 (α := Unit) (fun _ => [(2, .bool mid), (3, .fn (.func g) a b), (4, .iptr (x.head.flat ++ [cellsE x.cells])), (5, .iptr [intE sc.id, intE sc.a, intE sc.b]), (8, .ptr (n + 2) 0), (10, .iptr h'.flat), (11, .bool k)]) (fun _ => hset (upS st s1 H) (n + 2) (some (.cells zRow))) (fun _ m => n + 3 ≤ m) ?_ (fun _ m hm => ?_)
  · simp [go_sem, Head.flat]
    refine SC.use (by simpa [Head.enc, Head.flat] using hcall _) ?_
    rintro v H' n' ⟨rfl, rfl, rfl⟩
    simp [go_sem, Fz.same, hset_at]
    exact ⟨ptr_fz (lt_none (hRb _) (Nat.le_refl _)) (hset_at _ _ _), set_keep (hRb _) (set_keep (hRb _) look_same)⟩
  obtain ⟨Q, hQ⟩ : ∃ Q : Nat → List Cell × σ, ∀ i, Q i = (x.cells.take i).foldl (lcellStep f fl sc mid) ([], s1) := ⟨_, fun _ => rfl⟩
  have hQ0 : Q 0 = ([], s1) := by rw [hQ]; rfl
  have hQs : ∀ i y, (h : i < x.cells.length) → x.cells[i] = y → Q (i + 1) = lcellStep f fl sc mid (Q i) y := fun i y h hy => by rw [hQ, hQ, foldl_take _ _ _ _ _ h hy]
  have hQl : Q x.cells.length = lcells f fl sc mid x.cells s1 := by rw [hQ, List.take_length]; rfl
  have hQn : ∀ i, (Q i).1.length ≤ i := fun i => by rw [hQ]; have := lcells_len (f := f) (fl := fl) (sc := sc) (mid := mid) (x.cells.take i) ([], s1); simp at this; omega
  clear hQ
  refine SP_mid 0 (α := Nat) (fun p => [(2, .bool mid), (3, .fn (.func g) a b), (4, .iptr (x.head.flat ++ [cellsE x.cells])), (5, .iptr [intE sc.id, intE sc.a, intE sc.b]), (8, .ptr (n + 2) 0), (11, .bool k), (12, .ptr p 0)]) (fun p => hset (hset (upS st s1 H) (n + 2) (some (.cells zRow))) p (some (.cells (h'.flat ++ [AccV 7 none []])))) (fun p m2 => n + 3 ≤ p ∧ p + 1 = m2) ?_ (fun p m2 hm2 => ?_)
  · simp [go_sem, Fz.same, Head.flat, hset_at, hset_two, AccV]
    exact ⟨m, ⟨hm, rfl⟩, rfl, look_same⟩
  obtain ⟨hp1, rfl⟩ := hm2
  obtain ⟨B, hB⟩ : ∃ B : σ → SV → Hp, ∀ s' v, B s' v = hset (hset (upS st s' H) (n + 2) (some (.cells zRow))) p (some (.cells (h'.flat ++ [v]))) := ⟨_, fun _ _ => rfl⟩
  have hBp : ∀ s' v, B s' v p = some (.cells (h'.flat ++ [v])) := fun s' v => by rw [hB, hset_at]
  have hBb : ∀ s' v j y, B s' v j = some y → j < p + 1 := fun s' v j y e => by
    rw [hB] at e
    by_cases h : j = p
    · omega
    · rw [hset_ne _ _ h] at e; have := hRb s' j y e; omega
  have hBu : ∀ s1 s' v, upS st s' (B s1 v) = B s' v := fun s1 s' v => by rw [hB, hB, ← D.hset _ _ (by omega), hup]
  have hBh : ∀ s' v, ∀ k w, st s' k = some w → B s' v k = some w := fun s' v => by rw [hB]; exact has_set C.lt (by omega) _ (hhas s' _)
  refine SP_midS 2 (α := Unit) (fun _ => [(8, .ptr (n + 2) 0), (11, .bool k), (12, .iptr (h'.flat ++ [cellsE (lcells f fl sc mid x.cells s1).1]))]) (fun _ => hset (upS st (lcells f fl sc mid x.cells s1).2 H) (n + 2) (some (.cells zRow))) (fun _ m => p + 1 ≤ m) ?_ (fun _ m3 hm3 => ?_)
  · refine SP_mid 0 (α := Unit) (fun _ => [(2, .bool mid), (3, .fn (.func g) a b), (4, .iptr (x.head.flat ++ [cellsE x.cells])), (5, .iptr [intE sc.id, intE sc.a, intE sc.b]), (8, .ptr (n + 2) 0), (11, .bool k), (12, .ptr p 0), (13, intE 0)]) (fun _ => B s1 (AccV 7 none [])) (fun _ m => p + 1 = m) ?_ (fun _ m4 hm4 => ?_)
    · simp [go_sem, Fz.same, hB]
    subst hm4
    refine SP_block (goloopS 0 (α := Nat × Option Nat) (fun q => [(2, .bool mid), (3, .fn (.func g) a b), (4, .iptr (x.head.flat ++ [cellsE x.cells])), (5, .iptr [intE sc.id, intE sc.a, intE sc.b]), (8, .ptr (n + 2) 0), (11, .bool k), (12, .ptr p 0), (13, intE q.1)])
      (fun q => AccH q.2 ((Q q.1).1.map Cell.enc) (B (Q q.1).2 (AccV 7 q.2 ((Q q.1).1.map Cell.enc)))) (fun q m => q.1 ≤ x.cells.length ∧ p + 1 ≤ m ∧ AccI (p + 1) m 7 q.2 ((Q q.1).1.map Cell.enc)) (fun q => x.cells.length - q.1) (0, none) ⟨Nat.zero_le _, Nat.le_refl _, by simp only [hQ0]; exact AccI.nil _ _ _⟩ ?_ ?_ ?_)
    · simp [go_sem, look, Fz.same]
    · simp only [hQ0]; exact look_same
    rintro ⟨j, o2⟩ m4 ⟨hj, hm4, hA2⟩
    dsimp only at hj hA2 ⊢
    have hCn : ((Q j).1.map Cell.enc).length ≤ j := by rw [List.length_map]; exact hQn j
    by_cases hjt : j < x.cells.length
    · obtain ⟨y, hy⟩ : ∃ y, x.cells[j] = y := ⟨_, rfl⟩
      have hym : y ∈ x.cells := by rw [← hy]; exact List.getElem_mem hjt
      obtain ⟨y1, y2⟩ := x3 y hym
      have hqt := hQs j y hjt hy
      have w2 : IntKind.i64.wrap ((j : Int) + 1) = ((j + 1 : Nat) : Int) := by rw [wr64] <;> omega
      generalize hSj : (Q j).2 = sj at hqt
      generalize hGj : (Q j).1.map Cell.enc = G at hA2 hCn ⊢
      generalize hV : AccV 7 o2 G = V
      have hYb : ∀ s' j y, AccH o2 G (B s' V) j = some y → j < m4 := fun s' => acc_lt (hBb s' V) hm4 hA2
      refine SP_mid 0 (α := Unit) (fun _ => [(2, .bool mid), (3, .fn (.func g) a b), (4, .iptr (x.head.flat ++ [cellsE x.cells])), (5, .iptr [intE sc.id, intE sc.a, intE sc.b]), (8, .ptr (n + 2) 0), (11, .bool k), (12, .ptr p 0), (13, intE j)]) (fun _ => AccH o2 G (B sj V)) (fun _ m' => m4 = m') ?_ (fun _ m' hm' => ?_)
      · simp [go_sem, Fz.same, hjt, Head.flat]
      subst hm'
      refine SP_midS 0 (α := Option Nat) (fun o2 => [(2, .bool mid), (3, .fn (.func g) a b), (4, .iptr (x.head.flat ++ [cellsE x.cells])), (5, .iptr [intE sc.id, intE sc.a, intE sc.b]), (8, .ptr (n + 2) 0), (11, .bool k), (12, .ptr p 0), (13, intE j)]) (fun o2 => AccH o2 ((Q (j + 1)).1.map Cell.enc) (B (Q (j + 1)).2 (AccV 7 o2 ((Q (j + 1)).1.map Cell.enc)))) (fun o2 m => p + 1 ≤ m ∧ AccI (p + 1) m 7 o2 ((Q (j + 1)).1.map Cell.enc)) ?_ (fun o2 m hm => ?_)
      · refine SP_block ?_
        refine SP_mid 0 (α := Unit) (fun _ => [(2, .bool mid), (3, .fn (.func g) a b), (4, .iptr (x.head.flat ++ [cellsE x.cells])), (5, .iptr [intE sc.id, intE sc.a, intE sc.b]), (8, .ptr (n + 2) 0), (11, .bool k), (12, .ptr p 0), (13, intE j), (14, .ptr m4 0)]) (fun _ => hset (AccH o2 G (B sj V)) m4 (some (.cells ([intE y.id] ++ y.head.flat ++ [itemsE y.flow])))) (fun _ m5 => m4 + 1 = m5) ?_ (fun _ m5 hm5 => ?_)
        · simp [go_sem, Fz.same, hjt, hy, Cell.enc_eq, Head.flat, hset_at, hset_two]
        subst hm5
        have hZb : ∀ s' z j y, hset (AccH o2 G (B s' V)) m4 z j = some y → j < m4 + 1 := fun s' z j y e => by
          by_cases h : j = m4
          · omega
          · rw [hset_ne _ _ h] at e; have := hYb s' j y e; omega
        have hZu : ∀ s1 s' z, upS st s' (hset (AccH o2 G (B s1 V)) m4 z) = hset (AccH o2 G (B s' V)) m4 z := fun s1 s' z => by rw [← D.hset _ _ (by omega), D.acc (by omega) hA2, hBu]
        have hZh : ∀ s' z, ∀ k w, st s' k = some w → hset (AccH o2 G (B s' V)) m4 z k = some w := fun s' z => has_set C.lt (by omega) _ (D.has (by omega) hA2 (hBh s' V))
        have hcall2 := fun z m (hm : n0 ≤ m) => C.call sj ⟨y.head, mid, 1⟩ (hset (AccH o2 G (B sj V)) m4 z) m y1 hm (hZh sj z)
        simp only [lcellStep, hSj] at hqt
        generalize f sj ⟨y.head, mid, 1⟩ = r2 at hcall2 hqt
        obtain ⟨h2, k2, s2⟩ := r2
        dsimp only at hcall2 hqt
        simp only [hZu, List.cons_append, List.nil_append, List.append_assoc] at hcall2
        refine SP_mid 1 (α := Unit) (fun _ => [(2, .bool mid), (3, .fn (.func g) a b), (4, .iptr (x.head.flat ++ [cellsE x.cells])), (5, .iptr [intE sc.id, intE sc.a, intE sc.b]), (8, .ptr (n + 2) 0), (11, .bool k), (12, .ptr p 0), (13, intE j), (14, .ptr m4 0), (15, .iptr h2.flat), (16, .bool k2)]) (fun _ => hset (AccH o2 G (B s2 V)) m4 (some (.cells ([intE y.id] ++ y.head.flat ++ [itemsE y.flow])))) (fun _ m6 => m4 + 1 ≤ m6) ?_ (fun _ m6 hm6 => ?_)
        · simp [go_sem, Head.flat, hset_at]
          refine SC.use (by simpa [Head.enc, Head.flat] using hcall2 _ _ (by omega)) ?_
          rintro v H' n' ⟨rfl, rfl, rfl⟩
          simp [go_sem, Fz.same, hset_at]
          exact ⟨ptr_fz (lt_none (hZb _ _) (Nat.le_refl _)) (hset_at _ _ _), set_keep (hZb _ _) (set_keep (hZb _ _) look_same)⟩
        refine SP_mid 0 (α := Unit) (fun _ => [(2, .bool mid), (3, .fn (.func g) a b), (4, .iptr (x.head.flat ++ [cellsE x.cells])), (5, .iptr [intE sc.id, intE sc.a, intE sc.b]), (8, .ptr (n + 2) 0), (11, .bool k), (12, .ptr p 0), (13, intE j), (14, .ptr m4 0), (16, .bool k2)]) (fun _ => hset (AccH o2 G (B s2 V)) m4 (some (.cells ([intE y.id] ++ h2.flat ++ [itemsE y.flow])))) (fun _ m7 => m6 = m7) ?_ (fun _ m7 hm7 => ?_)
        · simp [go_sem, Fz.same, Head.flat, hset_at, hset_two]
        subst hm7
        have hc3 := fun z m (hm : n0 ≤ m) => hfl y.id y.flow sc mid s2 (hset (AccH o2 G (B s2 V)) m4 z) m y2 hm (hZh s2 z)
        generalize fl y.id y.flow sc mid s2 = r3 at hc3 hqt
        obtain ⟨q3, s3⟩ := r3
        dsimp only at hc3 hqt
        simp only [hZu, Scope.enc] at hc3
        refine SP_mid 1 (α := Unit) (fun _ => [(2, .bool mid), (3, .fn (.func g) a b), (4, .iptr (x.head.flat ++ [cellsE x.cells])), (5, .iptr [intE sc.id, intE sc.a, intE sc.b]), (8, .ptr (n + 2) 0), (11, .bool k), (12, .ptr p 0), (13, intE j), (14, .iptr ([intE y.id] ++ h2.flat ++ [itemsE q3])), (16, .bool k2)]) (fun _ => AccH o2 G (B s3 V)) (fun _ m7 => m6 ≤ m7) ?_ (fun _ m7 hm7 => ?_)
        · simp [go_sem, Head.flat, hset_at]
          refine SC.use (hc3 _ _ (by omega)) ?_
          rintro v H' n' ⟨rfl, rfl, rfl⟩
          simp [go_sem, Fz.same, hset_at, hset_two]
          exact ⟨ptr_fz (lt_none (hYb _) (Nat.le_refl _)) (hset_at _ _ _), set_keep (hYb _) look_same⟩
        rw [hqt]
        cases k2 with
        | false =>
          simp only [Bool.false_eq_true, if_false, hGj]
          refine SP_of ?_
          simp [go_sem, Fz.same]
          exact ⟨o2, ⟨by omega, hA2.mono (by omega)⟩, by rw [hV]; exact look_same⟩
        | true =>
          simp only [if_true, List.map_append, hGj, List.map_cons, List.map_nil]
          clear hqt hc3 hcall2
          subst hV
          have hpA : (AccH o2 G (B s3 (AccV 7 o2 G))) p = some (.cells [propsE h'.props, intE h'.ins, intE h'.move, delsE h'.dels, layersE h'.layers, AccV 7 o2 G]) := by
            cases o2 with
            | none => exact hBp _ _
            | some q => have := (hA2.lt q rfl).1; simp only [AccH]; rw [hset_ne _ _ (by omega)]; exact hBp _ _
          have pm : p ≠ m7 := by omega
          have pm1 : p ≠ m7 + 1 := by omega
          have hpush := hA2.push (j := m7 + 1) (m' := m7 + 1 + 1) (e := (Cell.mk y.id h2 q3).enc) (Cell.E.st _) (Cell.E.len _) (by omega) (by omega)
          have hap := fun (X : Hp) (a1 : X m7 = some (.cells (Cell.mk y.id h2 q3).enc.cells)) (a2 : ∀ j, o2 = some j → X j = some (.cells (G.flatMap SV.cells))) => app1g (P := Tryz.prog) (H := X) (k := m7) (es := G) (e := (Cell.mk y.id h2 q3).enc) (o := o2) (t := 167) (t2 := 167) (el := 171) (z := 7) (by simp [go_sem]) (by simp [go_sem]) (by simp [go_sem]) (by simp) (by simp [go_sem]) (by simp [go_sem]) (by simp [go_sem]) (by omega) hA2 (Cell.E.len _) a1 a2 (m7 + 1)
          have hvv : AccV 7 (some (m7 + 1)) (G ++ [(Cell.mk y.id h2 q3).enc]) = .sl (m7 + 1) 0 7 (G.length + 1) false := by simp [AccV]
          have hX0 : ∀ j w, hset (upS st s3 H) (n + 2) (some (.cells zRow)) j = some w → AccH o2 G (B s3 (AccV 7 o2 G)) j = some w := fun j w e => by
            have := hRb s3 j w e
            refine acc_old (hBb s3 _) hA2 j w ?_
            rw [hB, hset_ne _ _ (by omega)]; exact e
          have hlive := acc_live' (n := p + 1) (p := m7 + 1) (v := .sl (m7 + 1) 0 7 (G.length + 1) false) (e := (Cell.mk y.id h2 q3).enc) (fun j w e => by have := hRb s3 j w e; omega) (by omega) hA2 (H := hset (AccH o2 G (B s3 (AccV 7 o2 G))) m7 (some (.cells [intE y.id, propsE h2.props, intE h2.ins, intE h2.move, delsE h2.dels, layersE h2.layers, itemsE q3]))) (set_keep (fun j z e => by have := hRb s3 j z e; omega) hX0)
          have hfin : ∀ X : Hp, (∀ j w, AccH (some (m7 + 1)) (G ++ [(Cell.mk y.id h2 q3).enc]) (hset (upS st s3 H) (n + 2) (some (.cells zRow))) j = some w → X j = some w) → ∀ j w, AccH (some (m7 + 1)) (G ++ [(Cell.mk y.id h2 q3).enc]) (B s3 (.sl (m7 + 1) 0 7 (G.length + 1) false)) j = some w → hset X p (some (.cells [propsE h'.props, intE h'.ins, intE h'.move, delsE h'.dels, layersE h'.layers, .sl (m7 + 1) 0 7 (G.length + 1) false])) j = some w := fun X hX j w e => by
            by_cases h : j = p
            · subst h
              simp only [AccH] at e
              rw [hset_ne _ _ pm1, hBp] at e
              rw [hset_at]; exact e
            · rw [hset_ne _ _ h]
              refine hX j w ?_
              simp only [AccH] at e ⊢
              by_cases h2 : j = m7 + 1
              · subst h2; rw [hset_at] at e ⊢; exact e
              · rw [hset_ne _ _ h2] at e ⊢; rw [hB, hset_ne _ _ h] at e; exact e
          refine SP_of ?_
          rcases o2 with _ | q
          · simp [go_sem, Head.flat, hpA]
            rw [hap _ (by simp [hset_at, Cell.enc_eq, SV.cells, Cell.id, Cell.head, Cell.flow]) (by simp)]
            simp [go_sem, hset_ne, pm, pm1, hpA]
            refine ⟨some (m7 + 1), ⟨by omega, hpush⟩, ?_⟩
            rw [hvv]
            refine hfin _ ?_
            simpa [Out.app, SV.cells] using hlive
          · have hq := hA2.lt q rfl
            have pq : p ≠ q := by omega
            have qm : q ≠ m7 := by omega
            simp [go_sem, Head.flat, hpA]
            rw [hap _ (by simp [hset_at, Cell.enc_eq, SV.cells, Cell.id, Cell.head, Cell.flow]) (by rintro j e; cases e; rw [hset_ne _ _ qm]; exact acc_at q rfl)]
            simp [go_sem, hset_ne, pm, pm1, pq, hpA]
            refine ⟨some (m7 + 1), ⟨by omega, hpush⟩, ?_⟩
            rw [hvv]
            refine hfin _ ?_
            simpa [Out.app, SV.cells] using hlive
      · refine SP_of ?_
        simp [go_sem, w2, Fz.same, -Int.natCast_add]
        exact ⟨j + 1, by omega, o2, ⟨by omega, hm.1, hm.2⟩, rfl, look_same⟩
    · have : j = x.cells.length := by omega
      subst this
      rw [hQl] at hA2 ⊢
      refine SP_of ?_
      simp [go_sem, Fz.same, Head.flat]
      generalize lcells f fl sc mid x.cells s1 = r2 at hA2 ⊢
      obtain ⟨q2, s2⟩ := r2
      dsimp only at hA2 ⊢
      have hB0 : ∀ v, ∀ j w, hset (upS st s2 H) (n + 2) (some (.cells zRow)) j = some w → B s2 v j = some w := fun v j w e => by
        have := hRb s2 j w e
        rw [hB, hset_ne _ _ (by omega)]; exact e
      have hpA : ∀ v, (AccH o2 (q2.map Cell.enc) (B s2 v)) p = some (.cells (h'.flat ++ [v])) := fun v => by
        cases o2 with
        | none => exact hBp _ _
        | some q => have := (hA2.lt q rfl).1; simp only [AccH]; rw [hset_ne _ _ (by omega)]; exact hBp _ _
      refine ⟨by omega, .inr ⟨lt_none (hRb _) (by omega), _, hpA _, by simp, ?_⟩, fun j w e => acc_old (hBb s2 _) hA2 j w (hB0 _ j w e)⟩
      exact ⟨Fz.same, Fz.same, Fz.same, Fz.same, Fz.same, AccV.fz' (fun j hj => lt_none (hRb _) (by omega)) hA2 (acc_mono (hB0 _)), trivial⟩
  · generalize lcells f fl sc mid x.cells s1 = r2
    obtain ⟨q2, s2⟩ := r2
    dsimp only
    have hret : ∀ (z : SObj) (m : Nat) (w : Bool), RetS n (hset (upS st s2 H) (n + 2) (some z)) m (.tup [(Row.mk h' q2).enc, .bool w]) (fun v h2 n' => v = .tup [(Row.mk h' q2).enc, .bool w] ∧ h2 = upS st s2 H ∧ n' = n) := fun z m w =>
      ret_immU (hU s2) (by rw [closed, closedL, closedL, closedL]; simp only [Bool.and_true, Bool.and_eq_true]; exact ⟨Row.cl n _, by simp [closed]⟩) (set_keep (fun j z e => by have := hUb s2 j z e; omega) look_same)
    simp only [Row.enc_eq, Row.head, Row.cells] at hret
    refine SP_of ?_
    cases k with
    | false =>
      simp [go_sem, Head.flat, hset_at, zRow]
      repeat first | refine nd (by kernel_rfl) ?_ | refine sd (by kernel_rfl) ?_ | refine And.intro (by omega) ?_
      have := hret (.cells [propsE h'.props, intE h'.ins, intE h'.move, delsE h'.dels, layersE h'.layers, cellsE q2]) m3 false
      simpa [Row.enc_eq, Row.head, Row.cells, hset_two] using this
    | true =>
      simp [go_sem, Head.flat, hset_at, zRow]
      repeat first | refine nd (by kernel_rfl) ?_ | refine sd (by kernel_rfl) ?_ | refine And.intro (by omega) ?_
      have := hret (.cells [propsE h'.props, intE h'.ins, intE h'.move, delsE h'.dels, layersE h'.layers, cellsE q2]) m3 (decide (0 < q2.length))
      simpa [Row.enc_eq, Row.head, Row.cells, hset_two] using this
end
def trF : Tr := .pure 2 <| .pure 5 <| .pure 6 <| .pure 7 <| .pure 0 <| .two 1 12
   (.pure 3 <| .two 4 12
      (.two 8 12 (.pure 9 <| .pure 10 <| .pure 11 <| .one 12 <| .one 13 <| .one 14 .nil)
                 (.one 8 <| .pure 9 <| .pure 10 <| .pure 11 <| .one 13 <| .one 14 .nil))
      (.one 4 <| .one 8 <| .pure 9 <| .pure 10 <| .pure 11 <| .one 13 <| .one 14 .nil))
   (.one 1 <| .pure 3 <| .one 4 <| .one 8 <| .pure 9 <| .pure 10 <| .pure 11 <| .one 13 <| .one 14 .nil)
section
variable {σ : Type} {st : σ → Nat → Option SObj} {n0 : Nat} {g : FuncId} {a b : List SV} {f : σ → SPart → Head × Bool × σ} {ok : Head → Prop} {fl : Int → List Item → Scope → Bool → σ → List Item × σ} {mid : Bool} {P : List Item → Prop} {sc : Scope}
set_option maxHeartbeats 4000000 in
theorem d115n (C : LClo st n0 g a b f ok) (hfl : FlC st n0 g a b fl P) (l : List Item) (hl : l.length ≤ 1048576) (hr : ∀ x ∈ l, okI ok P x) (id : Int) (hns : ¬ (id = sc.id ∧ mid = false)) (s : σ) {H : Hp} {n : Nat} (hn : n0 ≤ n) (hs : ∀ o y, st s o = some y → H o = some y)
    {Q : SV → Hp → Nat → Prop} (hQ : Old H n → ∀ o m, n ≤ m → AccI n m 11 o ((llist f fl sc mid l s).1.map Item.enc) → RetS n (AccH o ((llist f fl sc mid l s).1.map Item.enc) (upS st (llist f fl sc mid l s).2 H)) m (AccV 11 o ((llist f fl sc mid l s).1.map Item.enc)) Q) :
    SCall Tryz.prog 115 [itemsE l, intE id, sc.enc, .bool mid, .fn (.func g) a b] H n Q := by
  have D := C.cx
  refine goS Tryz.func115 rfl (by kernel_rfl) (by kernel_rfl) (by simp [go_sem]) fun ho => ?_
  obtain ⟨R, hR⟩ : ∃ R : Nat → List Item × σ, ∀ i, R i = (l.take i).foldl (lstep f fl sc mid) ([], s) := ⟨_, fun _ => rfl⟩
  have hR0 : R 0 = ([], s) := by rw [hR]; rfl
  have hRs : ∀ i x, (h : i < l.length) → l[i] = x → R (i + 1) = lstep f fl sc mid (R i) x := fun i x h hx => by rw [hR, hR, foldl_take _ _ _ _ _ h hx]
  have hRl : R l.length = llist f fl sc mid l s := by rw [hR, List.take_length]; rfl
  have hRn : ∀ i, (R i).1.length ≤ i := fun i => by rw [hR]; have := llist_len (f := f) (fl := fl) (sc := sc) (mid := mid) (l.take i) ([], s); simp at this; omega
  clear hR
  have hU : ∀ s', Old (upS st s' H) n := fun s' => D.old s' hn ho
  have hUb : ∀ s' j y, upS st s' H j = some y → j < n := fun s' j y e => (hU s' j y e).1
  refine SP_mid 1 (α := Unit) (fun _ => [(0, itemsE l), (3, .bool mid), (4, .fn (.func g) a b), (7, .iptr [intE sc.id, intE sc.a, intE sc.b]), (1, intE id)]) (fun _ => upS st s H) (fun _ m => n ≤ m) ?_ (fun _ m hm => ?_)
  · simp [go_sem, Scope.enc, Fz.same, upS_self s H hs]
    refine ⟨ptr_fz (ho.none (Nat.le_refl n)) (by simp [hset]), fun j y e => by rw [hset_ne _ _ (by have := (ho j y e).1; omega)]; exact e⟩
  refine SP_mid 0 (α := Unit) (fun _ => [(0, itemsE l), (3, .bool mid), (4, .fn (.func g) a b), (7, .iptr [intE sc.id, intE sc.a, intE sc.b])]) (fun _ => upS st s H) (fun _ m => n ≤ m) ?_ (fun _ m hm => ?_)
  · by_cases h1 : id = sc.id
    · have h2 : mid = true := by cases mid <;> simp_all
      simp [go_sem, Fz.same, h1, h2, hm]
    · simp [go_sem, Fz.same, h1, hm]
  refine SP_mid 0 (α := Unit) (fun _ => [(0, itemsE l), (3, .bool mid), (4, .fn (.func g) a b), (7, .iptr [intE sc.id, intE sc.a, intE sc.b]), (21, .imm 0 [] true)]) (fun _ => upS st s H) (fun _ m => n ≤ m) ?_ (fun _ m hm => ?_)
  · simp [go_sem, Fz.same, hm]
  refine SP_midS 0 (α := Option Nat) (fun o => [(21, AccV 11 o ((R l.length).1.map Item.enc))]) (fun o => AccH o ((R l.length).1.map Item.enc) (upS st (R l.length).2 H)) (fun o m => n ≤ m ∧ AccI n m 11 o ((R l.length).1.map Item.enc)) ?_ (fun o m hm => ?_)
  · refine SP_mid 0 (α := Unit) (fun _ => [(0, itemsE l), (3, .bool mid), (4, .fn (.func g) a b), (7, .iptr [intE sc.id, intE sc.a, intE sc.b]), (21, .imm 0 [] true), (22, intE 0)]) (fun _ => upS st s H) (fun _ m => n ≤ m) ?_ (fun _ m hm => ?_)
    · simp [go_sem, Fz.same, hm]
    refine SP_block (goloopS 0 (α := Nat × Option Nat) (fun q => [(0, itemsE l), (3, .bool mid), (4, .fn (.func g) a b), (7, .iptr [intE sc.id, intE sc.a, intE sc.b]), (21, AccV 11 q.2 ((R q.1).1.map Item.enc)), (22, intE q.1)])
      (fun q => AccH q.2 ((R q.1).1.map Item.enc) (upS st (R q.1).2 H)) (fun q m => q.1 ≤ l.length ∧ n ≤ m ∧ AccI n m 11 q.2 ((R q.1).1.map Item.enc)) (fun q => l.length - q.1) (0, none) ⟨Nat.zero_le _, hm, by simp only [hR0]; exact AccI.nil _ _ _⟩ ?_ ?_ ?_)
    · simp [go_sem, look, AccV, Fz.same]
    · simp only [hR0]; exact look_same
    clear hm m
    rintro ⟨i, o⟩ m ⟨hi, hnm, hA⟩
    dsimp only at hi hA ⊢
    have hEn : ((R i).1.map Item.enc).length ≤ i := by rw [List.length_map]; exact hRn i
    by_cases hlt : i < l.length
    · obtain ⟨x, hx⟩ : ∃ x, l[i] = x := ⟨_, rfl⟩
      have hxm : x ∈ l := by rw [← hx]; exact List.getElem_mem hlt
      obtain ⟨x1, x2, x3, x4, x5⟩ := hr x hxm
      have hgx : (l.map Item.enc)[i]? = some x.enc := by simp [hlt, hx]
      have hst := hRs i x hlt hx
      have w1 : IntKind.i64.wrap ((i : Int) + 1) = ((i + 1 : Nat) : Int) := by rw [wr64] <;> omega
      generalize hSi : (R i).2 = si at hst
      generalize hEi : (R i).1.map Item.enc = E at hA hEn ⊢
      have hXb : ∀ s' j y, AccH o E (upS st s' H) j = some y → j < m := fun s' => acc_lt (hUb s') hnm hA
      refine SP_mid 0 (α := Unit) (fun _ => [(0, itemsE l), (3, .bool mid), (4, .fn (.func g) a b), (7, .iptr [intE sc.id, intE sc.a, intE sc.b]), (21, AccV 11 o E), (22, intE i)]) (fun _ => AccH o E (upS st si H)) (fun _ m' => m = m') ?_ (fun _ m' hm' => ?_)
      · simp [go_sem, Fz.same, hlt]
      subst hm'
      refine SP_midS 0 (α := Option Nat) (fun o => [(0, itemsE l), (3, .bool mid), (4, .fn (.func g) a b), (7, .iptr [intE sc.id, intE sc.a, intE sc.b]), (21, AccV 11 o ((R (i + 1)).1.map Item.enc)), (22, intE i)]) (fun o => AccH o ((R (i + 1)).1.map Item.enc) (upS st (R (i + 1)).2 H)) (fun o m => n ≤ m ∧ AccI n m 11 o ((R (i + 1)).1.map Item.enc)) ?_ (fun o m hm => ?_)
      · refine SP_block ?_
        refine SP_mid 0 (α := Nat) (fun p => [(0, itemsE l), (3, .bool mid), (4, .fn (.func g) a b), (7, .iptr [intE sc.id, intE sc.a, intE sc.b]), (21, AccV 11 o E), (22, intE i), (23, .ptr p 0)]) (fun p => hset (AccH o E (upS st si H)) p (some (.cells [intE x.kind, intE x.code, intE x.id, .str x.text, propsE x.head.props, intE x.head.ins, intE x.head.move, delsE x.head.dels, layersE x.head.layers, itemsE x.flow, rowsE x.rows]))) (fun p m2 => m ≤ p ∧ p < m2) ?_ (fun p m2 hm2 => ?_)
        · simp [go_sem, Fz.same, hlt, hx, Item.enc_eq, hset_at, hset_two]
          exact ⟨m, by omega, rfl, look_same⟩
        have hXb2 : ∀ s' j y, AccH o E (upS st s' H) j = some y → j < p := fun s' j y e => by have := hXb s' j y e; omega
        refine SP_mid 0 (α := Unit) (fun _ => [(0, itemsE l), (3, .bool mid), (4, .fn (.func g) a b), (7, .iptr [intE sc.id, intE sc.a, intE sc.b]), (21, AccV 11 o E), (22, intE i), (23, .ptr p 0), (24, intE (runLen [x]).1)]) (fun _ => hset (AccH o E (upS st si H)) p (some (.cells [intE x.kind, intE x.code, intE x.id, .str x.text, propsE x.head.props, intE x.head.ins, intE x.head.move, delsE x.head.dels, layersE x.head.layers, itemsE x.flow, rowsE x.rows]))) (fun _ m3 => m2 ≤ m3) ?_ (fun _ m3 hm3 => ?_)
        · have hle : i + 1 ≤ l.length := hlt
          have hsl : List.drop i (List.take (i + 1) (l.map Item.enc)) = [x.enc] := by rw [List.drop_take, Nat.add_sub_cancel_left, List.drop_eq_getElem_cons (by simpa using hlt)]; simp [hx]
          simp [go_sem, w1, hle, hsl, -Int.natCast_add, -List.map_take, -List.map_drop]
          refine PC.use (c35 [x] (by simp) (by simpa using x2)) ?_
          simp [go_sem, Fz.same]
        have hcall := fun y => C.call si ⟨x.head, mid, (runLen [x]).1⟩ (hset (AccH o E (upS st si H)) p y) m3 x1 (by omega) (fun k z e => by rw [hset_ne _ _ (by rintro rfl; rw [C.lt si k (by omega)] at e; cases e)]; exact D.has hn hA has_up k z e)
        have hup : ∀ s1 s' y, upS st s' (hset (AccH o E (upS st s1 H)) p y) = hset (AccH o E (upS st s' H)) p y := fun s1 s' y => by rw [← D.hset _ _ (by omega), D.acc hn hA, D.up2]
        have hasP : ∀ s' y k z, st s' k = some z → hset (AccH o E (upS st s' H)) p y k = some z := fun s' y k z e => by rw [hset_ne _ _ (by rintro rfl; rw [C.lt s' k (by omega)] at e; cases e)]; exact D.has hn hA has_up k z e
        simp only [lstep, hSi] at hst
        generalize f si ⟨x.head, mid, (runLen [x]).1⟩ = r1 at hcall hst
        obtain ⟨h', k, s1⟩ := r1
        dsimp only at hcall hst
        simp only [hup, List.cons_append, List.nil_append, List.append_assoc] at hcall
        have hYb : ∀ s' y j z, hset (AccH o E (upS st s' H)) p y j = some z → j < m3 := fun s' y j z e => by
          by_cases h : j = p
          · omega
          · rw [hset_ne _ _ h] at e; have := hXb2 s' j z e; omega
        refine SP_mid 1 (α := Unit) (fun _ => [(0, itemsE l), (3, .bool mid), (4, .fn (.func g) a b), (7, .iptr [intE sc.id, intE sc.a, intE sc.b]), (21, AccV 11 o E), (22, intE i), (23, .ptr p 0), (26, .iptr h'.flat), (27, .bool k)]) (fun _ => hset (AccH o E (upS st s1 H)) p (some (.cells [intE x.kind, intE x.code, intE x.id, .str x.text, propsE x.head.props, intE x.head.ins, intE x.head.move, delsE x.head.dels, layersE x.head.layers, itemsE x.flow, rowsE x.rows]))) (fun _ m4 => m3 ≤ m4) ?_ (fun _ m4 hm4 => ?_)
        · simp [go_sem, Head.flat, hset_at]
          refine SC.use (by simpa [Head.enc, Head.flat] using hcall _) ?_
          rintro v H' n' ⟨rfl, rfl, rfl⟩
          simp [go_sem, Fz.same, hset_at]
          exact ⟨ptr_fz (lt_none (hYb _ _) (Nat.le_refl _)) (hset_at _ _ _), set_keep (hYb _ _) (set_keep (hYb _ _) look_same)⟩
        refine SP_mid 0 (α := Unit) (fun _ => [(0, itemsE l), (3, .bool mid), (4, .fn (.func g) a b), (7, .iptr [intE sc.id, intE sc.a, intE sc.b]), (21, AccV 11 o E), (22, intE i), (23, .ptr p 0), (27, .bool k)]) (fun _ => hset (AccH o E (upS st s1 H)) p (some (.cells [intE x.kind, intE x.code, intE x.id, .str x.text, propsE h'.props, intE h'.ins, intE h'.move, delsE h'.dels, layersE h'.layers, itemsE x.flow, rowsE x.rows]))) (fun _ m5 => m4 = m5) ?_ (fun _ m5 hm5 => ?_)
        · simp [go_sem, Fz.same, Head.flat, hset_at, hset_two]
        subst hm5
        refine SP_mid 0 (α := Unit) (fun _ => [(0, itemsE l), (3, .bool mid), (4, .fn (.func g) a b), (7, .iptr [intE sc.id, intE sc.a, intE sc.b]), (21, AccV 11 o E), (22, intE i), (23, .ptr p 0), (27, .bool k)]) (fun _ => hset (AccH o E (upS st (lin fl sc mid x s1).2 H)) p (some (.cells [intE x.kind, intE x.code, intE x.id, .str x.text, propsE h'.props, intE h'.ins, intE h'.move, delsE h'.dels, layersE h'.layers, itemsE (lin fl sc mid x s1).1, rowsE x.rows]))) (fun _ m5 => m4 ≤ m5) ?_ (fun _ m5 hm5 => ?_)
        · by_cases k6 : x.kind = 6
          · have hin : lin fl sc mid x s1 = fl x.id x.flow sc mid s1 := by rw [lin, if_pos k6]
            have hc3 := fun z m (hm : n0 ≤ m) => hfl x.id x.flow sc mid s1 (hset (AccH o E (upS st s1 H)) p z) m x3 hm (hasP s1 z)
            rw [hin]
            clear hst
            generalize fl x.id x.flow sc mid s1 = r3 at hc3 ⊢
            obtain ⟨q3, s3⟩ := r3
            dsimp only at hc3 ⊢
            simp only [hup, Scope.enc] at hc3
            simp [go_sem, hset_at, k6]
            refine SC.use (hc3 _ _ (by omega)) ?_
            rintro v H' n' ⟨rfl, rfl, rfl⟩
            simp [go_sem, Fz.same, hset_at, hset_two]
          · have hin : lin fl sc mid x s1 = (x.flow, s1) := by rw [lin, if_neg k6]
            rw [hin]
            simp [go_sem, Fz.same, hset_at, k6]
        generalize lin fl sc mid x s1 = w2 at hst ⊢
        obtain ⟨q2, s2⟩ := w2
        dsimp only at hst ⊢
        obtain ⟨BB, hBB⟩ : ∃ B : σ → Hp, ∀ s', B s' = hset (AccH o E (upS st s' H)) p (some (.cells [intE x.kind, intE x.code, intE x.id, .str x.text, propsE h'.props, intE h'.ins, intE h'.move, delsE h'.dels, layersE h'.layers, itemsE q2, rowsE x.rows])) := ⟨_, fun _ => rfl⟩
        have hBBp : ∀ s', BB s' p = some (.cells [intE x.kind, intE x.code, intE x.id, .str x.text, propsE h'.props, intE h'.ins, intE h'.move, delsE h'.dels, layersE h'.layers, itemsE q2, rowsE x.rows]) := fun s' => by rw [hBB, hset_at]
        have hBBb : ∀ s' j y, BB s' j = some y → j < m5 := fun s' j y e => by rw [hBB] at e; have := hYb s' _ j y e; omega
        have hBBu : ∀ s1 s', upS st s' (BB s1) = BB s' := fun s1 s' => by rw [hBB, hBB, hup]
        have hBBh : ∀ s', ∀ k w, st s' k = some w → BB s' k = some w := fun s' => by rw [hBB]; exact hasP s' _
        rw [← hBB]
        refine SP_mid 0 (α := Unit) (fun _ => [(0, itemsE l), (3, .bool mid), (4, .fn (.func g) a b), (7, .iptr [intE sc.id, intE sc.a, intE sc.b]), (21, AccV 11 o E), (22, intE i), (23, .ptr p 0), (27, .bool k), (28, AccV 6 none [])]) (fun _ => BB s2) (fun _ m6 => m5 = m6) ?_ (fun _ m6 hm6 => ?_)
        · simp [go_sem, Fz.same, AccV]
        subst hm6
        obtain ⟨V, hV⟩ : ∃ V : Nat → List Row × σ, ∀ i, V i = (x.rows.take i).foldl (lrowStep f fl sc mid) ([], s2) := ⟨_, fun _ => rfl⟩
        have hV0 : V 0 = ([], s2) := by rw [hV]; rfl
        have hVs : ∀ i y, (h : i < x.rows.length) → x.rows[i] = y → V (i + 1) = lrowStep f fl sc mid (V i) y := fun i y h hy => by rw [hV, hV, foldl_take _ _ _ _ _ h hy]
        have hVl : V x.rows.length = lrows f fl sc mid x.rows s2 := by rw [hV, List.take_length]; rfl
        have hVn : ∀ i, (V i).1.length ≤ i := fun i => by rw [hV]; have := lrows_len (f := f) (fl := fl) (sc := sc) (mid := mid) (x.rows.take i) ([], s2); simp at this; omega
        clear hV
        refine SP_midS 1 (α := Unit) (fun _ => [(0, itemsE l), (3, .bool mid), (4, .fn (.func g) a b), (7, .iptr [intE sc.id, intE sc.a, intE sc.b]), (21, AccV 11 o E), (22, intE i), (23, .ptr p 0), (27, .bool k), (28, rowsE (lrows f fl sc mid x.rows s2).1)]) (fun _ => BB (lrows f fl sc mid x.rows s2).2) (fun _ m6 => m5 ≤ m6) ?_ (fun _ m6 hm6 => ?_)
        · refine SP_mid 0 (α := Unit) (fun _ => [(0, itemsE l), (3, .bool mid), (4, .fn (.func g) a b), (7, .iptr [intE sc.id, intE sc.a, intE sc.b]), (21, AccV 11 o E), (22, intE i), (23, .ptr p 0), (27, .bool k), (28, AccV 6 none []), (29, intE 0)]) (fun _ => BB s2) (fun _ m6 => m5 = m6) ?_ (fun _ m6 hm6 => ?_)
          · simp [go_sem, Fz.same]
          subst hm6
          refine SP_block (goloopS 0 (α := Nat × Option Nat) (fun q => [(0, itemsE l), (3, .bool mid), (4, .fn (.func g) a b), (7, .iptr [intE sc.id, intE sc.a, intE sc.b]), (21, AccV 11 o E), (22, intE i), (23, .ptr p 0), (27, .bool k), (28, AccV 6 q.2 ((V q.1).1.map Row.enc)), (29, intE q.1)])
            (fun q => AccH q.2 ((V q.1).1.map Row.enc) (BB (V q.1).2)) (fun q m => q.1 ≤ x.rows.length ∧ m5 ≤ m ∧ AccI m5 m 6 q.2 ((V q.1).1.map Row.enc)) (fun q => x.rows.length - q.1) (0, none) ⟨Nat.zero_le _, Nat.le_refl _, by simp only [hV0]; exact AccI.nil _ _ _⟩ ?_ ?_ ?_)
          · simp only [hV0]; simp [go_sem, look, Fz.same]
          · simp only [hV0]; exact look_same
          rintro ⟨j, o2⟩ m6 ⟨hj, hm6, hA2⟩
          dsimp only at hj hA2 ⊢
          have hGn : ((V j).1.map Row.enc).length ≤ j := by rw [List.length_map]; exact hVn j
          have hpA : ∀ s' G, AccI m5 m6 6 o2 G → (AccH o2 G (BB s')) p = some (.cells [intE x.kind, intE x.code, intE x.id, .str x.text, propsE h'.props, intE h'.ins, intE h'.move, delsE h'.dels, layersE h'.layers, itemsE q2, rowsE x.rows]) := fun s' G hA2 => by
            cases o2 with
            | none => exact hBBp _
            | some q => have := (hA2.lt q rfl).1; simp only [AccH]; rw [hset_ne _ _ (by omega)]; exact hBBp _
          by_cases hjt : j < x.rows.length
          · obtain ⟨y, hy⟩ : ∃ y, x.rows[j] = y := ⟨_, rfl⟩
            have hym : y ∈ x.rows := by rw [← hy]; exact List.getElem_mem hjt
            have hgy : (x.rows.map Row.enc)[j]? = some y.enc := by simp [hjt, hy]
            have hvt := hVs j y hjt hy
            have w2 : IntKind.i64.wrap ((j : Int) + 1) = ((j + 1 : Nat) : Int) := by rw [wr64] <;> omega
            generalize hSj : (V j).2 = sj at hvt
            generalize hGj : (V j).1.map Row.enc = G at hA2 hGn ⊢
            have hZb : ∀ s' j y, AccH o2 G (BB s') j = some y → j < m6 := fun s' => acc_lt (hBBb s') hm6 hA2
            have hpG := fun s' => hpA s' G hA2
            have hZh : ∀ s', ∀ k w, st s' k = some w → AccH o2 G (BB s') k = some w := fun s' => D.has (by omega) hA2 (hBBh s')
            have hZu : ∀ s1 s', upS st s' (AccH o2 G (BB s1)) = AccH o2 G (BB s') := fun s1 s' => by rw [D.acc (by omega) hA2, hBBu]
            refine SP_mid 0 (α := Unit) (fun _ => [(0, itemsE l), (3, .bool mid), (4, .fn (.func g) a b), (7, .iptr [intE sc.id, intE sc.a, intE sc.b]), (21, AccV 11 o E), (22, intE i), (23, .ptr p 0), (27, .bool k), (28, AccV 6 o2 G), (29, intE j)]) (fun _ => AccH o2 G (BB sj)) (fun _ m' => m6 = m') ?_ (fun _ m' hm' => ?_)
            · simp [go_sem, Fz.same, hjt, hpG]
            subst hm'
            refine SP_midS 0 (α := Option Nat) (fun o2 => [(0, itemsE l), (3, .bool mid), (4, .fn (.func g) a b), (7, .iptr [intE sc.id, intE sc.a, intE sc.b]), (21, AccV 11 o E), (22, intE i), (23, .ptr p 0), (27, .bool k), (28, AccV 6 o2 ((V (j + 1)).1.map Row.enc)), (29, intE j)]) (fun o2 => AccH o2 ((V (j + 1)).1.map Row.enc) (BB (V (j + 1)).2)) (fun o2 m => m5 ≤ m ∧ AccI m5 m 6 o2 ((V (j + 1)).1.map Row.enc)) ?_ (fun o2 m hm => ?_)
            · refine SP_block ?_
              have hd := fun (X : Hp) (m : Nat) (hm : n0 ≤ m) (hX : ∀ k w, st sj k = some w → X k = some w) => d181 (mid := mid) (sc := sc) C hfl y (x5 y hym) sj (H := X) (n := m) hm hX
              simp only [lrowStep, hSj] at hvt
              generalize lrowG f fl sc mid y sj = r4 at hd hvt
              obtain ⟨ry, kr, s3⟩ := r4
              dsimp only at hd hvt
              have hd0 := fun m (hm : n0 ≤ m) => hd (AccH o2 G (BB sj)) m hm (hZh sj)
              have hd1 := fun z m (hm : n0 ≤ m) => hd (hset (AccH o2 G (BB sj)) m6 z) m hm (has_set C.lt (by omega) z (hZh sj))
              have hZu1 : ∀ s' z, upS st s' (hset (AccH o2 G (BB sj)) m6 z) = hset (AccH o2 G (BB s')) m6 z := fun s' z => by rw [← D.hset _ _ (by omega), hZu]
              simp only [hZu, Scope.enc] at hd0
              simp only [hZu1, Scope.enc] at hd1
              clear hd
              have hzb1 : ∀ s' z j y, hset (AccH o2 G (BB s')) m6 z j = some y → j < m6 + 1 := fun s' z j y e => by
                by_cases h : j = m6
                · omega
                · rw [hset_ne _ _ h] at e; have := hZb s' j y e; omega
              have pm6 : p ≠ m6 := by omega
              refine SP_midS 1 (α := Unit) (fun _ => [(0, itemsE l), (3, .bool mid), (4, .fn (.func g) a b), (7, .iptr [intE sc.id, intE sc.a, intE sc.b]), (21, AccV 11 o E), (22, intE i), (23, .ptr p 0), (27, .bool k), (28, AccV 6 o2 G), (29, intE j), (30, .iptr (ry.head.flat ++ [cellsE ry.cells])), (31, .bool kr)]) (fun _ => AccH o2 G (BB s3)) (fun _ m7 => m6 ≤ m7) (SP_tr trF rfl (by kernel_rfl) (by kernel_rfl) ?_) (fun _ m7 hm7 => ?_)
              · simp only [Row.enc_eq] at hd0 hd1
                simp [go_sem, trF, hpG, hjt, hy, hset_ne, pm6, Row.enc_eq]
                refine ⟨⟨⟨?_, ?_⟩, ?_⟩, ?_⟩
                all_goals first
                  | (refine SC.use (hd0 _ (by omega)) ?_
                     rintro v H' n' ⟨rfl, rfl, rfl⟩
                     simp [go_sem, Fz.same, Head.flat, hset_at]
                     exact ⟨ptr_fz (lt_none (hZb _) (Nat.le_refl _)) (hset_at _ _ _), set_keep (hZb _) (set_keep (hZb _) look_same)⟩)
                  | (refine SC.use (hd1 _ _ (by omega)) ?_
                     rintro v H' n' ⟨rfl, rfl, rfl⟩
                     simp [go_sem, Fz.same, Head.flat, hset_at]
                     exact ⟨ptr_fz (lt_none (hZb _) (Nat.le_refl _)) (hset_at _ _ _), set_keep (hZb _) (set_keep (hZb _) look_same)⟩)
              rw [hvt]
              cases kr with
              | false =>
                simp only [Bool.false_eq_true, if_false, hGj]
                refine SP_of ?_
                simp [go_sem, Fz.same]
                exact ⟨o2, ⟨by omega, hA2.mono (by omega)⟩, rfl, look_same⟩
              | true =>
                simp only [if_true, List.map_append, hGj, List.map_cons, List.map_nil]
                refine SP_of ?_
                simp [go_sem, Head.flat]
                have hpush := hA2.push (j := m7 + 1) (m' := m7 + 1 + 1) (e := ry.enc) (Row.E.st _) (Row.E.len _) (by omega) (by omega)
                rw [app1g (es := G) (e := ry.enc) (o := o2) (t := 68) (t2 := 68) (el := 169) (z := 6) (by simp [go_sem]) (by simp [go_sem]) (by simp [go_sem]) (by simp) (by simp [go_sem]) (by simp [go_sem]) (by simp [go_sem]) (by omega) hA2 (Row.E.len _) ?a1 ?a2]
                case a1 => simp [hset_at, Row.enc_eq, SV.cells]
                case a2 =>
                  intro j e
                  have := (hA2.lt j e).2
                  rw [hset_ne _ _ (by omega)]; exact acc_at j e
                have hlive := acc_live' (p := m7 + 1) (v := .sl (m7 + 1) 0 6 (G.length + 1) false) (e := ry.enc) (hBBb s3) (by omega) hA2 (H := hset (AccH o2 G (BB s3)) m7 (some (.cells [propsE ry.head.props, intE ry.head.ins, intE ry.head.move, delsE ry.head.dels, layersE ry.head.layers, cellsE ry.cells]))) (set_keep (fun j z e => by have := hBBb s3 j z e; omega) (acc_old (hBBb s3) hA2))
                have hvv : AccV 6 (some (m7 + 1)) (G ++ [ry.enc]) = .sl (m7 + 1) 0 6 (G.length + 1) false := by simp [AccV]
                simp [go_sem]
                exact ⟨some (m7 + 1), ⟨by omega, hpush⟩, hvv.symm, by simpa [Out.app, SV.cells] using hlive⟩
            · refine SP_of ?_
              simp [go_sem, w2, Fz.same, -Int.natCast_add]
              exact ⟨j + 1, by omega, o2, ⟨by omega, hm.1, hm.2⟩, ⟨rfl, rfl⟩, look_same⟩
          · have : j = x.rows.length := by omega
            subst this
            rw [hVl] at hA2 ⊢
            have hpG := fun s' => hpA s' _ hA2
            refine SP_of ?_
            simp [go_sem, Fz.same, hpG]
            exact ⟨by omega, AccV.fz' (fun j hj => lt_none (hBBb _) hj) hA2 look_same, acc_old (hBBb _) hA2⟩
        generalize lrows f fl sc mid x.rows s2 = v2 at hst ⊢
        obtain ⟨q3, s3⟩ := v2
        dsimp only at hst ⊢
        have hq0 : (((q3.length : Nat) : Int) = 0) ↔ q3.length = 0 := by omega
        refine SP_mid 0 (α := Unit) (fun _ => [(0, itemsE l), (3, .bool mid), (4, .fn (.func g) a b), (7, .iptr [intE sc.id, intE sc.a, intE sc.b]), (21, AccV 11 o E), (22, intE i), (23, .ptr p 0), (27, .bool (k && !(decide (x.kind = 7) && decide (q3.length = 0)))), (28, rowsE q3)]) (fun _ => BB s3) (fun _ m7 => m6 = m7) ?_ (fun _ m7 hm7 => ?_)
        · by_cases k7 : x.kind = 7
          · by_cases q0 : q3 = []
            · subst q0; simp [go_sem, Fz.same, hBBp, k7]
            · simp [go_sem, Fz.same, hBBp, k7, q0]
          · simp [go_sem, Fz.same, hBBp, k7]
        subst hm7
        generalize (k && !(decide (x.kind = 7) && decide (q3.length = 0))) = k2 at hst ⊢
        refine SP_mid 1 (α := Unit) (fun _ => [(0, itemsE l), (3, .bool mid), (4, .fn (.func g) a b), (7, .iptr [intE sc.id, intE sc.a, intE sc.b]), (21, AccV 11 o E), (22, intE i), (23, .iptr [intE x.kind, intE x.code, intE x.id, .str x.text, propsE h'.props, intE h'.ins, intE h'.move, delsE h'.dels, layersE h'.layers, itemsE q2, rowsE q3]), (27, .bool k2)]) (fun _ => AccH o E (upS st s3 H)) (fun _ m7 => m6 = m7) ?_ (fun _ m7 hm7 => ?_)
        · simp [go_sem, Fz.same, hBB, hset_at, hset_two]
          exact ⟨ptr_fz (lt_none (hXb2 _) (Nat.le_refl _)) (hset_at _ _ _), set_keep (hXb2 _) look_same⟩
        subst hm7
        rw [hst]
        cases k2 with
        | false =>
          simp only [Bool.false_eq_true, if_false, hEi]
          refine SP_of ?_
          simp [go_sem, Fz.same]
          exact ⟨o, ⟨by omega, hA.mono (by omega)⟩, rfl, look_same⟩
        | true =>
          simp only [if_true, List.map_append, hEi, List.map_cons, List.map_nil]
          refine SP_of ?_
          simp [go_sem]
          have hpush := hA.push (j := m6 + 1) (m' := m6 + 1 + 1) (e := (x.put h' q2 q3).enc) (Item.E.st _) (Item.E.len _) (by omega) (by omega)
          rw [app1g (es := E) (e := (x.put h' q2 q3).enc) (o := o) (t := 22) (t2 := 22) (el := 70) (z := 11) (by simp [go_sem]) (by simp [go_sem]) (by simp [go_sem]) (by simp) (by simp [go_sem]) (by simp [go_sem]) (by simp [go_sem]) (by omega) hA (Item.E.len _) ?a1 ?a2]
          case a1 => simp [hset_at, Item.enc_eq, SV.cells, Item.put, Item.kind, Item.code, Item.id, Item.text, Item.head, Item.flow, Item.rows]
          case a2 =>
            intro j e
            have := (hA.lt j e).2
            rw [hset_ne _ _ (by omega)]; exact acc_at j e
          have hlive := acc_live' (p := m6 + 1) (v := .sl (m6 + 1) 0 11 (E.length + 1) false) (e := (x.put h' q2 q3).enc) (hUb s3) (by omega) hA (H := hset (AccH o E (upS st s3 H)) m6 (some (.cells [intE x.kind, intE x.code, intE x.id, .str x.text, propsE h'.props, intE h'.ins, intE h'.move, delsE h'.dels, layersE h'.layers, itemsE q2, rowsE q3]))) (set_keep (fun j z e => by have := hUb s3 j z e; omega) (acc_old (hUb s3) hA))
          have hvv : AccV 11 (some (m6 + 1)) (E ++ [(x.put h' q2 q3).enc]) = .sl (m6 + 1) 0 11 (E.length + 1) false := by simp [AccV]
          simp [go_sem]
          exact ⟨some (m6 + 1), ⟨by omega, hpush⟩, hvv.symm, by simpa [Out.app, SV.cells] using hlive⟩
      · refine SP_of ?_
        simp [go_sem, w1, Fz.same, -Int.natCast_add]
        exact ⟨i + 1, by omega, o, ⟨by omega, hm.1, hm.2⟩, ⟨rfl, rfl⟩, look_same⟩
    · have : i = l.length := by omega
      subst this
      refine SP_of ?_
      simp [go_sem]
      exact ⟨o, ⟨hnm, hA⟩, rfl, look_same⟩
  · refine SP_of ?_
    simp [go_sem]
    rw [hRl] at hm ⊢
    exact hQ ho o m hm.1 hm.2
end
end Go.Proofs.YtgakninlhfkkmaaGreat.Sh
