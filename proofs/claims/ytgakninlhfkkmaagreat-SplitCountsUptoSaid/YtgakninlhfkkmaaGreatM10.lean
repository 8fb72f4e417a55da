/- A part of the proof (part 10 of 13). -/
import Derived.Test.YtgakninlhfkkmaaGreatM9
namespace Go.Proofs.YtgakninlhfkkmaaGreat.Sh
open Proofs
set_option maxRecDepth 10000
section
variable {σ : Type} {st : σ → Nat → Option SObj} {n0 : Nat} {g : FuncId} {a b : List SV} {f : σ → SPart → Head × Bool × σ} {ok : Head → Prop} {fl : Int → List Item → Scope → Bool → σ → List Item × σ} {P : List Item → Prop}
theorem app_items {X : Hp} {n m : Nat} {o : Option Nat} {es : List SV} (H : AccI n m 11 o es) (hX : ∀ j, o = some j → X j = some (.cells (es.flatMap SV.cells))) (xs : List Item) (hroom : es.length + xs.length ≤ 1073741824) (p : Nat) :
    (xs = [] ∧ builtinS Tryz.prog X p .append [22, 22] [AccV 11 o es, itemsE xs] = some { val := AccV 11 o es }) ∨
    (xs ≠ [] ∧ builtinS Tryz.prog X p .append [22, 22] [AccV 11 o es, itemsE xs] = some { val := .sl p 0 11 (es.length + xs.length) false, upd := o.map fun j => (j, none), new := some (.cells (es.flatMap SV.cells ++ (xs.map Item.enc).flatMap SV.cells)) }) := by
  by_cases hx : xs = []
  · subst hx
    refine .inl ⟨rfl, app_zero (len := es.length) ?_⟩
    cases o with
    | none => exact .inl rfl
    | some j => exact .inr ⟨j, rfl⟩
  · refine .inr ⟨hx, ?_⟩
    have hxl : xs.length ≠ 0 := by cases xs <;> simp at hx ⊢
    cases o with
    | none =>
      have he := H.none rfl
      subst he
      have := app_any (H := X) (p := p) (len := 0) (m := xs.length) (s := .imm 0 [] true) (x := itemsE xs) (xs := []) (ys := (xs.map Item.enc).flatMap SV.cells) (upd := none) (.inl ⟨rfl, rfl, rfl, rfl⟩) (by simp [zOk]) (by simp [lenS]) rfl hxl (by omega)
      simpa [AccV] using this
    | some j =>
      have hj := hX j rfl
      have := app_any (H := X) (p := p) (len := es.length) (m := xs.length) (s := .sl j 0 11 es.length false) (x := itemsE xs) (xs := es.flatMap SV.cells) (ys := (xs.map Item.enc).flatMap SV.cells) (upd := some (j, none)) (.inr ⟨j, _, rfl, hj, by simp [takeN, flat_len H.size]; rw [← flat_len H.size, List.take_length], rfl⟩) (by simp [zOk]) (by simp [lenS]) rfl hxl (by omega)
      simpa [AccV] using this
theorem app_items_live {h X : Hp} {n m p : Nat} {o : Option Nat} {es : List SV} (hb : ∀ j y, h j = some y → j < n) (hnm : n ≤ m) (H : AccI n m 11 o es) (hm : m ≤ p) (hX : ∀ j y, AccH o es h j = some y → X j = some y) (xs : List Item) (hroom : es.length + xs.length ≤ 1073741824) :
    ∃ out, builtinS Tryz.prog X p .append [22, 22] [AccV 11 o es, itemsE xs] = some out ∧ ∃ o', AccI n (if out.new.isSome = true then p + 1 else p) 11 o' (es ++ xs.map Item.enc) ∧ out.val = AccV 11 o' (es ++ xs.map Item.enc) ∧ ∀ j y, AccH o' (es ++ xs.map Item.enc) h j = some y → (Out.app X p out) j = some y := by
  have hX1 : ∀ j, o = some j → X j = some (.cells (es.flatMap SV.cells)) := fun j e => hX j _ (acc_at j e)
  have hX2 : ∀ j y, h j = some y → X j = some y := fun j y e => hX j y (acc_old hb H j y e)
  rcases app_items H hX1 xs hroom p with ⟨rfl, e⟩ | ⟨hne, e⟩
  · exact ⟨_, e, o, by simpa using H.mono hm, by simp, fun j y e => by simp at e; simpa [Out.app] using hX j y e⟩
  · refine ⟨_, e, some p, ⟨by simp, fun j e => by cases e; simp; omega, fun e he => ?_⟩, by simp [AccV], fun j y e => ?_⟩
    · rcases List.mem_append.1 he with he | he
      · exact H.size e he
      · exact Item.E.size xs e he
    · simp only [AccH, List.flatMap_append] at e
      by_cases e1 : j = p
      · subst e1
        rw [hset_at] at e
        simp only [Out.app, hset_at]; exact e
      · rw [hset_ne _ _ e1] at e
        have h1 := hb j y e
        have h2 := hX2 j y e
        cases o with
        | none => simp [Out.app, hset_ne _ _ e1, h2]
        | some q =>
          have h3 := (H.lt q rfl).1
          simp [Out.app, hset_ne _ _ e1, hset_ne _ _ (show j ≠ q by omega), h2]
theorem d115f (C : LClo st n0 g a b f ok) (hfl : FlC st n0 g a b fl P) (l : List Item) (hl : l.length ≤ 1048576) (hr : ∀ x ∈ l, okI ok P x) (id : Int) (sc : Scope) (mid : Bool) (hns : ¬ (id = sc.id ∧ mid = false)) (s : σ) {H : Hp} {n : Nat} (hn : n0 ≤ n) (hs : ∀ o y, st s o = some y → H o = some y) :
    SCall Tryz.prog 115 [itemsE l, intE id, sc.enc, .bool mid, .fn (.func g) a b] H n (fun v h' n' => v = itemsE (llist f fl sc mid l s).1 ∧ h' = upS st (llist f fl sc mid l s).2 H ∧ n' = n) := by
  have D := C.cx
  refine d115n (mid := mid) (sc := sc) C hfl l hl hr id hns s hn hs fun ho o m hm hA => ?_
  exact ret_accU (D.old _ hn ho) hA (fun e he => by obtain ⟨x, _, rfl⟩ := List.mem_map.1 he; exact Item.cl n x)
set_option maxHeartbeats 2000000 in
theorem d115 (C : LClo st n0 g a b f ok) (hp : Head → Prop) (K : Nat) (hK : K ≤ 349525) (hok : ∀ h : Head, hp h → ok h ∧ h.sized) : ∀ N, FlC st n0 g a b (lflow f N) (lim hp K N)
  | 0 => fun id l sc mid s H n h => h.elim
  | N + 1 => fun id l sc mid s H n hl hn hs => by
    have ih := d115 C hp K hK hok N
    have D := C.cx
    have hsz := hl.sized (fun h e => (hok h e).2) (by omega)
    have htx : ∀ x ∈ l, x.text.size ≤ 1048576 := Item.sizedL_text hsz.2
    have hparts : ∀ l, lim hp K (N + 1) l → ∀ x ∈ l, okI ok (lim hp K N) x := fun l hl x hx => by
      obtain ⟨h1, h2, h3⟩ := lim_iff.1 hl
      obtain ⟨h4, h5, h6, h7⟩ := h3 x hx
      exact ⟨(hok _ h4).1, by have := textsL_mem hx; omega, h5, by omega, fun r hr => ⟨(hok _ (h7 r hr).1).1, by have := (h7 r hr).2.1; omega, fun c hc => ⟨(hok _ ((h7 r hr).2.2 c hc).1).1, ((h7 r hr).2.2 c hc).2⟩⟩⟩
    by_cases hin : id = sc.id ∧ mid = false
    · have he : lflow f (N + 1) id l sc mid s = ((llist f (lflow f N) noScope false (runSlice l 0 sc.a).1 s).1 ++ (llist f (lflow f N) noScope true (runSlice l sc.a sc.b).1 (llist f (lflow f N) noScope false (runSlice l 0 sc.a).1 s).2).1 ++ (llist f (lflow f N) noScope false (runSlice l sc.b (runLen l).1).1 (llist f (lflow f N) noScope true (runSlice l sc.a sc.b).1 (llist f (lflow f N) noScope false (runSlice l 0 sc.a).1 s).2).2).1, (llist f (lflow f N) noScope false (runSlice l sc.b (runLen l).1).1 (llist f (lflow f N) noScope true (runSlice l sc.a sc.b).1 (llist f (lflow f N) noScope false (runSlice l 0 sc.a).1 s).2).2).2) := by rw [lflow, if_pos hin]
      obtain ⟨rfl, rfl⟩ := hin
      rw [he]
      have l1 := lim_slice 0 sc.a hl
      have l2 := lim_slice sc.a sc.b hl
      have l3 := lim_slice sc.b (runLen l).1 hl
      have n1 := runSlice_len l 0 sc.a
      have n2 := runSlice_len l sc.a sc.b
      have n3 := runSlice_len l sc.b (runLen l).1
      have hlK := hl.1
      have c1 := c180 l 0 sc.a hsz.1 hsz.2
      have c2 := c180 l sc.a sc.b hsz.1 hsz.2
      have c3 := c180 l sc.b (runLen l).1 hsz.1 hsz.2
      refine goS Tryz.func115 rfl (by kernel_rfl) (by kernel_rfl) (by simp [go_sem]) fun ho => ?_
      have hU : ∀ s', Old (upS st s' H) n := fun s' => D.old s' hn ho
      have hUb : ∀ s' j y, upS st s' H j = some y → j < n := fun s' j y e => (hU s' j y e).1
      refine SP_mid 1 (α := Unit) (fun _ => [(0, itemsE l), (1, intE sc.id), (3, .bool false), (4, .fn (.func g) a b), (7, .iptr [intE sc.id, intE sc.a, intE sc.b])]) (fun _ => upS st s H) (fun _ m => n ≤ m) ?_ (fun _ m hm => ?_)
      · simp [go_sem, Scope.enc, Fz.same, upS_self s H hs]
        refine ⟨ptr_fz (ho.none (Nat.le_refl n)) (by simp [hset]), fun j y e => by rw [hset_ne _ _ (by have := (ho j y e).1; omega)]; exact e⟩
      refine SP_seq ?_
      refine SP_mid 0 (α := Unit) (fun _ => [(0, itemsE l), (4, .fn (.func g) a b), (7, .iptr [intE sc.id, intE sc.a, intE sc.b]), (39, .bool true)]) (fun _ => upS st s H) (fun _ m' => m = m') ?_ (fun _ m' hm' => ?_)
      · simp [go_sem, Fz.same]
      subst hm'
      refine SWE_cond (b := true) (by simp [go_sem]) ?_
      rw [if_pos rfl]
      refine SP_mid 0 (α := Unit) (fun _ => [(0, itemsE l), (4, .fn (.func g) a b), (7, .iptr [intE sc.id, intE sc.a, intE sc.b]), (11, itemsE (runSlice l 0 sc.a).1)]) (fun _ => upS st s H) (fun _ m2 => m ≤ m2) ?_ (fun _ m2 hm2 => ?_)
      · simp [go_sem]
        refine PC.use c1 ?_
        simp [go_sem, Fz.same]
      refine SP_mid 0 (α := Unit) (fun _ => [(0, itemsE l), (4, .fn (.func g) a b), (7, .iptr [intE sc.id, intE sc.a, intE sc.b]), (11, itemsE (runSlice l 0 sc.a).1), (13, itemsE (runSlice l sc.a sc.b).1)]) (fun _ => upS st s H) (fun _ m3 => m2 ≤ m3) ?_ (fun _ m3 hm3 => ?_)
      · simp [go_sem]
        refine PC.use c2 ?_
        simp [go_sem, Fz.same]
      refine SP_mid 0 (α := Unit) (fun _ => [(0, itemsE l), (4, .fn (.func g) a b), (7, .iptr [intE sc.id, intE sc.a, intE sc.b]), (11, itemsE (runSlice l 0 sc.a).1), (13, itemsE (runSlice l sc.a sc.b).1), (15, intE (runLen l).1)]) (fun _ => upS st s H) (fun _ m4 => m3 ≤ m4) ?_ (fun _ m4 hm4 => ?_)
      · simp [go_sem]
        refine PC.use (c35 l hsz.1 htx) ?_
        simp [go_sem, Fz.same]
      refine SP_mid 0 (α := Unit) (fun _ => [(4, .fn (.func g) a b), (11, itemsE (runSlice l 0 sc.a).1), (13, itemsE (runSlice l sc.a sc.b).1), (17, itemsE (runSlice l sc.b (runLen l).1).1)]) (fun _ => upS st s H) (fun _ m5 => m4 ≤ m5) ?_ (fun _ m5 hm5 => ?_)
      · simp [go_sem]
        refine PC.use c3 ?_
        simp [go_sem, Fz.same]
      refine SP_mid 1 (α := Unit) (fun _ => [(4, .fn (.func g) a b), (11, itemsE (runSlice l 0 sc.a).1), (13, itemsE (runSlice l sc.a sc.b).1), (17, itemsE (runSlice l sc.b (runLen l).1).1), (19, .iptr [intE (-1), intE 0, intE 0])]) (fun _ => upS st s H) (fun _ m6 => m5 ≤ m6) ?_ (fun _ m6 hm6 => ?_)
      · simp [go_sem, Fz.same, hset_at, hset_two]
        exact ⟨ptr_fz (lt_none (hUb _) (by omega)) (hset_at _ _ _), set_keep (fun j z e => by have := hUb s j z e; omega) look_same⟩
      generalize hr1 : (runSlice l 0 sc.a).1 = r1 at l1 n1 ⊢
      generalize hr2 : (runSlice l sc.a sc.b).1 = r2 at l2 n2 ⊢
      generalize hr3 : (runSlice l sc.b (runLen l).1).1 = r3 at l3 n3 ⊢
      have hno : ¬ ((-2 : Int) = noScope.id ∧ false = false) := by simp [noScope]
      have hno2 : ¬ ((-2 : Int) = noScope.id ∧ true = false) := by simp
      have w1 := fun m (hm : n ≤ m) => d115n (mid := false) (sc := noScope) C ih r1 (by omega) (hparts r1 l1) (-2) hno s (H := upS st s H) (n := m) (by omega) has_up (Q := fun v h' n' => m ≤ n' ∧ ∃ o, AccI m n' 11 o ((llist f (lflow f N) noScope false r1 s).1.map Item.enc) ∧ v = AccV 11 o ((llist f (lflow f N) noScope false r1 s).1.map Item.enc) ∧ h' = AccH o ((llist f (lflow f N) noScope false r1 s).1.map Item.enc) (upS st (llist f (lflow f N) noScope false r1 s).2 H)) (fun _ o m' hm' hA => .inl ⟨hm', o, hA, rfl, by rw [D.up2]⟩)
      have e1 := llist_len (f := f) (fl := lflow f N) (sc := noScope) (mid := false) r1 ([], s)
      have z1 : llist f (lflow f N) noScope false r1 s = r1.foldl (lstep f (lflow f N) noScope false) ([], s) := rfl
      rw [← z1] at e1
      generalize llist f (lflow f N) noScope false r1 s = q1 at w1 e1 ⊢
      obtain ⟨q1, s1⟩ := q1
      have w2 := fun (X : Hp) (hX : ∀ k w, st s1 k = some w → X k = some w) m (hm : n ≤ m) => d115f C ih r2 (by omega) (hparts r2 l2) (-2) noScope true hno2 s1 (H := X) (n := m) (by omega) hX
      have e2 := llist_len (f := f) (fl := lflow f N) (sc := noScope) (mid := true) r2 ([], s1)
      have z2 : llist f (lflow f N) noScope true r2 s1 = r2.foldl (lstep f (lflow f N) noScope true) ([], s1) := rfl
      rw [← z2] at e2
      dsimp only at w1 e1 ⊢
      generalize llist f (lflow f N) noScope true r2 s1 = q2 at w2 e2 ⊢
      obtain ⟨q2, s2⟩ := q2
      have w3 := fun (X : Hp) (hX : ∀ k w, st s2 k = some w → X k = some w) m (hm : n ≤ m) => d115f C ih r3 (by omega) (hparts r3 l3) (-2) noScope false hno s2 (H := X) (n := m) (by omega) hX
      have e3 := llist_len (f := f) (fl := lflow f N) (sc := noScope) (mid := false) r3 ([], s2)
      have z3 : llist f (lflow f N) noScope false r3 s2 = r3.foldl (lstep f (lflow f N) noScope false) ([], s2) := rfl
      rw [← z3] at e3
      dsimp only at w2 e2 ⊢
      generalize llist f (lflow f N) noScope false r3 s2 = q3 at w3 e3 ⊢
      obtain ⟨q3, s3⟩ := q3
      dsimp only at w3 e3 ⊢
      simp only [Scope.enc, noScope] at w1 w2 w3
      simp only [List.length_nil, Nat.zero_add] at e1 e2 e3
      have hlo : ∀ {m m2 : Nat} {o : Option Nat} {es : List SV}, n ≤ m → AccI m m2 11 o es → AccI n m2 11 o es := fun h H => ⟨H.none, fun j e => ⟨by have := (H.lt j e).1; omega, (H.lt j e).2⟩, H.size⟩
      refine SP_mid 0 (α := Option Nat) (fun o => [(4, .fn (.func g) a b), (13, itemsE r2), (17, itemsE r3), (19, .iptr [intE (-1), intE 0, intE 0]), (20, AccV 11 o (q1.map Item.enc))]) (fun o => AccH o (q1.map Item.enc) (upS st s1 H)) (fun o m => n ≤ m ∧ AccI n m 11 o (q1.map Item.enc)) ?_ (fun o m7 hm7 => ?_)
      · simp [go_sem]
        refine SC.use (w1 m6 (by omega)) ?_
        rintro v H' n' ⟨h1, o, h2, rfl, rfl⟩
        simp [go_sem, Fz.same]
        exact ⟨o, ⟨by omega, hlo (by omega) h2⟩, rfl, look_same⟩
      obtain ⟨hm7, hA1⟩ := hm7
      refine SP_mid 0 (α := Option Nat) (fun o => [(4, .fn (.func g) a b), (17, itemsE r3), (19, .iptr [intE (-1), intE 0, intE 0]), (20, AccV 11 o (q1.map Item.enc ++ q2.map Item.enc))]) (fun o => AccH o (q1.map Item.enc ++ q2.map Item.enc) (upS st s2 H)) (fun o m => n ≤ m ∧ AccI n m 11 o (q1.map Item.enc ++ q2.map Item.enc)) ?_ (fun o m8 hm8 => ?_)
      · have w := w2 (AccH o (q1.map Item.enc) (upS st s1 H)) (D.has hn hA1 has_up) m7 hm7
        rw [D.acc hn hA1, D.up2] at w
        simp [go_sem]
        refine SC.use w ?_
        rintro v H' n' ⟨rfl, rfl, rfl⟩
        obtain ⟨out, b1, o', b2, b3, b4⟩ := app_items_live (h := upS st s2 H) (hUb s2) hm7 hA1 (Nat.le_refl _) (X := AccH o (q1.map Item.enc) (upS st s2 H)) look_same q2 (by rw [List.length_map]; omega)
        simp [go_sem, Fz.same, b1]
        exact ⟨o', ⟨by split <;> omega, b2⟩, b3, b4⟩
      obtain ⟨hm8, hA2⟩ := hm8
      refine SP_mid 0 (α := Option Nat) (fun o => [(10, AccV 11 o ((q1 ++ q2 ++ q3).map Item.enc))]) (fun o => AccH o ((q1 ++ q2 ++ q3).map Item.enc) (upS st s3 H)) (fun o m => n ≤ m ∧ AccI n m 11 o ((q1 ++ q2 ++ q3).map Item.enc)) ?_ (fun o m9 hm9 => ?_)
      · have w := w3 (AccH o (q1.map Item.enc ++ q2.map Item.enc) (upS st s2 H)) (D.has hn hA2 has_up) m8 hm8
        rw [D.acc hn hA2, D.up2] at w
        simp [go_sem]
        refine SC.use w ?_
        rintro v H' n' ⟨rfl, rfl, rfl⟩
        obtain ⟨out, b1, o', b2, b3, b4⟩ := app_items_live (h := upS st s3 H) (hUb s3) hm8 hA2 (Nat.le_refl _) (X := AccH o (q1.map Item.enc ++ q2.map Item.enc) (upS st s3 H)) look_same q3 (by simp; omega)
        simp [go_sem, b1]
        simp only [List.append_assoc] at b2 b3 b4
        exact ⟨o', ⟨by split <;> omega, b2⟩, b3, b4⟩
      · refine SP_of ?_
        simp [go_sem]
        have := ret_accU (n' := m9) (hU s3) hm9.2 (fun e he => by obtain ⟨x, _, rfl⟩ := List.mem_map.1 he; exact Item.cl n x)
        simp only [itemsE, List.map_append, List.append_assoc] at this ⊢
        exact this
    · have he : lflow f (N + 1) id l sc mid s = llist f (lflow f N) sc mid l s := by rw [lflow, if_neg hin]
      rw [he]
      exact d115f C ih l hsz.1 (hparts l hl) id sc mid hin s hn hs
end
def zHead : Head := ⟨[], 0, 0, [], []⟩
def cntM (rev : Int) (s : Int × Int) (x : SPart) : Int × Int :=
  if x.head.usesM rev then if x.mid then (IntKind.i64.wrap (s.1 + x.units), s.2) else (s.1, IntKind.i64.wrap (s.2 + x.units)) else s
def cntF (rev : Int) (s : Int × Int) (x : SPart) : Head × Bool × (Int × Int) := (zHead, true, cntM rev s x)
theorem ret_fzU {h h2 : Hp} {n n' : Nat} {v r : SV} (k : Nat) (ho : Old h n) (hf : Fz h2 h k v r) (hc : closed n r = true) (hh : ∀ j y, h j = some y → h2 j = some y) : RetS n h2 n' v (fun w h' n' => w = r ∧ h' = h ∧ n' = n) :=
  .inr ⟨k, r, h, hf, hc, fun j x e => ⟨hh j x e, ho j x e⟩, rfl, rfl, rfl⟩
set_option maxHeartbeats 2000000 in
theorem v40 {p q n0 : Nat} (hpq : p ≠ q) (hp : p < n0) (hq : q < n0) (rev : Int) : LClo (st2 p q) n0 40 [] [.iptr [intE rev], .ptr p 0, .ptr q 0] (cntF rev) (fun h => h.sized) where
  lt := (v37 hpq hp hq rev).lt
  dom := (v37 hpq hp hq rev).dom
  cl := (v37 hpq hp hq rev).cl
  call s x H n hx hn hs := by
    have a1 : H p = some (.cells [intE s.1]) := hs p _ (by simp [st2])
    have a2 : H q = some (.cells [intE s.2]) := hs q _ (by simp [st2, Ne.symm hpq])
    have b1 : p ≠ n + 1 := by omega
    have b2 : q ≠ n + 1 := by omega
    have b1' : n + 1 ≠ p := by omega
    have b2' : n + 1 ≠ q := by omega
    have D : Clo (st2 p q) n0 40 [] [.iptr [intE rev], .ptr p 0, .ptr q 0] (cntF rev) (fun _ => False) := ⟨(v37 hpq hp hq rev).lt, (v37 hpq hp hq rev).dom, (v37 hpq hp hq rev).cl, fun _ _ _ _ h => h.elim⟩
    refine goS Tryz.func40 rfl (by kernel_rfl) (by kernel_rfl) (by simp [go_sem]) fun ho => ?_
    have hU : ∀ s', Old (upS (st2 p q) s' H) n := fun s' => D.old s' hn ho
    have hUb : ∀ s' j y, upS (st2 p q) s' H j = some y → j < n := fun s' j y e => (hU s' j y e).1
    refine SP_mid 1 (α := Unit) (fun _ => [(1, intE x.units), (2, .bool x.mid), (3, .iptr [intE rev]), (4, .ptr p 0), (5, .ptr q 0), (6, .iptr x.head.flat), (9, .ptr (n + 1) 0)]) (fun _ => hset H (n + 1) (some (.cells [.imm 0 [] true, intE 0, intE 0, .imm 0 [] true, .imm 0 [] true]))) (fun _ m => n + 2 = m) ?_ (fun _ m hm => ?_)
    · simp [go_sem, Head.enc, Head.flat, Fz.same]
      refine ⟨ptr_fz (by rw [hset_ne _ _ (by omega)]; exact ho.none (Nat.le_refl n)) (by simp [hset]), fun j y => ?_⟩
      have := ho j y; simp only [hset]; grind
    subst hm
    have hset_st : ∀ y z, hset (hset (hset H (n + 1) z) p y) q (some (.cells [intE s.2])) = hset (hset (hset H (n + 1) z) p y) q (some (.cells [intE s.2])) := fun _ _ => rfl
    refine SP_mid 0 (α := Unit) (fun _ => [(9, .ptr (n + 1) 0)]) (fun _ => hset (upS (st2 p q) (cntM rev s x) H) (n + 1) (some (.cells [.imm 0 [] true, intE 0, intE 0, .imm 0 [] true, .imm 0 [] true]))) (fun _ m => n + 2 ≤ m) ?_ (fun _ m hm => ?_)
    · have hc := c41 x.head hx rev
      simp [go_sem, Head.flat]
      refine PC.use (by simpa [Head.enc, Head.flat] using hc) ?_
      rw [st2_up hpq]
      cases hu : x.head.usesM rev with
      | false =>
        have hk : cntM rev s x = s := by simp [cntM, hu]
        rw [hk]
        simp [go_sem]
        refine PC.use (by simpa [Head.enc, Head.flat] using hc) ?_
        simp [go_sem, hu, Fz.same]
        intro j y e; simp only [hset] at e ⊢; grind
      | true =>
        cases hmid : x.mid with
        | true =>
          have hk : cntM rev s x = (IntKind.i64.wrap (s.1 + x.units), s.2) := by simp [cntM, hu, hmid]
          rw [hk]
          simp [go_sem, a1, hset_ne, b1, Fz.same]
          intro j y e; simp only [hset] at e ⊢; grind
        | false =>
          have hk : cntM rev s x = (s.1, IntKind.i64.wrap (s.2 + x.units)) := by simp [cntM, hu, hmid]
          rw [hk]
          simp [go_sem]
          refine PC.use (by simpa [Head.enc, Head.flat] using hc) ?_
          simp [go_sem, hu, a2, hset_ne, b2, Fz.same]
          intro j y e; simp only [hset] at e ⊢; grind
    · refine SP_of ?_
      simp [go_sem, hset_at, hset_two]
      have := ret_fzU (h := upS (st2 p q) (cntM rev s x) H) (h2 := hset (upS (st2 p q) (cntM rev s x) H) (n + 1) (some (.cells [.imm 0 [] true, intE 0, intE 0, .imm 0 [] true, .imm 0 [] true]))) (n' := m) (v := .tup [.agg [.imm 0 [] true, intE 0, intE 0, .imm 0 [] true, .imm 0 [] true], .bool true]) (r := .tup [zHead.enc, .bool true]) 3 (hU _)
        (.inr ⟨.inr ⟨imm_fz (by simp), Fz.same, Fz.same, imm_fz (by simp), imm_fz (by simp), trivial⟩, Fz.same, trivial⟩) (by simp [closed, closedL, Head.enc, Head.flat, zHead]) (set_keep (fun j z e => by have := hUb _ j z e; omega) look_same)
      simpa [cntF] using this
section
variable {σ : Type} {st : σ → Nat → Option SObj} {n0 : Nat} {g : FuncId} {a b : List SV} {f : σ → SPart → Head × Bool × σ} {ok : Head → Prop} {sc : Scope}
def lvis0 (f : σ → SPart → Head × Bool × σ) (sc : Scope) (N : Nat) (d : Document) (s : σ) : Document × σ :=
  (⟨(lflow f N 0 d.flow sc false s).1, (f (lflow f N 0 d.flow sc false s).2 ⟨d.«end», false, 1⟩).1, [], d.settings⟩, (f (lflow f N 0 d.flow sc false s).2 ⟨d.«end», false, 1⟩).2.2)
set_option maxHeartbeats 2000000 in
theorem d39 (C : LClo st n0 g a b f ok) (hp : Head → Prop) (K : Nat) (hK : K ≤ 349525) (hok : ∀ h : Head, hp h → ok h ∧ h.sized) (N : Nat) (d : Document) (s : σ) (hl : lim hp K N d.flow) (hend : hp d.«end»)
    (h1 : (lvis0 f sc N d s).1.sized) (h2 : (lvis0 f sc N d s).1.normal.sized) (h3 : (addU [] (Item.usL (runNormal (lvis0 f sc N d s).1.flow) ++ (lvis0 f sc N d s).1.«end».all)).length ≤ 1048576) {H : Hp} {n : Nat} (hn : n0 ≤ n) (hs : ∀ o y, st s o = some y → H o = some y) :
    SCall Tryz.prog 39 [d.enc, sc.enc, .imm 0 [] true, .fn (.func g) a b] H n (fun v h' n' => v = (lvis0 f sc N d s).1.normal.enc ∧ h' = upS st (lvis0 f sc N d s).2 H ∧ n' = n) := by
  refine goS Tryz.func39 rfl (by kernel_rfl) (by kernel_rfl) (by simp [go_sem]) fun ho => ?_
  have D := C.cx
  have hU : ∀ s', Old (upS st s' H) n := fun s' => D.old s' hn ho
  have hUb : ∀ s' j y, upS st s' H j = some y → j < n := fun s' j y e => (hU s' j y e).1
  have e1 : n + 2 ≠ n := by omega
  have e2 : n ≠ n + 2 := by omega
  have hlive : ∀ s' y z, ∀ j w, upS st s' H j = some w → hset (hset (upS st s' H) n y) (n + 2) z j = some w := fun s' y z => set_keep (fun j z e => by have := hUb s' j z e; omega) (set_keep (hUb s') look_same)
  have hup : ∀ s1 s' y z, upS st s' (hset (hset (upS st s1 H) n y) (n + 2) z) = hset (hset (upS st s' H) n y) (n + 2) z := fun s1 s' y z => by rw [← D.hset _ _ (by omega), ← D.hset _ _ (by omega), D.up2]
  have hhas : ∀ s' y z, ∀ k w, st s' k = some w → hset (hset (upS st s' H) n y) (n + 2) z k = some w := fun s' y z => has_set C.lt (by omega) z (has_set C.lt hn y has_up)
  refine SP_mid 1 (α := Unit) (fun _ => [(2, .imm 0 [] true), (3, .fn (.func g) a b), (4, .ptr n 0), (5, .iptr [intE sc.id, intE sc.a, intE sc.b]), (8, .ptr (n + 2) 0)])
    (fun _ => hset (hset (upS st s H) n (some (.cells ([itemsE d.flow] ++ d.«end».flat ++ [revsE d.revs] ++ d.settings.flat)))) (n + 2) (some (.cells zDoc))) (fun _ m => m = n + 3) ?_ (fun _ m hm => ?_)
  · simp [go_sem, Scope.enc, Fz.same, upS_self s H hs, Document.enc, Head.flat, Settings.flat, Nat.add_assoc, zDoc]
    refine ⟨ptr_fz (by rw [hset_ne _ _ (by omega), hset_ne _ _ (by omega)]; exact ho.none (by omega)) (by simp [hset]), fun j y => ?_⟩
    have := ho j y; simp only [hset]; grind
  subst hm
  have c1 := d115 C hp K hK hok N 0 d.flow sc false s
  simp only [lvis0] at h1 h2 h3 ⊢
  generalize lflow f N 0 d.flow sc false s = q at c1 h1 h2 h3 ⊢
  obtain ⟨q, s1⟩ := q
  dsimp only at c1 h1 h2 h3 ⊢
  refine SP_mid 0 (α := Unit) (fun _ => [(2, .imm 0 [] true), (3, .fn (.func g) a b), (4, .ptr n 0), (8, .ptr (n + 2) 0)])
    (fun _ => hset (hset (upS st s1 H) n (some (.cells ([itemsE q] ++ d.«end».flat ++ [revsE d.revs] ++ d.settings.flat)))) (n + 2) (some (.cells zDoc))) (fun _ m => n + 3 ≤ m) ?_ (fun _ m hm => ?_)
  · have c2 := fun y z m (hm : n ≤ m) => c1 (hset (hset (upS st s H) n y) (n + 2) z) m hl (by omega) (hhas s y z)
    simp only [hup, Scope.enc] at c2
    simp [go_sem, Head.flat, Settings.flat, hset_at, hset_ne]
    refine SC.use (c2 _ _ _ (by omega)) ?_
    rintro v H' n' ⟨rfl, rfl, rfl⟩
    simp [go_sem, Fz.same, hset_at, hset_ne, hset_back e2]
  have c3 := fun y z m (hm : n ≤ m) => C.call s1 ⟨d.«end», false, 1⟩ (hset (hset (upS st s1 H) n y) (n + 2) z) m (hok _ hend).1 (by omega) (hhas s1 y z)
  generalize f s1 ⟨d.«end», false, 1⟩ = r at c3 h1 h2 h3 ⊢
  obtain ⟨h', k, s2⟩ := r
  simp only [hup, List.cons_append, List.nil_append, List.append_assoc] at c3
  dsimp only at c3 h1 h2 h3 ⊢
  refine SP_mid 0 (α := Unit) (fun _ => [(2, .imm 0 [] true), (4, .ptr n 0), (8, .ptr (n + 2) 0)])
    (fun _ => hset (hset (upS st s2 H) n (some (.cells ([itemsE q] ++ h'.flat ++ [revsE d.revs] ++ d.settings.flat)))) (n + 2) (some (.cells zDoc))) (fun _ m2 => m ≤ m2) ?_ (fun _ m2 hm2 => ?_)
  · simp [go_sem, Head.flat, Settings.flat, hset_at, hset_ne]
    refine SC.use (c3 _ _ _ (by omega)) ?_
    rintro v H' n' ⟨rfl, rfl, rfl⟩
    simp [go_sem, Fz.same, hset_at, hset_ne, hset_back e2, Head.enc, Head.flat]
  refine SP_mid 0 (α := Unit) (fun _ => [(4, .ptr n 0), (8, .ptr (n + 2) 0)])
    (fun _ => hset (hset (upS st s2 H) n (some (.cells ([itemsE q] ++ h'.flat ++ [.imm 0 [] true] ++ d.settings.flat)))) (n + 2) (some (.cells zDoc))) (fun _ m3 => m2 ≤ m3) ?_ (fun _ m3 hm3 => ?_)
  · simp [go_sem, Fz.same, Head.flat, Settings.flat, hset_at, hset_ne, hset_back e2]
  generalize hD : (⟨q, h', [], d.settings⟩ : Document) = D at h1 h2 h3 ⊢
  have hDf : q = D.flow ∧ h' = D.«end» ∧ [] = D.revs ∧ d.settings = D.settings := by rw [← hD]; exact ⟨rfl, rfl, rfl, rfl⟩
  obtain ⟨f1, f2, f3, f4⟩ := hDf
  rw [f1, f2] at h3
  rw [f1, f2, f4]
  refine SP_of ?_
  simp [go_sem, Head.flat, Settings.flat, hset_at, hset_ne]
  refine SCallE.fz (bs := [D.enc]) 2 look_same ⟨?_, trivial⟩ ?_
  · rw [Document.enc, ← f3]
    exact .inr ⟨Fz.same, Fz.same, Fz.same, Fz.same, Fz.same, Fz.same, imm_fz (by simp), Fz.same, Fz.same, Fz.same, Fz.same, trivial⟩
  refine PC.use (c21 D h1 h2 h3) ?_
  generalize hE : D.normal = E
  have hcl : closed n E.enc = true := by simp [Document.enc, Head.flat, Settings.flat, closed, closedL, Item.E.closedL, Prp.E.closedL, Del.E.closedL, Layer.E.closedL, Rev.E.closedL, Style.E.closedL, Lst.E.closedL, Comment.E.closedL, Var.E.closedL]
  simp [go_sem, Document.enc, Head.flat, Settings.flat, hset_at, zDoc]
  simp only [Document.enc, Head.flat, Settings.flat, List.cons_append, List.nil_append] at hcl
  exact ret_immU (hU s2) hcl (set_keep (fun j z e => by have := hUb s2 j z e; omega) (hlive s2 _ _))
end
def lawCount (N : Nat) (d : Document) (rev : Int) (sc : Scope) : Int × Int × Int :=
  if (docFlow d sc.id).isSome = false then (0, 0, 8)
  else if rangeBad sc (((docFlow d sc.id).map Fl.items).getD []) then (0, 0, 2)
  else if (rvFind d.revs rev).2 = false then (0, 0, 22)
  else ((lvis0 (cntF rev) sc N d (0, 0)).2.1, (lvis0 (cntF rev) sc N d (0, 0)).2.2, 0)
set_option maxHeartbeats 2000000 in
theorem c14n (hp : Head → Prop) (K : Nat) (hK : K ≤ 349525) (hok : ∀ h : Head, hp h → h.sized) (N : Nat) (d : Document) (rev : Int) (sc : Scope) (hl : lim hp K N d.flow) (hend : hp d.«end») (hr : d.revs.length ≤ 1048576)
    (hfl : ∀ fl, docFlow d sc.id = some fl → fl.items.length ≤ 1048576 ∧ ∀ x ∈ fl.items, x.text.size ≤ 1048576)
    (h1 : (lvis0 (cntF rev) sc N d (0, 0)).1.sized) (h2 : (lvis0 (cntF rev) sc N d (0, 0)).1.normal.sized) (h3 : (addU [] (Item.usL (runNormal (lvis0 (cntF rev) sc N d (0, 0)).1.flow) ++ (lvis0 (cntF rev) sc N d (0, 0)).1.«end».all)).length ≤ 1048576) :
    PC 14 [d.enc, intE rev, sc.enc] (.tup [intE (lawCount N d rev sc).1, intE (lawCount N d rev sc).2.1, intE (lawCount N d rev sc).2.2]) := by
  intro h n
  refine goS Tryz.func14 rfl (by kernel_rfl) (by kernel_rfl) (by simp [go_sem]) fun ho => ?_
  have e0 : n + 3 ≠ n + 4 := by omega
  have e1 : n + 4 ≠ n + 3 := by omega
  have hsz := hl.sized hok (by omega)
  refine SP_mid 1 (α := Unit) (fun _ => [(3, .iptr ([itemsE d.flow] ++ d.«end».flat ++ [revsE d.revs] ++ d.settings.flat)), (4, .iptr [intE rev]), (5, .iptr [intE sc.id, intE sc.a, intE sc.b]), (6, .ptr (n + 3) 0), (7, .ptr (n + 4) 0)]) (fun _ => upS (st2 (n + 3) (n + 4)) (0, 0) h) (fun _ m => n + 5 = m) ?_ (fun _ m hm => ?_)
  · rw [st2_up e0]
    simp [go_sem, Scope.enc, Document.enc, Head.flat, Settings.flat, Fz.same, Nat.add_assoc]
    refine ⟨⟨ptr_fz (by simp [hset]; exact ho.none (by omega)) (by simp [hset]), ptr_fz (by simp [hset]; exact ho.none (by omega)) (by simp [hset]), ptr_fz (by simp [hset]; exact ho.none (by omega)) (by simp [hset])⟩, fun j y => ?_⟩
    have := ho j y; simp only [hset]; grind
  subst hm
  have hend2 : ∀ (x y z : Int) (H : Hp), H (n + 3) = some (.cells [intE x]) → H (n + 4) = some (.cells [intE y]) → (∀ j w, j < n → h j = some w → H j = some w) → ∀ m, RetS n H m (.tup [intE x, intE y, intE z]) (Is (.tup [intE x, intE y, intE z]) h n) := fun x y z H _ _ hh m => retIs ho (fun j w e => hh j w (ho j w e).1 e) rfl (by simp [closed, closedL])
  have hold : ∀ s j w, j < n → h j = some w → upS (st2 (n + 3) (n + 4)) s h j = some w := fun s j w hj e => by simp only [upS, st2]; rw [if_neg (by omega), if_neg (by omega)]; exact e
  have g3 : ∀ s, upS (st2 (n + 3) (n + 4)) s h (n + 3) = some (.cells [intE s.1]) := fun s => by simp [upS, st2]
  have g4 : ∀ s, upS (st2 (n + 3) (n + 4)) s h (n + 4) = some (.cells [intE s.2]) := fun s => by simp [upS, st2]
  refine SP_mid 0 (α := Unit) (fun _ => [(3, .iptr ([itemsE d.flow] ++ d.«end».flat ++ [revsE d.revs] ++ d.settings.flat)), (4, .iptr [intE rev]), (5, .iptr [intE sc.id, intE sc.a, intE sc.b]), (6, .ptr (n + 3) 0), (7, .ptr (n + 4) 0), (9, itemsE (((docFlow d sc.id).map Fl.items).getD [])), (10, .bool (docFlow d sc.id).isSome)]) (fun _ => upS (st2 (n + 3) (n + 4)) (0, 0) h) (fun _ m => n + 5 ≤ m) ?_ (fun _ m hm => ?_)
  · simp [go_sem, Head.flat, Settings.flat]
    refine PC.use (by simpa [Document.enc, Head.flat, Settings.flat] using c34 d sc.id hsz.1 hsz.2) ?_
    simp [go_sem, Fz.same]
  cases hfd : docFlow d sc.id with
  | none =>
    have hc : lawCount N d rev sc = (0, 0, 8) := by simp [lawCount, hfd]
    rw [hc]
    refine SP_of ?_
    simp [go_sem, g3, g4, hset_at, hset_ne]
    refine hend2 0 0 8 _ ?_ ?_ ?_ _
    · simp [hset]
    · simp [hset]
    · intro j w hj e; rw [hset_ne _ _ (by omega), hset_ne _ _ (by omega)]; exact hold _ j w hj e
  | some fl =>
  obtain ⟨hfl1, hfl2⟩ := hfl fl hfd
  dsimp only [Option.map_some, Option.getD_some, Option.isSome_some]
  have hcs : lawCount N d rev sc = if rangeBad sc fl.items then (0, 0, 2) else if (rvFind d.revs rev).2 = false then (0, 0, 22) else ((lvis0 (cntF rev) sc N d (0, 0)).2.1, (lvis0 (cntF rev) sc N d (0, 0)).2.2, 0) := by simp [lawCount, hfd]
  refine SP_mid 0 (α := Unit) (fun _ => [(3, .iptr ([itemsE d.flow] ++ d.«end».flat ++ [revsE d.revs] ++ d.settings.flat)), (4, .iptr [intE rev]), (5, .iptr [intE sc.id, intE sc.a, intE sc.b]), (6, .ptr (n + 3) 0), (7, .ptr (n + 4) 0), (9, itemsE fl.items)]) (fun _ => upS (st2 (n + 3) (n + 4)) (0, 0) h) (fun _ m2 => m = m2) ?_ (fun _ m2 hm2 => ?_)
  · simp [go_sem, Fz.same]
  subst hm2
  by_cases hb : rangeBad sc fl.items
  · rw [if_pos hb] at hcs
    rw [hcs]
    refine SP_seq ?_
    refine SP_mid 0 (α := Unit) (fun _ => [(3, .iptr ([itemsE d.flow] ++ d.«end».flat ++ [revsE d.revs] ++ d.settings.flat)), (4, .iptr [intE rev]), (5, .iptr [intE sc.id, intE sc.a, intE sc.b]), (6, .ptr (n + 3) 0), (7, .ptr (n + 4) 0), (11, intE (runLen fl.items).1)]) (fun _ => upS (st2 (n + 3) (n + 4)) (0, 0) h) (fun _ m2 => m ≤ m2) ?_ (fun _ m2 hm2 => ?_)
    · simp [go_sem]
      refine PC.use (c35 fl.items hfl1 hfl2) ?_
      simp [go_sem, Fz.same]
    have fin : ∀ y1 y2 m', RetS n (hset (hset (upS (st2 (n + 3) (n + 4)) (0, 0) h) (n + 3) y1) (n + 4) y2) m' (.tup [intE 0, intE 0, intE 2]) (Is (.tup [intE 0, intE 0, intE 2]) h n) := fun y1 y2 m' =>
      retIs ho (fun j w e => by have := (ho j w e).1; rw [hset_ne _ _ (by omega), hset_ne _ _ (by omega)]; exact hold _ j w this e) rfl (by simp [closed, closedL])
    unfold rangeBad at hb
    refine SP_of ?_
    by_cases a0 : sc.a < 0
    · simp [go_sem, g3, g4, hset_at, hset_ne, a0]
      exact fin _ _ _
    · by_cases a1 : sc.b < sc.a
      · simp [go_sem, g3, g4, hset_at, hset_ne, a0, a1]
        exact fin _ _ _
      · have a2 : (runLen fl.items).1 < sc.b := by omega
        simp [go_sem, g3, g4, hset_at, hset_ne, a0, a1, a2]
        exact fin _ _ _
  rw [if_neg hb] at hcs
  refine SP_mid 0 (α := Unit) (fun _ => [(3, .iptr ([itemsE d.flow] ++ d.«end».flat ++ [revsE d.revs] ++ d.settings.flat)), (4, .iptr [intE rev]), (5, .iptr [intE sc.id, intE sc.a, intE sc.b]), (6, .ptr (n + 3) 0), (7, .ptr (n + 4) 0)]) (fun _ => upS (st2 (n + 3) (n + 4)) (0, 0) h) (fun _ m2 => m ≤ m2) ?_ (fun _ m2 hm2 => ?_)
  · unfold rangeBad at hb
    have a0 : ¬ sc.a < 0 := by omega
    have a1 : ¬ sc.b < sc.a := by omega
    have a2 : ¬ (runLen fl.items).1 < sc.b := by omega
    simp [go_sem]
    refine PC.use (c35 fl.items hfl1 hfl2) ?_
    simp [go_sem, Fz.same, a0, a1, a2]
  have cr := c20 d.revs hr rev
  generalize rvFind d.revs rev = rf at cr hcs
  obtain ⟨rf, kf⟩ := rf
  cases kf with
  | false =>
    have hcs2 : lawCount N d rev sc = (0, 0, 22) := by simpa using hcs
    rw [hcs2]
    have fin : ∀ y1 y2 y3 m', n + 5 ≤ m' → ∀ q, m' ≤ q → ∀ m'', RetS n (hset (hset (hset (upS (st2 (n + 3) (n + 4)) (0, 0) h) q y3) (n + 3) y1) (n + 4) y2) m'' (.tup [intE 0, intE 0, intE 22]) (Is (.tup [intE 0, intE 0, intE 22]) h n) := fun y1 y2 y3 m' _ q _ m'' =>
      retIs ho (fun j w e => by have := (ho j w e).1; rw [hset_ne _ _ (by omega), hset_ne _ _ (by omega), hset_ne _ _ (by omega)]; exact hold _ j w this e) rfl (by simp [closed, closedL])
    refine SP_of ?_
    have q1 : n + 3 ≠ m2 := by omega
    have q2 : n + 4 ≠ m2 := by omega
    simp [go_sem, Head.flat, Settings.flat]
    refine PC.use cr ?_
    simp [go_sem, g3, g4, hset_at, hset_ne, hset_two, q1, q2, Rev.enc]
    exact fin _ _ _ m2 (by omega) _ (Nat.le_refl _) _
  | true =>
    have hcs2 : lawCount N d rev sc = ((lvis0 (cntF rev) sc N d (0, 0)).2.1, (lvis0 (cntF rev) sc N d (0, 0)).2.2, 0) := by simpa using hcs
    rw [hcs2]
    clear hcs hcs2
    refine SP_mid 0 (α := Unit) (fun _ => [(3, .iptr ([itemsE d.flow] ++ d.«end».flat ++ [revsE d.revs] ++ d.settings.flat)), (4, .iptr [intE rev]), (5, .iptr [intE sc.id, intE sc.a, intE sc.b]), (6, .ptr (n + 3) 0), (7, .ptr (n + 4) 0)]) (fun _ => upS (st2 (n + 3) (n + 4)) (0, 0) h) (fun _ m3 => m2 ≤ m3) ?_ (fun _ m3 hm3 => ?_)
    · simp [go_sem, Head.flat, Settings.flat]
      refine PC.use cr ?_
      simp [go_sem, Fz.same, hset_at, hset_two, Rev.enc]
      exact set_keep (fun j z e => by
        simp only [upS, st2] at e
        by_cases x1 : j = n + 3
        · omega
        · by_cases x2 : j = n + 4
          · omega
          · rw [if_neg x1, if_neg x2] at e; have := (ho j z e).1; omega) look_same
    have c := d39 (sc := sc) (v40 (n0 := n + 5) e0 (by omega) (by omega) rev) hp K hK (fun h e => ⟨hok h e, hok h e⟩) N d (0, 0) hl hend h1 h2 h3 (H := upS (st2 (n + 3) (n + 4)) (0, 0) h) (n := m3) (by omega) has_up
    generalize (lvis0 (cntF rev) sc N d (0, 0)).2 = s2 at c ⊢
    have hu2 : upS (st2 (n + 3) (n + 4)) s2 (upS (st2 (n + 3) (n + 4)) (0, 0) h) = upS (st2 (n + 3) (n + 4)) s2 h := (v40 (n0 := n + 5) e0 (by omega) (by omega) rev).cx.up2 _ _ _
    rw [hu2] at c
    refine SP_mid 0 (α := Unit) (fun _ => [(6, .ptr (n + 3) 0), (7, .ptr (n + 4) 0)]) (fun _ => upS (st2 (n + 3) (n + 4)) s2 h) (fun _ m4 => m3 ≤ m4) ?_ (fun _ m4 hm4 => ?_)
    · simp [go_sem, Head.flat, Settings.flat]
      refine SCallE.fz (bs := [d.enc, sc.enc, .imm 0 [] true, .fn (.func 40) [] [.iptr [intE rev], .ptr (n + 3) 0, .ptr (n + 4) 0]]) 1 look_same ?_ ?_
      · refine ⟨?_, ?_, Fz.same, ?_, trivial⟩
        · simp [Document.enc, Head.flat, Settings.flat, Fz.same]
        · simp [Scope.enc, Fz.same]
        · exact Fz.same
      refine SC.use c ?_
      rintro v H' n' ⟨rfl, rfl, rfl⟩
      simp [go_sem, Fz.same]
    have fin : ∀ y1 y2 m'', RetS n (hset (hset (upS (st2 (n + 3) (n + 4)) s2 h) (n + 3) y1) (n + 4) y2) m'' (.tup [intE s2.1, intE s2.2, intE 0]) (Is (.tup [intE s2.1, intE s2.2, intE 0]) h n) := fun y1 y2 m'' =>
      retIs ho (fun j w e => by have := (ho j w e).1; rw [hset_ne _ _ (by omega), hset_ne _ _ (by omega)]; exact hold _ j w this e) rfl (by simp [closed, closedL])
    refine SP_midS 0 (α := Unit) (fun _ => [(6, .ptr (n + 3) 0), (7, .ptr (n + 4) 0), (8, intE 0)]) (fun _ => upS (st2 (n + 3) (n + 4)) s2 h) (fun _ m5 => m4 ≤ m5) (SP_tr trE rfl (by kernel_rfl) (by kernel_rfl) ?_) (fun _ m5 hm5 => ?_)
    · have hset_back : hset (hset (upS (st2 (n + 3) (n + 4)) s2 h) (n + 3) (some (.cells [intE s2.1]))) (n + 4) (some (.cells [intE s2.2])) = upS (st2 (n + 3) (n + 4)) s2 h := by
        funext j; simp only [hset, upS, st2]; grind
      simp [go_sem, trE, Fz.same, g3, g4, hset_ne, hset_back]
    · refine SP_of ?_
      simp [go_sem, g3, g4]
      exact retIs ho (fun j w e => hold _ j w (ho j w e).1 e) rfl (by simp [closed, closedL])
def TC (f : FuncId) (args : List SV) (T : SV → Prop) : Prop := ∀ h n, SCall Tryz.prog f args h n (fun v h' n' => T v ∧ h' = h ∧ n' = n)
theorem TC.use {E : Env} {f : FuncId} {args : List SV} {T : SV → Prop} (H : TC f args T) {h : Hp} {n : Nat} {K : SV → Hp → Nat → Prop} (hk : ∀ v, T v → K v h n) : SCallE E Tryz.prog f args h n K :=
  SCallE.lift <| (H h n).mono fun v _ _ ⟨e1, e2, e3⟩ => by subst e2; subst e3; exact hk v e1
theorem TC.mono {f : FuncId} {args : List SV} {T T' : SV → Prop} (H : TC f args T) (ht : ∀ v, T v → T' v) : TC f args T' := fun h n => (H h n).mono fun v _ _ ⟨e1, e2⟩ => ⟨ht v e1, e2⟩
theorem PC.t {f : FuncId} {args : List SV} {v : SV} {T : SV → Prop} (H : PC f args v) (hv : T v) : TC f args T := fun h n => (H h n).mono fun _ _ _ ⟨e1, e2, e3⟩ => ⟨by rw [e1]; exact hv, e2, e3⟩
theorem retT {h h' : Hp} {n n' : Nat} {v : SV} {T : SV → Prop} (ho : Old h n) (hh : ∀ o x, h o = some x → h' o = some x) (hc : closed n v = true) (hT : T v) : RetS n h' n' v (fun v2 h2 n2 => T v2 ∧ h2 = h ∧ n2 = n) :=
  RetS.plain hc ho hh ⟨hT, rfl, rfl⟩
theorem retTz {h h' : Hp} {n n' : Nat} {v' v : SV} {T : SV → Prop} (k : Nat) (ho : Old h n) (hh : ∀ o x, h o = some x → h' o = some x) (e : Fz h' h k v' v) (hc : closed n v = true) (hT : T v) : RetS n h' n' v' (fun v2 h2 n2 => T v2 ∧ h2 = h ∧ n2 = n) :=
  .inr ⟨k, v, h, e, hc, fun o x e => ⟨hh o x e, ho o x e⟩, hT, rfl, rfl⟩
theorem TC.lend {E : Env} {f : FuncId} {us bs : List SV} {T : SV → Prop} {h : Hp} {n : Nat} {K : SV → Hp → Nat → Prop} (k : Nat) (H : TC f bs T) (hp : ∀ v, T v → plainS v = true) (hw : All2 (Fz h (fun _ => none) k) us bs) (hk : ∀ v, T v → K v h n) : SCallE E Tryz.prog f us h n K := by
  refine ⟨(H h n).1, fun c vs _ R F A => ?_⟩
  have hs : ∀ o x, (fun _ => none : Hp) o = some x → h o = some x := fun _ _ e => by cases e
  have A' : All2 (V (c.less fun _ => none)) bs vs := All2.trans3 (R := V c) (S := Fz h (fun _ => none) k) (T := V (c.less fun _ => none)) (fun a b g h1 h2 => Fz.sound R hs k h2 h1) A hw
  refine ((H (fun _ => none) n).2 (c.less fun _ => none) vs trivial (R.less hs) F A').mono ?_
  rintro e w' ⟨u, v', h', n', c', he, ⟨hT, rfl, rfl⟩, rfl, hv', R', F', X0⟩
  have hno : ∀ b, ¬ (c.less fun _ => none).own b := fun b ⟨o, x, st, e, _⟩ => by cases e
  have hρ : ∀ j, c'.ρ j = c.ρ j := fun j => by
    rcases Nat.lt_or_ge j n' with hj | hj
    · exact X0.same j hj
    · rw [F' j hj, F j hj]
  have X : Ext c { c with w := c'.w } := ⟨fun _ _ e => e, X0.ext.size, fun b hb ho => ⟨ho, (X0.ext.keep b hb (hno b)).2⟩, X0.ext.room, X0.ext.os, X0.ext.out⟩
  refine ⟨u, v', h, n', { c with w := c'.w }, he, hk v' hT, rfl, hv'.plain (hp v' hT), ⟨fun o x ho => ?_, R.inj, R.own⟩, F, ⟨X, Nat.le_refl _, fun _ _ => rfl⟩⟩
  refine (R.obj o x ho).mono X fun b st hb => ?_
  obtain ⟨b', st', hb', hlt⟩ := (R.obj o x ho).block
  rw [hb] at hb'; cases hb'
  exact (X0.ext.keep b hlt (hno b)).2
def Err (T : Prop) (v : SV) : Prop := ∃ e : Int, v = intE e ∧ (e = 0 → T)
theorem Err.plain {T : Prop} : ∀ v, Err T v → plainS v = true := fun _ ⟨_, e, _⟩ => by rw [e]; rfl
theorem Err.mono {T T' : Prop} (ht : T → T') : ∀ v, Err T v → Err T' v := fun _ ⟨e, h1, h2⟩ => ⟨e, h1, fun g => ht (h2 g)⟩
theorem Err.no {T : Prop} {e : Int} (h : e ≠ 0) : Err T (intE e) := ⟨e, rfl, fun g => absurd g h⟩
theorem Err.ok {T : Prop} {e : Int} (h : T) : Err T (intE e) := ⟨e, rfl, fun _ => h⟩
def formOK (x : Item) : Prop := (x.kind ≠ 6 → x.flow = []) ∧ (x.kind ≠ 7 → x.rows = [])
structure Bx where
  b : Bool
set_option maxHeartbeats 2000000 in
theorem t222 (x : Item) (hx : x.sized) : TC 222 [x.enc] (Err (formOK x)) := by
  intro h n
  refine goS Tryz.func222 rfl (by kernel_rfl) (by kernel_rfl) (by simp [go_sem]) fun ho => ?_
  obtain ⟨X, hX⟩ : ∃ X : SV, X = .iptr [intE x.kind, intE x.code, intE x.id, .str x.text, propsE x.head.props, intE x.head.ins, intE x.head.move, delsE x.head.dels, layersE x.head.layers, itemsE x.flow, rowsE x.rows] := ⟨_, rfl⟩
  refine SP_mid 1 (α := Unit) (fun _ => [(1, X)]) (fun _ => h) (fun _ m => n ≤ m) ?_ (fun _ m hm => ?_)
  · rw [hX]
    simp [go_sem, Item.enc_eq]
    exact ⟨ptr_fz (ho.none (Nat.le_refl n)) (hset_at _ _ _), set_keep (fun j z e => (ho j z e).1) look_same⟩
  refine SP_mid 0 (α := Bx) (fun b => [(1, X), (3, .bool b.b)]) (fun _ => h) (fun _ m => n ≤ m) ?_ (fun b3 m hm => ?_)
  · rw [hX]
    by_cases k : x.kind = 8
    · simp [go_sem, Fz.same, k, hm]; exact ⟨⟨_⟩, rfl⟩
    · simp [go_sem, Fz.same, k, hm]; exact ⟨⟨_⟩, rfl⟩
  refine SP_mid 0 (α := Bx) (fun b => [(1, X), (3, .bool b3.b), (4, .bool b.b)]) (fun _ => h) (fun _ m => n ≤ m) ?_ (fun b4 m hm => ?_)
  · rw [hX]
    by_cases k : x.kind = 1
    · simp [go_sem, Fz.same, k, hm]; exact ⟨⟨_⟩, rfl⟩
    · by_cases k5 : x.kind = 5
      · simp [go_sem, Fz.same, k5, hm]; exact ⟨⟨_⟩, rfl⟩
      · simp [go_sem, Fz.same, k, k5, hm]; exact ⟨⟨_⟩, rfl⟩
  refine SP_mid 0 (α := Bx) (fun b => [(1, X), (3, .bool b3.b), (4, .bool b4.b), (5, .bool b.b)]) (fun _ => h) (fun _ m => n ≤ m) ?_ (fun b5 m hm => ?_)
  · rw [hX]
    by_cases k : x.kind = 6
    · simp [go_sem, Fz.same, k, hm]; exact ⟨⟨_⟩, rfl⟩
    · by_cases k5 : x.kind = 7
      · simp [go_sem, Fz.same, k5, hm]; exact ⟨⟨_⟩, rfl⟩
      · simp [go_sem, Fz.same, k, k5, hm]; exact ⟨⟨_⟩, rfl⟩
  obtain ⟨b3⟩ := b3
  obtain ⟨b4⟩ := b4
  obtain ⟨b5⟩ := b5
  dsimp only
  refine SP_mid 0 (α := Unit) (fun _ => [(1, X), (3, .bool b3), (4, .bool b4), (5, .bool b5), (6, .bool true)]) (fun _ => h) (fun _ m => n ≤ m) ?_ (fun _ m hm => ?_)
  · simp [go_sem, Fz.same, hm]
  refine SP_mid 0 (α := Bx) (fun b => [(1, X), (3, .bool b3), (4, .bool b4), (5, .bool b5), (6, .bool b.b)]) (fun _ => h) (fun _ m => n ≤ m) ?_ (fun b6 m hm => ?_)
  · rw [hX]
    by_cases k : x.kind = 4
    · simp [go_sem, k]
      refine PC.use (c155 _ _ _) ?_
      simp [go_sem, Fz.same, hm]; exact ⟨⟨_⟩, rfl⟩
    · by_cases k2 : x.kind = 6
      · simp [go_sem, k2]
        refine PC.use (c155 _ _ _) ?_
        simp [go_sem, Fz.same, hm]; exact ⟨⟨_⟩, rfl⟩
      · by_cases k3 : x.kind = 8
        · simp [go_sem, k3]
          refine PC.use (c155 _ _ _) ?_
          simp [go_sem, Fz.same, hm]; exact ⟨⟨_⟩, rfl⟩
        · simp [go_sem, Fz.same, k, k2, k3, hm]; exact ⟨⟨_⟩, rfl⟩
  obtain ⟨b6⟩ := b6
  dsimp only
  refine SP_mid 0 (α := Bx) (fun b => [(1, X), (3, .bool b3), (4, .bool b4), (5, .bool b5), (6, .bool b6), (7, .bool b.b)]) (fun _ => h) (fun _ m => n ≤ m) ?_ (fun b7 m hm => ?_)
  · rw [hX]
    by_cases k : x.kind = 4
    · simp [go_sem, Fz.same, k, hm]; exact ⟨⟨_⟩, rfl⟩
    · by_cases k5 : x.kind = 6
      · simp [go_sem, Fz.same, k5, hm]; exact ⟨⟨_⟩, rfl⟩
      · simp [go_sem, Fz.same, k, k5, hm]; exact ⟨⟨_⟩, rfl⟩
  obtain ⟨b7⟩ := b7
  dsimp only
  have out : ∀ (e : Int) (m : Nat), e ≠ 0 → RetS n h m (intE e) (fun v h' n' => Err (formOK x) v ∧ h' = h ∧ n' = n) := fun e m he => retT ho look_same (by simp [closed]) (Err.no he)
  refine SP_midS 0 (α := Unit) (fun _ => []) (fun _ => h) (fun _ m => n ≤ m ∧ formOK x) ?_ (fun _ m hm => ?_)
  · refine SP_block ?_
    refine SP_mid 0 (α := Bx) (fun b => [(1, X), (3, .bool b3), (4, .bool b4), (5, .bool b5), (7, .bool b7), (70, .bool b.b)]) (fun _ => h) (fun _ m => n ≤ m) ?_ (fun b70 m hm => ?_)
    · rw [hX]
      simp [go_sem]
      refine PC.use (c155 _ _ _) ?_
      by_cases c : 1 ≤ x.kind ∧ x.kind ≤ 8
      · simp [go_sem, Fz.same, c, hm]; exact ⟨⟨_⟩, rfl⟩
      · simp [go_sem, Fz.same, c, hm]; exact ⟨⟨_⟩, rfl⟩
    obtain ⟨b70⟩ := b70
    dsimp only
    refine SWE_cond (b := b70) (by simp [go_sem]) ?_
    cases b70 with
    | true => exact SP_of (by simp [go_sem]; exact out _ _ (by decide))
    | false =>
    simp only [Bool.false_eq_true, if_false]
    refine SP_mid 0 (α := Bx) (fun b => [(1, X), (3, .bool b3), (79, .bool b.b)]) (fun _ => h) (fun b m => n ≤ m ∧ (b.b = false → formOK x)) ?_ (fun b79 m hm => ?_)
    · rw [hX]
      clear out
      unfold formOK
      cases b7 with
      | true =>
        cases b5 with
        | true =>
          cases b4 with
          | true =>
            by_cases k6 : x.kind = 6
            · by_cases r0 : x.rows = []
              · simp [go_sem, Fz.same, hm, k6, r0]
                exact ⟨⟨false⟩, rfl⟩
              · have r1 : 0 < x.rows.length := List.length_pos_iff.2 r0
                simp [go_sem, Fz.same, hm, k6, r1]
                exact ⟨⟨true⟩, by simp, rfl⟩
            · by_cases f0 : x.flow = []
              · by_cases k7 : x.kind = 7
                · simp [go_sem, Fz.same, hm, f0, k7]
                  exact ⟨⟨false⟩, rfl⟩
                · by_cases r0 : x.rows = []
                  · simp [go_sem, Fz.same, hm, k6, f0, k7, r0]
                    exact ⟨⟨false⟩, rfl⟩
                  · have r1 : 0 < x.rows.length := List.length_pos_iff.2 r0
                    simp [go_sem, Fz.same, hm, k6, f0, k7, r1]
                    exact ⟨⟨true⟩, by simp, rfl⟩
              · have f1 : 0 < x.flow.length := List.length_pos_iff.2 f0
                simp [go_sem, Fz.same, hm, k6, f1]
                exact ⟨⟨true⟩, by simp, rfl⟩
          | false =>
            by_cases t0 : x.text.toList = []
            · by_cases k6 : x.kind = 6
              · by_cases r0 : x.rows = []
                · simp [go_sem, Fz.same, hm, t0, k6, r0]
                  exact ⟨⟨false⟩, rfl⟩
                · have r1 : 0 < x.rows.length := List.length_pos_iff.2 r0
                  simp [go_sem, Fz.same, hm, t0, k6, r1]
                  exact ⟨⟨true⟩, by simp, rfl⟩
              · by_cases f0 : x.flow = []
                · by_cases k7 : x.kind = 7
                  · simp [go_sem, Fz.same, hm, t0, f0, k7]
                    exact ⟨⟨false⟩, rfl⟩
                  · by_cases r0 : x.rows = []
                    · simp [go_sem, Fz.same, hm, t0, k6, f0, k7, r0]
                      exact ⟨⟨false⟩, rfl⟩
                    · have r1 : 0 < x.rows.length := List.length_pos_iff.2 r0
                      simp [go_sem, Fz.same, hm, t0, k6, f0, k7, r1]
                      exact ⟨⟨true⟩, by simp, rfl⟩
                · have f1 : 0 < x.flow.length := List.length_pos_iff.2 f0
                  simp [go_sem, Fz.same, hm, t0, k6, f1]
                  exact ⟨⟨true⟩, by simp, rfl⟩
            · simp [go_sem, Fz.same, hm, t0]
              exact ⟨⟨true⟩, by simp, rfl⟩
        | false =>
          by_cases i0 : x.id = 0
          · cases b4 with
            | true =>
              by_cases k6 : x.kind = 6
              · by_cases r0 : x.rows = []
                · simp [go_sem, Fz.same, hm, i0, k6, r0]
                  exact ⟨⟨false⟩, rfl⟩
                · have r1 : 0 < x.rows.length := List.length_pos_iff.2 r0
                  simp [go_sem, Fz.same, hm, i0, k6, r1]
                  exact ⟨⟨true⟩, by simp, rfl⟩
              · by_cases f0 : x.flow = []
                · by_cases k7 : x.kind = 7
                  · simp [go_sem, Fz.same, hm, i0, f0, k7]
                    exact ⟨⟨false⟩, rfl⟩
                  · by_cases r0 : x.rows = []
                    · simp [go_sem, Fz.same, hm, i0, k6, f0, k7, r0]
                      exact ⟨⟨false⟩, rfl⟩
                    · have r1 : 0 < x.rows.length := List.length_pos_iff.2 r0
                      simp [go_sem, Fz.same, hm, i0, k6, f0, k7, r1]
                      exact ⟨⟨true⟩, by simp, rfl⟩
                · have f1 : 0 < x.flow.length := List.length_pos_iff.2 f0
                  simp [go_sem, Fz.same, hm, i0, k6, f1]
                  exact ⟨⟨true⟩, by simp, rfl⟩
            | false =>
              by_cases t0 : x.text.toList = []
              · by_cases k6 : x.kind = 6
                · by_cases r0 : x.rows = []
                  · simp [go_sem, Fz.same, hm, i0, t0, k6, r0]
                    exact ⟨⟨false⟩, rfl⟩
                  · have r1 : 0 < x.rows.length := List.length_pos_iff.2 r0
                    simp [go_sem, Fz.same, hm, i0, t0, k6, r1]
                    exact ⟨⟨true⟩, by simp, rfl⟩
                · by_cases f0 : x.flow = []
                  · by_cases k7 : x.kind = 7
                    · simp [go_sem, Fz.same, hm, i0, t0, f0, k7]
                      exact ⟨⟨false⟩, rfl⟩
                    · by_cases r0 : x.rows = []
                      · simp [go_sem, Fz.same, hm, i0, t0, k6, f0, k7, r0]
                        exact ⟨⟨false⟩, rfl⟩
                      · have r1 : 0 < x.rows.length := List.length_pos_iff.2 r0
                        simp [go_sem, Fz.same, hm, i0, t0, k6, f0, k7, r1]
                        exact ⟨⟨true⟩, by simp, rfl⟩
                  · have f1 : 0 < x.flow.length := List.length_pos_iff.2 f0
                    simp [go_sem, Fz.same, hm, i0, t0, k6, f1]
                    exact ⟨⟨true⟩, by simp, rfl⟩
              · simp [go_sem, Fz.same, hm, i0, t0]
                exact ⟨⟨true⟩, by simp, rfl⟩
          · simp [go_sem, Fz.same, hm, i0]
            exact ⟨⟨true⟩, by simp, rfl⟩
      | false =>
        by_cases c0 : x.code = 0
        · cases b5 with
          | true =>
            cases b4 with
            | true =>
              by_cases k6 : x.kind = 6
              · by_cases r0 : x.rows = []
                · simp [go_sem, Fz.same, hm, c0, k6, r0]
                  exact ⟨⟨false⟩, rfl⟩
                · have r1 : 0 < x.rows.length := List.length_pos_iff.2 r0
                  simp [go_sem, Fz.same, hm, c0, k6, r1]
                  exact ⟨⟨true⟩, by simp, rfl⟩
              · by_cases f0 : x.flow = []
                · by_cases k7 : x.kind = 7
                  · simp [go_sem, Fz.same, hm, c0, f0, k7]
                    exact ⟨⟨false⟩, rfl⟩
                  · by_cases r0 : x.rows = []
                    · simp [go_sem, Fz.same, hm, c0, k6, f0, k7, r0]
                      exact ⟨⟨false⟩, rfl⟩
                    · have r1 : 0 < x.rows.length := List.length_pos_iff.2 r0
                      simp [go_sem, Fz.same, hm, c0, k6, f0, k7, r1]
                      exact ⟨⟨true⟩, by simp, rfl⟩
                · have f1 : 0 < x.flow.length := List.length_pos_iff.2 f0
                  simp [go_sem, Fz.same, hm, c0, k6, f1]
                  exact ⟨⟨true⟩, by simp, rfl⟩
            | false =>
              by_cases t0 : x.text.toList = []
              · by_cases k6 : x.kind = 6
                · by_cases r0 : x.rows = []
                  · simp [go_sem, Fz.same, hm, c0, t0, k6, r0]
                    exact ⟨⟨false⟩, rfl⟩
                  · have r1 : 0 < x.rows.length := List.length_pos_iff.2 r0
                    simp [go_sem, Fz.same, hm, c0, t0, k6, r1]
                    exact ⟨⟨true⟩, by simp, rfl⟩
                · by_cases f0 : x.flow = []
                  · by_cases k7 : x.kind = 7
                    · simp [go_sem, Fz.same, hm, c0, t0, f0, k7]
                      exact ⟨⟨false⟩, rfl⟩
                    · by_cases r0 : x.rows = []
                      · simp [go_sem, Fz.same, hm, c0, t0, k6, f0, k7, r0]
                        exact ⟨⟨false⟩, rfl⟩
                      · have r1 : 0 < x.rows.length := List.length_pos_iff.2 r0
                        simp [go_sem, Fz.same, hm, c0, t0, k6, f0, k7, r1]
                        exact ⟨⟨true⟩, by simp, rfl⟩
                  · have f1 : 0 < x.flow.length := List.length_pos_iff.2 f0
                    simp [go_sem, Fz.same, hm, c0, t0, k6, f1]
                    exact ⟨⟨true⟩, by simp, rfl⟩
              · simp [go_sem, Fz.same, hm, c0, t0]
                exact ⟨⟨true⟩, by simp, rfl⟩
          | false =>
            by_cases i0 : x.id = 0
            · cases b4 with
              | true =>
                by_cases k6 : x.kind = 6
                · by_cases r0 : x.rows = []
                  · simp [go_sem, Fz.same, hm, c0, i0, k6, r0]
                    exact ⟨⟨false⟩, rfl⟩
                  · have r1 : 0 < x.rows.length := List.length_pos_iff.2 r0
                    simp [go_sem, Fz.same, hm, c0, i0, k6, r1]
                    exact ⟨⟨true⟩, by simp, rfl⟩
                · by_cases f0 : x.flow = []
                  · by_cases k7 : x.kind = 7
                    · simp [go_sem, Fz.same, hm, c0, i0, f0, k7]
                      exact ⟨⟨false⟩, rfl⟩
                    · by_cases r0 : x.rows = []
                      · simp [go_sem, Fz.same, hm, c0, i0, k6, f0, k7, r0]
                        exact ⟨⟨false⟩, rfl⟩
                      · have r1 : 0 < x.rows.length := List.length_pos_iff.2 r0
                        simp [go_sem, Fz.same, hm, c0, i0, k6, f0, k7, r1]
                        exact ⟨⟨true⟩, by simp, rfl⟩
                  · have f1 : 0 < x.flow.length := List.length_pos_iff.2 f0
                    simp [go_sem, Fz.same, hm, c0, i0, k6, f1]
                    exact ⟨⟨true⟩, by simp, rfl⟩
              | false =>
                by_cases t0 : x.text.toList = []
                · by_cases k6 : x.kind = 6
                  · by_cases r0 : x.rows = []
                    · simp [go_sem, Fz.same, hm, c0, i0, t0, k6, r0]
                      exact ⟨⟨false⟩, rfl⟩
                    · have r1 : 0 < x.rows.length := List.length_pos_iff.2 r0
                      simp [go_sem, Fz.same, hm, c0, i0, t0, k6, r1]
                      exact ⟨⟨true⟩, by simp, rfl⟩
                  · by_cases f0 : x.flow = []
                    · by_cases k7 : x.kind = 7
                      · simp [go_sem, Fz.same, hm, c0, i0, t0, f0, k7]
                        exact ⟨⟨false⟩, rfl⟩
                      · by_cases r0 : x.rows = []
                        · simp [go_sem, Fz.same, hm, c0, i0, t0, k6, f0, k7, r0]
                          exact ⟨⟨false⟩, rfl⟩
                        · have r1 : 0 < x.rows.length := List.length_pos_iff.2 r0
                          simp [go_sem, Fz.same, hm, c0, i0, t0, k6, f0, k7, r1]
                          exact ⟨⟨true⟩, by simp, rfl⟩
                    · have f1 : 0 < x.flow.length := List.length_pos_iff.2 f0
                      simp [go_sem, Fz.same, hm, c0, i0, t0, k6, f1]
                      exact ⟨⟨true⟩, by simp, rfl⟩
                · simp [go_sem, Fz.same, hm, c0, i0, t0]
                  exact ⟨⟨true⟩, by simp, rfl⟩
            · simp [go_sem, Fz.same, hm, c0, i0]
              exact ⟨⟨true⟩, by simp, rfl⟩
        · simp [go_sem, Fz.same, hm, c0]
          exact ⟨⟨true⟩, by simp, rfl⟩
    obtain ⟨b79⟩ := b79
    dsimp only at hm ⊢
    refine SWE_cond (b := b79) (by simp [go_sem]) ?_
    cases b79 with
    | true => exact SP_of (by simp [go_sem]; exact out _ _ (by decide))
    | false =>
    simp only [Bool.false_eq_true, if_false]
    refine SP_mid 0 (α := Bx) (fun b => [(1, X), (3, .bool b3), (127, .bool b.b)]) (fun _ => h) (fun b m => n ≤ m) ?_ (fun b127 m hm2 => ?_)
    · rw [hX]
      simp [go_sem]
      refine PC.use (c116 x.text (by have := (sized_parts hx).2.1; omega)) ?_
      simp [go_sem, Fz.same, hm.1]; exact ⟨⟨_⟩, rfl⟩
    obtain ⟨b127⟩ := b127
    dsimp only
    refine SWE_cond (b := b127) (by simp [go_sem]) ?_
    cases b127 with
    | true => exact SP_of (by simp [go_sem]; exact out _ _ (by decide))
    | false =>
    simp only [Bool.false_eq_true, if_false]
    refine SP_mid 0 (α := Bx) (fun b => [(1, X), (3, .bool b3), (132, .bool b.b)]) (fun _ => h) (fun b m => n ≤ m) ?_ (fun b132 m hm2 => ?_)
    · rw [hX]
      by_cases k1 : x.kind = 1
      · simp [go_sem, Fz.same, k1, hm2]; exact ⟨⟨_⟩, rfl⟩
      · by_cases k5 : x.kind = 5
        · simp [go_sem, Fz.same, k5, hm2]; exact ⟨⟨_⟩, rfl⟩
        · simp [go_sem, Fz.same, k1, k5, hm2]; exact ⟨⟨_⟩, rfl⟩
    obtain ⟨b132⟩ := b132
    dsimp only
    refine SWE_cond (b := b132) (by simp [go_sem]) ?_
    cases b132 with
    | true => exact SP_of (by simp [go_sem]; exact out _ _ (by decide))
    | false =>
    simp only [Bool.false_eq_true, if_false]
    refine SP_mid 0 (α := Bx) (fun b => [(1, X), (3, .bool b3), (146, .bool b.b)]) (fun _ => h) (fun b m => n ≤ m) ?_ (fun b146 m hm2 => ?_)
    · rw [hX]
      by_cases k5 : x.kind = 5
      · simp [go_sem, Fz.same, k5, hm2]; exact ⟨⟨_⟩, rfl⟩
      · simp [go_sem, Fz.same, k5, hm2]; exact ⟨⟨_⟩, rfl⟩
    obtain ⟨b146⟩ := b146
    dsimp only
    refine SWE_cond (b := b146) (by simp [go_sem]) ?_
    cases b146 with
    | true => exact SP_of (by simp [go_sem]; exact out _ _ (by decide))
    | false =>
    simp only [Bool.false_eq_true, if_false]
    refine SP_mid 0 (α := Bx) (fun b => [(156, .bool b.b)]) (fun _ => h) (fun b m => n ≤ m) ?_ (fun b156 m hm2 => ?_)
    · rw [hX]
      cases b3 with
      | false => simp [go_sem, hm2]; exact ⟨⟨_⟩, rfl⟩
      | true =>
        simp [go_sem]
        refine PC.use (c219 x.text) ?_
        simp [go_sem, hm2]; exact ⟨⟨_⟩, rfl⟩
    obtain ⟨b156⟩ := b156
    dsimp only
    refine SWE_cond (b := b156) (by simp [go_sem]) ?_
    cases b156 with
    | true => exact SP_of (by simp [go_sem]; exact out _ _ (by decide))
    | false =>
    refine SP_of ?_
    simp [go_sem]
    exact ⟨hm2, hm.2 rfl⟩
  · refine SP_of ?_
    simp [go_sem]
    exact retT ho look_same (by simp [closed]) (Err.ok hm.2)
def kvI (l : List (Int × Int)) : List (SV × SV) := l.map fun x => (intE x.1, intE x.2)
theorem findS_int (x : Int) : ∀ (l : List (Int × Int)) (i : Nat), findS (intE x) (kvI l) i = some none ∨ ∃ j k, findS (intE x) (kvI l) i = some (some (j, intE k))
  | [], i => .inl rfl
  | a :: l, i => by
    by_cases e : x = a.1
    · exact .inr ⟨i, a.2, by simp [kvI, findS, keyEq, e]⟩
    · have : (x == a.1) = false := by simpa using e
      rcases findS_int x l (i + 1) with h | ⟨j, k, h⟩
      · left; simp only [kvI, List.map_cons, findS, keyEq, if_true, this]; exact h
      · right; refine ⟨j, k, ?_⟩; simp only [kvI, List.map_cons, findS, keyEq, if_true, this]; exact h
structure Ck where
  p : Nat
  s0 : Nat
  s1 : Nat
  s2 : Nat
  s3 : Nat
  s4 : Nat
  m0 : List (Int × Int)
  m1 : List Int
  m2 : List Int
structure Ck.ok (K : Ck) (n0 : Nat) : Prop where
  nd : [K.p, K.s0, K.s1, K.s2, K.s3, K.s4].Nodup
  lt : ∀ o ∈ [K.p, K.s0, K.s1, K.s2, K.s3, K.s4], o < n0
abbrev CkS := List Int × Int
def Ck.cells (K : Ck) (c : Int) : List SV := [.map K.s0, .map K.s1, .map K.s2, .map K.s3, .map K.s4, intE c]
def Ck.st (K : Ck) (s : CkS) (o : Nat) : Option SObj :=
  if o = K.p then some (.cells (K.cells s.2)) else if o = K.s3 then some (.map (kvT s.1)) else if o = K.s0 then some (.map (kvI K.m0)) else if o = K.s1 then some (.map (kvT K.m1)) else if o = K.s2 then some (.map (kvT K.m2)) else if o = K.s4 then some (.map []) else none
section
variable {K : Ck} {n0 : Nat}
theorem Ck.ok.clo (h : K.ok n0) : Clo K.st n0 0 [] [] (fun s p => (p.head, true, s)) (fun _ => False) where
  lt s o ho := by
    have h1 := h.lt
    simp only [List.mem_cons, List.not_mem_nil, or_false, forall_eq_or_imp, forall_eq] at h1
    unfold Ck.st
    rw [if_neg (by omega), if_neg (by omega), if_neg (by omega), if_neg (by omega), if_neg (by omega), if_neg (by omega)]
  dom s s' o ho := by
    unfold Ck.st at ho ⊢
    repeat' split at ho
    all_goals first | cases ho | skip
    simp only [*, if_false]
  cl s o y ho := by
    have h1 := h.lt
    simp only [List.mem_cons, List.not_mem_nil, or_false, forall_eq_or_imp, forall_eq] at h1
    unfold Ck.st at ho
    repeat' split at ho
    all_goals first | cases ho | skip
    · simp [closedO, Ck.cells, closed, closedL]; omega
    · exact kvT_closed _ _
    · simp [closedO, kvI, closed]
    · exact kvT_closed _ _
    · exact kvT_closed _ _
    · simp [closedO]
  call := fun _ _ _ _ h => h.elim
structure Ck.has (K : Ck) (s : CkS) (H : Hp) : Prop where
  p : H K.p = some (.cells (K.cells s.2))
  s0 : H K.s0 = some (.map (kvI K.m0))
  s1 : H K.s1 = some (.map (kvT K.m1))
  s2 : H K.s2 = some (.map (kvT K.m2))
  s3 : H K.s3 = some (.map (kvT s.1))
  s4 : H K.s4 = some (.map [])
theorem Ck.ok.has (h : K.ok n0) {s : CkS} {H : Hp} (hs : ∀ o y, K.st s o = some y → H o = some y) : K.has s H := by
  have h1 := h.nd
  simp only [List.nodup_cons, List.mem_cons, List.not_mem_nil, or_false, not_or] at h1
  obtain ⟨⟨a1, a2, a3, a4, a5⟩, ⟨b2, b3, b4, b5⟩, ⟨c3, c4, c5⟩, ⟨d4, d5⟩, e5, _⟩ := h1
  constructor <;> refine hs _ _ ?_ <;> unfold Ck.st <;> simp [*, Ne.symm, eq_comm]
theorem ret_eU {H : Hp} {n n' : Nat} {h2 : Hp} (e : Int) {T : Int → Prop} (ho : Old H n) (hh : ∀ j y, H j = some y → h2 j = some y) (ht : T e) : RetS n h2 n' (intE e) (fun v h' n' => (∃ e, v = intE e ∧ T e) ∧ h' = H ∧ n' = n) :=
  .inr ⟨0, intE e, H, Fz.same, by simp [closed], fun j x g => ⟨hh j x g, ho j x g⟩, ⟨e, rfl, ht⟩, rfl, rfl⟩
set_option maxHeartbeats 1000000 in
theorem d157 (hK : K.ok n0) (s : CkS) (kind id : Int) {H : Hp} {n : Nat} (hs : ∀ o y, K.st s o = some y → H o = some y) :
    SCall Tryz.prog 157 [.ptr K.p 0, intE kind, intE id] H n (fun v h' n' => (∃ e, v = intE e) ∧ h' = H ∧ n' = n) := by
  refine go Tryz.func157 rfl (by kernel_rfl) (by kernel_rfl) (by simp [go_sem]) fun ho => ?_
  obtain ⟨hp, h0, h1, h2, h3, h4⟩ := hK.has hs
  have fin : ∀ (e : Int) (m : Nat), RetS n H m (intE e) (fun v h' n' => (∃ e, v = intE e) ∧ h' = H ∧ n' = n) := fun e m => by have := ret_eU (T := fun _ => True) (n' := m) e ho look_same trivial; simpa using this
  simp only [Ck.cells] at hp
  have main : kind = 20 ∨ kind = 1 ∨ (kind ≠ 20 ∧ kind ≠ 1) := by omega
  rcases main with e | e | ⟨e, e'⟩
  · by_cases i0 : id = 0
    · simp [go_sem, e, i0]
      refine (c87 _ _).use ?_
      simp [go_sem]; exact fin _ _
    · rcases findS_int id K.m0 0 with f | ⟨j, k, f⟩
      · simp [go_sem, e, i0, hp, h0, f, keyOk]
        refine (c87 _ _).use ?_
        simp [go_sem]; exact fin _ _
      · simp [go_sem, e, i0, hp, h0, f, keyOk]
        refine (c87 _ _).use ?_
        simp [go_sem]; exact fin _ _
  · by_cases i0 : id = 0
    · simp [go_sem, e, i0]
      refine (c87 _ _).use ?_
      simp [go_sem]; exact fin _ _
    · rcases findS_int id K.m0 0 with f | ⟨j, k, f⟩
      · simp [go_sem, e, i0, hp, h0, f, keyOk]
        refine (c87 _ _).use ?_
        simp [go_sem]; exact fin _ _
      · simp [go_sem, e, i0, hp, h0, f, keyOk]
        refine (c87 _ _).use ?_
        simp [go_sem]; exact fin _ _
  · by_cases e3 : kind = 33
    · by_cases i0 : id = 0
      · simp [go_sem, e3, i0]
        refine (c87 _ _).use ?_
        simp [go_sem]; exact fin _ _
      · by_cases hm : id ∈ K.m1
        · obtain ⟨j, f, _⟩ := findS_yes 0 hm
          simp [go_sem, e3, i0, hp, h1, f, keyOk]
          refine (c87 _ _).use ?_
          simp [go_sem]; exact fin _ _
        · have f := findS_no 0 hm
          simp [go_sem, e3, i0, hp, h1, f, keyOk]
          refine (c87 _ _).use ?_
          simp [go_sem]; exact fin _ _
    · simp [go_sem, e, e', e3]; exact fin _ _
def CQ (K : Ck) (T : Int → CkS → Prop) (H : Hp) (n : Nat) : SV → Hp → Nat → Prop := fun v h' n' => ∃ e s', v = intE e ∧ T e s' ∧ h' = upS K.st s' H ∧ n' = n
theorem Ck.ok.ret (hK : K.ok n0) {T : Int → CkS → Prop} {H h2 : Hp} {n m : Nat} (hn : n0 ≤ n) (ho : Old H n) (e : Int) (s' : CkS) (hT : T e s') (hh : ∀ j y, upS K.st s' H j = some y → h2 j = some y) : RetS n h2 m (intE e) (CQ K T H n) :=
  .inr ⟨0, intE e, upS K.st s' H, Fz.same, by simp [closed], fun j x g => ⟨hh j x g, hK.clo.old s' hn ho j x g⟩, e, s', rfl, hT, rfl, rfl⟩
theorem Ck.ok.no (hK : K.ok n0) {T : Int → CkS → Prop} {H h2 : Hp} {n m : Nat} (hn : n0 ≤ n) (ho : Old H n) (s : CkS) (hs : ∀ o y, K.st s o = some y → H o = some y) (e : Int) (hT : T e s) (hh : ∀ j y, H j = some y → h2 j = some y) : RetS n h2 m (intE e) (CQ K T H n) :=
  hK.ret hn ho e s hT (by rw [upS_self s H hs]; exact hh)
theorem kvT_push (l : List Int) (x : Int) : kvT l ++ [(intE x, .bool true)] = kvT (l ++ [x]) := by simp [kvT]
def idT (s : CkS) (id : Int) (e : Int) (s' : CkS) : Prop := e = 0 → s' = (s.1 ++ [id], s.2) ∧ 1 ≤ id ∧ id ≤ 1073741824 ∧ id ∉ s.1
theorem Ck.ok.up_ids (hK : K.ok n0) (s : CkS) (l : List Int) {H : Hp} (hs : ∀ o y, K.st s o = some y → H o = some y) : upS K.st (l, s.2) H = hset H K.s3 (some (.map (kvT l))) := by
  have h1 := hK.nd
  simp only [List.nodup_cons, List.mem_cons, List.not_mem_nil, or_false, not_or] at h1
  obtain ⟨⟨a1, a2, a3, a4, a5⟩, ⟨b2, b3, b4, b5⟩, ⟨c3, c4, c5⟩, ⟨d4, d5⟩, e5, _⟩ := h1
  funext o
  have g := hs o
  simp only [upS, Ck.st, hset] at g ⊢
  by_cases q0 : o = K.p
  · subst q0; simp only [if_true] at g ⊢; rw [if_neg a4]; exact (g _ rfl).symm
  · by_cases q1 : o = K.s3
    · have a4' : ¬ K.s3 = K.p := fun h => a4 h.symm
      simp [q1, a4']
    · simp only [q0, q1, if_false] at g ⊢
      split
      · rename_i y hy; exact (g y hy).symm
      · rfl
set_option maxHeartbeats 1000000 in
theorem d223 (hK : K.ok n0) (s : CkS) (id : Int) {H : Hp} {n : Nat} (hn : n0 ≤ n) (hs : ∀ o y, K.st s o = some y → H o = some y) :
    SCall Tryz.prog 223 [.ptr K.p 0, intE id] H n (CQ K (idT s id) H n) := by
  refine go Tryz.func223 rfl (by kernel_rfl) (by kernel_rfl) (by simp [go_sem]) fun ho => ?_
  obtain ⟨hp, h0, h1, h2, h3, h4⟩ := hK.has hs
  have no : ∀ (e : Int) (m : Nat), e ≠ 0 → RetS n H m (intE e) (CQ K (idT s id) H n) := fun e m he => hK.no hn ho s hs e (fun g => absurd g he) look_same
  simp only [Ck.cells] at hp
  by_cases r : 1 ≤ id ∧ id ≤ 1073741824
  · have f4 : findS (intE id) [] 0 = some none := rfl
    by_cases hm : id ∈ s.1
    · obtain ⟨j, f, _⟩ := findS_yes 0 hm
      simp [go_sem]
      refine (c155 _ _ _).use ?_
      simp [go_sem, r, hp, h4, h3, f, keyOk]
      exact no 7 _ (by decide)
    · have f := findS_no 0 hm
      simp [go_sem]
      refine (c155 _ _ _).use ?_
      simp [go_sem, r, hp, h4, h3, f, keyOk]
      refine hK.ret hn ho 0 (s.1 ++ [id], s.2) (fun _ => ⟨rfl, r.1, r.2, hm⟩) ?_
      rw [hK.up_ids s _ hs, kvT_push]
      exact look_same
  · simp [go_sem]
    refine (c155 _ _ _).use ?_
    simp [go_sem, r]
    exact no 18 _ (by decide)
end
def trL : Tr := .pure 0 <| .pure 1 <| .pure 2 <| .pure 3 <| .pure 5 <| .pure 6 <| .pure 7 <| .pure 8 <| .pure 9 <| .one 4 <| .one 10 <| .one 11 <| .one 12 <| .one 13 .nil
section
variable {K : Ck} {n0 : Nat}
def layT (K : Ck) (s : CkS) (x : Layer) (e : Int) (s' : CkS) : Prop := s' = s ∧ (e = 0 → x.rev ∈ K.m2)
set_option maxHeartbeats 2000000 in
theorem d159 (hK : K.ok n0) (s : CkS) (el : Int) (ls : List Layer) (hls : ls.length ≤ 1048576) (i : Nat) (hi : i < ls.length) {H : Hp} {n : Nat} (hn : n0 ≤ n) (hs : ∀ o y, K.st s o = some y → H o = some y) :
    SCall Tryz.prog 159 [.ptr K.p 0, intE el, layersE ls, intE i] H n (CQ K (layT K s ls[i]) H n) := by
  refine goS Tryz.func159 rfl (by kernel_rfl) (by kernel_rfl) (by simp [go_sem]) fun ho => ?_
  obtain ⟨x, hx⟩ : ∃ x, ls[i] = x := ⟨_, rfl⟩
  obtain ⟨hp, _, _, h2, _, _⟩ := hK.has hs
  simp only [Ck.cells] at hp
  have hKp : K.p < n := by have := hK.lt K.p (by simp); omega
  have hKs : K.s2 < n := by have := hK.lt K.s2 (by simp); omega
  have hHb : ∀ j y, H j = some y → j < n := fun j y e => (ho j y e).1
  have no : ∀ (e : Int) (m : Nat), e ≠ 0 → RetS n H m (intE e) (CQ K (layT K s ls[i]) H n) := fun e m he => hK.no hn ho s hs e ⟨rfl, fun g => absurd g he⟩ look_same
  refine SP_mid 0 (α := Unit) (fun _ => [(0, .ptr K.p 0), (1, intE el), (2, layersE ls), (3, intE i)]) (fun _ => H) (fun _ m => n = m) ?_ (fun _ m hm => ?_)
  · simp [go_sem, Fz.same]
  subst hm
  refine SP_mid 1 (α := Unit) (fun _ => [(0, .ptr K.p 0), (1, intE el), (2, layersE ls), (3, intE i), (9, .iptr [intE x.rev, intE x.key, intE x.before, .bool x.had])]) (fun _ => H) (fun _ m => n ≤ m) ?_ (fun _ m hm => ?_)
  · simp [go_sem, Fz.same, hi, hx, Layer.enc, hset_at]
    exact ⟨ptr_fz (lt_none hHb (Nat.le_refl _)) (hset_at _ _ _), set_keep hHb (set_keep hHb look_same)⟩
  rw [hx] at no ⊢
  refine SP_midS 0 (α := Unit) (fun _ => [(0, .ptr K.p 0), (9, .iptr [intE x.rev, intE x.key, intE x.before, .bool x.had])]) (fun _ => H) (fun _ m => n ≤ m ∧ x.rev ∈ K.m2) ?_ (fun _ m hm => ?_)
  · refine SP_block ?_
    refine SP_mid 0 (α := Bx) (fun b => [(0, .ptr K.p 0), (1, intE el), (2, layersE ls), (3, intE i), (9, .iptr [intE x.rev, intE x.key, intE x.before, .bool x.had]), (14, .bool b.b)]) (fun _ => H) (fun b m => n ≤ m ∧ (b.b = false → x.rev ∈ K.m2)) ?_ (fun b m hm => ?_)
    · by_cases hr : x.rev ∈ K.m2
      · obtain ⟨j, f, _⟩ := findS_yes 0 hr
        simp [go_sem, Fz.same, hp, h2, f, keyOk, hm, hr]
        repeat first | refine nd (by kernel_rfl) ?_ | refine sd (by kernel_rfl) ?_ | refine And.intro (by omega) ?_
        first | exact ⟨⟨false⟩, fun _ => hr, rfl⟩ | exact ⟨⟨false⟩, rfl⟩
      · have f := findS_no 0 hr
        simp [go_sem, Fz.same, hp, h2, f, keyOk, hm, hr]
        repeat first | refine nd (by kernel_rfl) ?_ | refine sd (by kernel_rfl) ?_ | refine And.intro (by omega) ?_
        first | exact ⟨⟨true⟩, by simp, rfl⟩ | exact ⟨⟨true⟩, rfl⟩
    obtain ⟨b⟩ := b
    dsimp only at hm ⊢
    refine SWE_cond (b := b) (by simp [go_sem]) ?_
    cases b with
    | true => exact SP_of (by simp [go_sem]; exact no 22 _ (by decide))
    | false =>
    simp only [Bool.false_eq_true, if_false]
    have hm2 := hm.2 rfl
    refine SP_mid 0 (α := Bx) (fun b => [(0, .ptr K.p 0), (1, intE el), (2, layersE ls), (3, intE i), (9, .iptr [intE x.rev, intE x.key, intE x.before, .bool x.had]), (23, .bool b.b)]) (fun _ => H) (fun b m => n ≤ m) ?_ (fun b m hm => ?_)
    · simp [go_sem]
      refine (c220 _ _).use ?_
      simp [go_sem, Fz.same, hm.1]; exact ⟨⟨_⟩, rfl⟩
    obtain ⟨b⟩ := b
    dsimp only at hm ⊢
    refine SWE_cond (b := b) (by simp [go_sem]) ?_
    cases b with
    | true => exact SP_of (by simp [go_sem]; exact no 4 _ (by decide))
    | false =>
    simp only [Bool.false_eq_true, if_false]
    refine SP_mid 0 (α := Bx) (fun b => [(0, .ptr K.p 0), (9, .iptr [intE x.rev, intE x.key, intE x.before, .bool x.had]), (29, .bool b.b)]) (fun _ => H) (fun b m => n ≤ m) ?_ (fun b m hm => ?_)
    · by_cases i0 : 0 < i
      · have hi1 : i - 1 < ls.length := by omega
        obtain ⟨y, hy⟩ : ∃ y, ls[i - 1] = y := ⟨_, rfl⟩
        have w : IntKind.i64.wrap ((i : Int) - 1) = ((i - 1 : Nat) : Int) := by rw [wr64] <;> omega
        simp [go_sem, Fz.same, i0, w, hi1, hy, Layer.enc, hm]
        repeat first | refine nd (by kernel_rfl) ?_ | refine sd (by kernel_rfl) ?_ | refine And.intro (by omega) ?_
        exact ⟨⟨_⟩, rfl⟩
      · simp [go_sem, Fz.same, i0, hm]
        repeat first | refine nd (by kernel_rfl) ?_ | refine sd (by kernel_rfl) ?_ | refine And.intro (by omega) ?_
        exact ⟨⟨_⟩, rfl⟩
    obtain ⟨b⟩ := b
    dsimp only at hm ⊢
    refine SWE_cond (b := b) (by simp [go_sem]) ?_
    cases b with
    | true => exact SP_of (by simp [go_sem]; exact no 6 _ (by decide))
    | false =>
    simp only [Bool.false_eq_true, if_false]
    refine SP_of ?_
    cases hh : x.had with
    | false =>
      simp [go_sem]
      refine (c87 _ _).use ?_
      simp [go_sem]
      exact hK.no hn ho s hs _ ⟨rfl, fun _ => hm2⟩ look_same
    | true =>
      simp [go_sem, Fz.same]
      exact ⟨hm, hm2⟩
  · have ret : ∀ (e : Int) (H2 : Hp) (m : Nat), (∀ j y, H j = some y → H2 j = some y) → RetS n H2 m (intE e) (CQ K (layT K s x) H n) := fun e H2 m hh => hK.no hn ho s hs e ⟨rfl, fun _ => hm.2⟩ hh
    refine SP_midS 0 (α := Int) (fun e => [(8, intE e)]) (fun _ => H) (fun _ m => n ≤ m) (SP_tr trL rfl (by kernel_rfl) (by kernel_rfl) ?_) (fun e m hm => ?_)
    · simp [go_sem, trL]
      refine (c221 _ _).use ?_
      simp [go_sem]
      refine SC.use (d157 hK s x.key x.before hs) ?_
      rintro v H' n' ⟨⟨e, rfl⟩, rfl, rfl⟩
      simp [go_sem]
      refine SCallE.fz (bs := [.imm 1 ([valueErr x.key x.before, e].map intE) false]) (h2 := H') 1 (set_keep (fun j z e => by have := hHb j z e; omega) look_same) ⟨?_, trivial⟩ ?_
      · exact sl_fz (es := [intE (valueErr x.key x.before), intE e]) (lt_none hHb hm.1) (by simp) (by rw [hset_at]; simp [SV.cells]) (by simp [SV.storable, SV.cells])
      refine (c82 _ (by simp)).use ?_
      simp [go_sem]
      first | exact ⟨by omega, _, Fz.same⟩ | exact ⟨_, by omega, Fz.same⟩ | exact ⟨_, Fz.same⟩
    · refine SP_of ?_
      simp [go_sem]
      exact ret _ _ _ look_same
end
section
variable {K : Ck} {n0 : Nat}
def allT (I : CkS → Prop) (e : Int) (s' : CkS) : Prop := e = 0 → I s'
theorem d150 (hK : K.ok n0) (N : Nat) (hN : N ≤ 1048576) (g : FuncId) (a b : List SV) (I : Nat → CkS → Prop)
    (step : ∀ i s' H n, i < N → I i s' → n0 ≤ n → (∀ o y, K.st s' o = some y → H o = some y) → SCall Tryz.prog g (a ++ [intE i] ++ b) H n (CQ K (allT (I (i + 1))) H n))
    (s : CkS) (h0 : I 0 s) {H : Hp} {n : Nat} (hn : n0 ≤ n) (hs : ∀ o y, K.st s o = some y → H o = some y) :
    SCall Tryz.prog 150 [intE N, .fn (.func g) a b] H n (CQ K (allT (I N)) H n) := by
  have D := hK.clo
  refine go Tryz.func150 rfl (by kernel_rfl) (by kernel_rfl) (by simp [go_sem]) fun ho => ?_
  simp [go_sem]
  refine goloop 0 (α := Nat × CkS) (fun q => [(1, .fn (.func g) a b), (7, intE N), (8, intE q.1)]) (fun q => upS K.st q.2 H) (fun q m => q.1 ≤ N ∧ n ≤ m ∧ I q.1 q.2) (fun q => N - q.1) (0, s) ?_ ?_ ?_ ?_
  · exact ⟨Nat.zero_le _, Nat.le_refl _, h0⟩
  · simp [look, Fz]
  · rw [upS_self s H hs]; exact look_same
  rintro ⟨i, s'⟩ m ⟨hi, hnm, hI⟩
  dsimp only at hi hI ⊢
  by_cases hlt : i < N
  · have w1 : IntKind.i64.wrap ((i : Int) + 1) = ((i + 1 : Nat) : Int) := by rw [wr64] <;> omega
    have hc := step i s' (upS K.st s' H) m hlt hI (by omega) has_up
    simp only [List.append_assoc, List.cons_append, List.nil_append] at hc
    simp [go_sem, hlt]
    refine SC.use hc ?_
    rintro v H' n' ⟨e, s2, rfl, hT, rfl, rfl⟩
    rw [D.up2]
    by_cases e0 : e = 0
    · subst e0
      simp [go_sem, w1, -Int.natCast_add]
      exact ⟨i + 1, by omega, s2.1, s2.2, ⟨by omega, hnm, hT rfl⟩, rfl, look_same⟩
    · simp [go_sem, e0]
      exact hK.ret hn ho e s2 (fun g => absurd g e0) look_same
  · have : i = N := by omega
    subst this
    simp [go_sem]
    exact hK.ret hn ho 0 s' (fun _ => hI) look_same
theorem d158 (hK : K.ok n0) (s : CkS) (el ins mv : Int) (dl : SV) (ls : List Layer) (hls : ls.length ≤ 1048576) (i : Nat) (hi : i < ls.length) {H : Hp} {n : Nat} (hn : n0 ≤ n) (hs : ∀ o y, K.st s o = some y → H o = some y) :
    SCall Tryz.prog 158 [intE i, .iptr [.ptr K.p 0], .iptr [intE el], .iptr [intE ins, intE mv, dl, layersE ls]] H n (CQ K (layT K s ls[i]) H n) := by
  refine go Tryz.func158 rfl (by kernel_rfl) (by kernel_rfl) (by simp [go_sem]) fun ho => ?_
  simp [go_sem]
  refine SC.use (d159 hK s el ls hls i hi hn hs) ?_
  rintro v H' n' ⟨e, s2, rfl, hT, rfl, rfl⟩
  simp [go_sem]
  exact hK.ret hn ho e s2 hT look_same
end
structure headOK (m2 : List Int) (h : Head) : Prop where
  ins : h.ins = 0 ∨ h.ins ∈ m2
  dlen : h.dels.length ≤ 16
  dels : ∀ x ∈ h.dels, x.rev ∈ m2
  llen : h.layers.length ≤ 64
  layers : ∀ x ∈ h.layers, x.rev ∈ m2
section
variable {K : Ck} {n0 : Nat}
def headT (K : Ck) (s : CkS) (h : Head) (e : Int) (s' : CkS) : Prop := e = 0 → s' = s ∧ headOK K.m2 h
set_option maxHeartbeats 4000000 in
theorem d86 (hK : K.ok n0) (s : CkS) (el : Int) (hd : Head) (hsz : hd.sized) {H : Hp} {n : Nat} (hn : n0 ≤ n) (hs : ∀ o y, K.st s o = some y → H o = some y) :
    SCall Tryz.prog 86 [.ptr K.p 0, intE el, hd.enc] H n (CQ K (headT K s hd) H n) := by
  refine goS Tryz.func86 rfl (by kernel_rfl) (by kernel_rfl) (by simp [go_sem]) fun ho => ?_
  obtain ⟨hp, _, _, h2, _, _⟩ := hK.has hs
  simp only [Ck.cells] at hp
  have hKp : K.p < n := by have := hK.lt K.p (by simp); omega
  have hKs : K.s2 < n := by have := hK.lt K.s2 (by simp); omega
  have hHb : ∀ j y, H j = some y → j < n := fun j y e => (ho j y e).1
  have no : ∀ (e : Int) (m : Nat), e ≠ 0 → RetS n H m (intE e) (CQ K (headT K s hd) H n) := fun e m he => hK.no hn ho s hs e (fun g => absurd g he) look_same
  refine SP_mid 1 (α := Unit) (fun _ => [(3, .iptr [.ptr K.p 0]), (4, .iptr [intE el]), (5, .iptr hd.flat)]) (fun _ => H) (fun _ m => n ≤ m) ?_ (fun _ m hm => ?_)
  · simp [go_sem, Head.enc, Head.flat, Nat.add_assoc]
    refine ⟨⟨ptr_fz (lt_none hHb (by omega)) (by simp [hset]), ptr_fz (lt_none hHb (by omega)) (by simp [hset]), ptr_fz (lt_none hHb (by omega)) (by simp [hset])⟩, fun j y => ?_⟩
    have := hHb j y; simp only [hset]; grind
  refine SP_midS 0 (α := Unit) (fun _ => [(3, .iptr [.ptr K.p 0]), (4, .iptr [intE el]), (5, .iptr hd.flat)]) (fun _ => H) (fun _ m => n ≤ m) (SP_of ?_) (fun _ m hm => ?_)
  · simp [go_sem, Head.flat]
    refine (c156 el hd.props hsz.props).use ?_
    by_cases e0 : propCheck el hd.props = 0
    · simp [go_sem, e0, Fz.same, hm]
    · simp [go_sem, e0]; exact no _ _ e0
  refine SP_midS 0 (α := Unit) (fun _ => [(3, .iptr [.ptr K.p 0]), (4, .iptr [intE el]), (5, .iptr hd.flat)]) (fun _ => H) (fun _ m => n ≤ m) ?_ (fun _ m hm => ?_)
  · refine SP_mid 0 (α := Unit) (fun _ => [(3, .iptr [.ptr K.p 0]), (4, .iptr [intE el]), (5, .iptr hd.flat), (22, propsE hd.props), (23, intE hd.props.length), (24, intE 0)]) (fun _ => H) (fun _ m => n ≤ m) ?_ (fun _ m hm => ?_)
    · simp [go_sem, Fz.same, Head.flat, hm]
    refine SP_block (goloopS 0 (α := Nat) (fun i => [(3, .iptr [.ptr K.p 0]), (4, .iptr [intE el]), (5, .iptr hd.flat), (22, propsE hd.props), (23, intE hd.props.length), (24, intE i)]) (fun _ => H) (fun i m => i ≤ hd.props.length ∧ n ≤ m) (fun i => hd.props.length - i) 0 ⟨Nat.zero_le _, hm⟩ ?_ look_same ?_)
    · simp [go_sem, look, Fz.same]
    rintro i m ⟨hi, hm⟩
    refine SP_of ?_
    by_cases hlt : i < hd.props.length
    · obtain ⟨x, hx⟩ : ∃ x, hd.props[i] = x := ⟨_, rfl⟩
      have w1 : IntKind.i64.wrap ((i : Int) + 1) = ((i + 1 : Nat) : Int) := by have := hsz.props; rw [wr64] <;> omega
      simp [go_sem, hlt, hx, Prp.enc, hset_at]
      refine SC.use (d157 hK s x.key x.value (has_set hK.clo.lt (by omega) _ (has_set hK.clo.lt (by omega) _ hs))) ?_
      rintro v H' n' ⟨⟨e, rfl⟩, rfl, rfl⟩
      by_cases e0 : e = 0
      · subst e0
        simp [go_sem, w1, -Int.natCast_add]
        refine ⟨i + 1, by omega, ⟨by omega, by omega⟩, by simp [Fz.same], set_keep (fun j z e => by have := hHb j z e; omega) (set_keep (fun j z e => by have := hHb j z e; omega) look_same)⟩
      · simp [go_sem, e0]
        exact hK.no hn ho s hs e (fun g => absurd g e0) (set_keep (fun j z e => by have := hHb j z e; omega) (set_keep (fun j z e => by have := hHb j z e; omega) look_same))
    · simp [go_sem, hlt, Fz.same, hm]
  refine SP_mid 1 (α := Unit) (fun _ => [(3, .iptr [.ptr K.p 0]), (4, .iptr [intE el]), (11, .iptr [intE hd.ins, intE hd.move, delsE hd.dels, layersE hd.layers])]) (fun _ => H) (fun _ m => n ≤ m) ?_ (fun _ m hm => ?_)
  · simp [go_sem, Fz.same, Head.flat, hset_at]
    have hHm : ∀ j y, H j = some y → j < m := fun j y e => by have := hHb j y e; omega
    exact ⟨by omega, ptr_fz (lt_none hHm (Nat.le_refl _)) (hset_at _ _ _), set_keep hHm (set_keep hHm look_same)⟩
  refine SP_midS 0 (α := Unit) (fun _ => [(3, .iptr [.ptr K.p 0]), (4, .iptr [intE el]), (11, .iptr [intE hd.ins, intE hd.move, delsE hd.dels, layersE hd.layers])]) (fun _ => H) (fun _ m => n ≤ m ∧ (hd.ins = 0 ∨ hd.ins ∈ K.m2) ∧ hd.dels.length ≤ 16) ?_ (fun _ m hm => ?_)
  · refine SP_block ?_
    refine SP_mid 0 (α := Bx) (fun b => [(3, .iptr [.ptr K.p 0]), (4, .iptr [intE el]), (11, .iptr [intE hd.ins, intE hd.move, delsE hd.dels, layersE hd.layers]), (40, .bool b.b)]) (fun _ => H) (fun b m => n ≤ m ∧ (b.b = false → hd.ins = 0 ∨ hd.ins ∈ K.m2)) ?_ (fun b m hm => ?_)
    · by_cases i0 : hd.ins = 0
      · simp [go_sem, Fz.same, i0, hm]
        repeat first | refine nd (by kernel_rfl) ?_ | refine sd (by kernel_rfl) ?_ | refine And.intro (by omega) ?_
        exact ⟨⟨false⟩, rfl⟩
      · by_cases hr : hd.ins ∈ K.m2
        · obtain ⟨j, f, _⟩ := findS_yes 0 hr
          simp [go_sem, Fz.same, i0, hp, h2, f, keyOk, hm, hr]
          repeat first | refine nd (by kernel_rfl) ?_ | refine sd (by kernel_rfl) ?_ | refine And.intro (by omega) ?_
          exact ⟨⟨false⟩, rfl⟩
        · have f := findS_no 0 hr
          simp [go_sem, Fz.same, i0, hp, h2, f, keyOk, hm, hr]
          repeat first | refine nd (by kernel_rfl) ?_ | refine sd (by kernel_rfl) ?_ | refine And.intro (by omega) ?_
          exact ⟨⟨true⟩, by simp, rfl⟩
    obtain ⟨b⟩ := b
    dsimp only at hm ⊢
    refine SWE_cond (b := b) (by simp [go_sem]) ?_
    cases b with
    | true => exact SP_of (by simp [go_sem]; exact no 22 _ (by decide))
    | false =>
    simp only [Bool.false_eq_true, if_false]
    have hm1 := hm.2 rfl
    refine SP_mid 0 (α := Bx) (fun b => [(3, .iptr [.ptr K.p 0]), (4, .iptr [intE el]), (11, .iptr [intE hd.ins, intE hd.move, delsE hd.dels, layersE hd.layers]), (54, .bool b.b)]) (fun _ => H) (fun b m => n ≤ m) ?_ (fun b m hm => ?_)
    · simp [go_sem]
      refine (c155 _ _ _).use ?_
      by_cases c : 0 ≤ hd.move ∧ hd.move ≤ 1073741824
      · by_cases m0 : hd.move = 0
        · simp [go_sem, Fz.same, m0, hm.1]; exact ⟨⟨_⟩, rfl⟩
        · simp [go_sem, Fz.same, c, m0, hm.1]; exact ⟨⟨_⟩, rfl⟩
      · simp [go_sem, Fz.same, c, hm.1]; exact ⟨⟨_⟩, rfl⟩
    obtain ⟨b⟩ := b
    dsimp only at hm ⊢
    refine SWE_cond (b := b) (by simp [go_sem]) ?_
    cases b with
    | true => exact SP_of (by simp [go_sem]; exact no 21 _ (by decide))
    | false =>
    simp only [Bool.false_eq_true, if_false]
    refine SP_of ?_
    by_cases c : (16 : Int) < hd.dels.length
    · simp [go_sem, c]; exact no 9 _ (by decide)
    · simp [go_sem, c, Fz.same, hm, hm1]; omega
  obtain ⟨hm, hi, hdl⟩ := hm
  refine SP_midS 0 (α := Unit) (fun _ => [(3, .iptr [.ptr K.p 0]), (4, .iptr [intE el]), (11, .iptr [intE hd.ins, intE hd.move, delsE hd.dels, layersE hd.layers])]) (fun _ => H) (fun _ m => n ≤ m ∧ ∀ x ∈ hd.dels, x.rev ∈ K.m2) ?_ (fun _ m hm => ?_)
  · refine SP_mid 0 (α := Unit) (fun _ => [(3, .iptr [.ptr K.p 0]), (4, .iptr [intE el]), (11, .iptr [intE hd.ins, intE hd.move, delsE hd.dels, layersE hd.layers]), (75, delsE hd.dels), (76, intE hd.dels.length), (77, intE 0)]) (fun _ => H) (fun _ m => n ≤ m) ?_ (fun _ m hm => ?_)
    · simp [go_sem, Fz.same, hm]
    refine SP_block (goloopS 0 (α := Nat) (fun i => [(3, .iptr [.ptr K.p 0]), (4, .iptr [intE el]), (11, .iptr [intE hd.ins, intE hd.move, delsE hd.dels, layersE hd.layers]), (75, delsE hd.dels), (76, intE hd.dels.length), (77, intE i)]) (fun _ => H) (fun i m => i ≤ hd.dels.length ∧ n ≤ m ∧ ∀ j (h : j < hd.dels.length), j < i → hd.dels[j].rev ∈ K.m2) (fun i => hd.dels.length - i) 0 ⟨Nat.zero_le _, hm, fun j _ h => by omega⟩ ?_ look_same ?_)
    · simp [go_sem, look, Fz.same]
    rintro i m ⟨hi2, hm, hI⟩
    by_cases hlt : i < hd.dels.length
    · obtain ⟨x, hx⟩ : ∃ x, hd.dels[i] = x := ⟨_, rfl⟩
      have w1 : IntKind.i64.wrap ((i : Int) + 1) = ((i + 1 : Nat) : Int) := by rw [wr64] <;> omega
      refine SP_mid 0 (α := Unit) (fun _ => [(3, .iptr [.ptr K.p 0]), (4, .iptr [intE el]), (11, .iptr [intE hd.ins, intE hd.move, delsE hd.dels, layersE hd.layers]), (75, delsE hd.dels), (76, intE hd.dels.length), (77, intE i), (78, .bool true)]) (fun _ => H) (fun _ m => n ≤ m) ?_ (fun _ m hm => ?_)
      · simp [go_sem, Fz.same, hm, hlt]
      refine SP_mid 0 (α := Unit) (fun _ => [(3, .iptr [.ptr K.p 0]), (4, .iptr [intE el]), (11, .iptr [intE hd.ins, intE hd.move, delsE hd.dels, layersE hd.layers]), (75, delsE hd.dels), (76, intE hd.dels.length), (77, intE i)]) (fun _ => H) (fun _ m => n ≤ m) ?_ (fun _ m hm => ?_)
      · simp [go_sem, Fz.same, hm]
      refine SP_midS 0 (α := Unit) (fun _ => [(3, .iptr [.ptr K.p 0]), (4, .iptr [intE el]), (11, .iptr [intE hd.ins, intE hd.move, delsE hd.dels, layersE hd.layers]), (75, delsE hd.dels), (76, intE hd.dels.length), (77, intE i)]) (fun _ => H) (fun _ m => n ≤ m ∧ x.rev ∈ K.m2) ?_ (fun _ m hm => ?_)
      · refine SP_block ?_
        refine SP_mid 1 (α := Unit) (fun _ => [(3, .iptr [.ptr K.p 0]), (4, .iptr [intE el]), (11, .iptr [intE hd.ins, intE hd.move, delsE hd.dels, layersE hd.layers]), (75, delsE hd.dels), (76, intE hd.dels.length), (77, intE i), (12, intE i), (13, .iptr [intE x.rev, intE x.move])]) (fun _ => H) (fun _ m => n ≤ m) ?_ (fun _ m hm => ?_)
        · simp [go_sem, Fz.same, hlt, hx, Del.enc, hset_at]
          have hHm : ∀ j y, H j = some y → j < m := fun j y e => by have := hHb j y e; omega
          exact ⟨by omega, ptr_fz (lt_none hHm (Nat.le_refl _)) (hset_at _ _ _), set_keep hHm (set_keep hHm look_same)⟩
        refine SP_block ?_
        refine SP_mid 0 (α := Bx) (fun b => [(3, .iptr [.ptr K.p 0]), (4, .iptr [intE el]), (11, .iptr [intE hd.ins, intE hd.move, delsE hd.dels, layersE hd.layers]), (75, delsE hd.dels), (76, intE hd.dels.length), (77, intE i), (12, intE i), (13, .iptr [intE x.rev, intE x.move]), (82, .bool b.b)]) (fun _ => H) (fun b m => n ≤ m ∧ (b.b = false → x.rev ∈ K.m2)) ?_ (fun b m hm => ?_)
        · by_cases hr : x.rev ∈ K.m2
          · obtain ⟨j, f, _⟩ := findS_yes 0 hr
            simp [go_sem, Fz.same, hp, h2, f, keyOk, hm, hr]
            repeat first | refine nd (by kernel_rfl) ?_ | refine sd (by kernel_rfl) ?_ | refine And.intro (by omega) ?_
            exact ⟨⟨false⟩, rfl⟩
          · have f := findS_no 0 hr
            simp [go_sem, Fz.same, hp, h2, f, keyOk, hm, hr]
            repeat first | refine nd (by kernel_rfl) ?_ | refine sd (by kernel_rfl) ?_ | refine And.intro (by omega) ?_
            exact ⟨⟨true⟩, by simp, rfl⟩
        obtain ⟨b⟩ := b
        dsimp only at hm ⊢
        refine SWE_cond (b := b) (by simp [go_sem]) ?_
        cases b with
        | true => exact SP_of (by simp [go_sem]; exact no 22 _ (by decide))
        | false =>
        simp only [Bool.false_eq_true, if_false]
        have hm1 := hm.2 rfl
        refine SP_mid 0 (α := Bx) (fun b => [(3, .iptr [.ptr K.p 0]), (4, .iptr [intE el]), (11, .iptr [intE hd.ins, intE hd.move, delsE hd.dels, layersE hd.layers]), (75, delsE hd.dels), (76, intE hd.dels.length), (77, intE i), (13, .iptr [intE x.rev, intE x.move]), (91, .bool b.b)]) (fun _ => H) (fun b m => n ≤ m) ?_ (fun b m hm => ?_)
        · by_cases i0 : 0 < i
          · have hi1 : i - 1 < hd.dels.length := by omega
            obtain ⟨y, hy⟩ : ∃ y, hd.dels[i - 1] = y := ⟨_, rfl⟩
            have w : IntKind.i64.wrap ((i : Int) - 1) = ((i - 1 : Nat) : Int) := by rw [wr64] <;> omega
            simp [go_sem, Fz.same, i0, w, hi1, hy, Del.enc, hm]
            repeat first | refine nd (by kernel_rfl) ?_ | refine sd (by kernel_rfl) ?_ | refine And.intro (by omega) ?_
            exact ⟨⟨_⟩, rfl⟩
          · simp [go_sem, Fz.same, i0, hm]
            repeat first | refine nd (by kernel_rfl) ?_ | refine sd (by kernel_rfl) ?_ | refine And.intro (by omega) ?_
            exact ⟨⟨_⟩, rfl⟩
        obtain ⟨b⟩ := b
        dsimp only at hm ⊢
        refine SWE_cond (b := b) (by simp [go_sem]) ?_
        cases b with
        | true => exact SP_of (by simp [go_sem]; exact no 6 _ (by decide))
        | false =>
        simp only [Bool.false_eq_true, if_false]
        refine SP_of ?_
        simp [go_sem]
        refine (c155 _ _ _).use ?_
        by_cases c : 0 ≤ x.move ∧ x.move ≤ 1073741824
        · simp [go_sem, Fz.same, c, hm, hm1]
        · simp [go_sem, c]; exact no 21 _ (by decide)
      · refine SP_of ?_
        simp [go_sem, w1, Fz.same, -Int.natCast_add]
        refine ⟨i + 1, by omega, ⟨by omega, hm.1, fun j h hj => ?_⟩, rfl⟩
        by_cases h3 : j = i
        · subst h3; rw [hx]; exact hm.2
        · exact hI j h (by omega)
    · have : i = hd.dels.length := by omega
      subst this
      refine SP_of ?_
      simp [go_sem, Fz.same, hm]
      exact fun x hx => by obtain ⟨j, hj, rfl⟩ := List.getElem_of_mem hx; exact hI j hj hj
  obtain ⟨hm, hdr⟩ := hm
  refine SP_midS 0 (α := Unit) (fun _ => [(3, .iptr [.ptr K.p 0]), (4, .iptr [intE el]), (11, .iptr [intE hd.ins, intE hd.move, delsE hd.dels, layersE hd.layers])]) (fun _ => H) (fun _ m => n ≤ m ∧ hd.layers.length ≤ 64) (SP_of ?_) (fun _ m hm => ?_)
  · by_cases c : (64 : Int) < hd.layers.length
    · simp [go_sem, c]; exact no 9 _ (by decide)
    · simp [go_sem, c, Fz.same, hm]; omega
  obtain ⟨hm, hll⟩ := hm
  refine SP_of ?_
  simp [go_sem]
  have hd150 := d150 hK hd.layers.length (by omega) 158 [] [.iptr [.ptr K.p 0], .iptr [intE el], .iptr [intE hd.ins, intE hd.move, delsE hd.dels, layersE hd.layers]] (fun i s' => s' = s ∧ ∀ j (h : j < hd.layers.length), j < i → hd.layers[j].rev ∈ K.m2) (fun i s' H2 n2 hi hI hn2 hs2 => by
    obtain ⟨he, hI⟩ := hI
    refine (d158 hK s' el hd.ins hd.move (delsE hd.dels) hd.layers (by omega) i hi hn2 hs2).mono ?_
    rintro v h' n' ⟨e, s2, rfl, ⟨he2, hT⟩, rfl, rfl⟩
    refine ⟨e, s2, rfl, fun e0 => ⟨by rw [he2, he], fun j h hj => ?_⟩, rfl, rfl⟩
    by_cases h3 : j = i
    · subst h3; exact hT e0
    · exact hI j h (by omega)) s ⟨rfl, fun j _ h => by omega⟩ (H := H) (n := m) (by omega) hs
  refine SC.use hd150 ?_
  rintro v H' n' ⟨e, s2, rfl, hT, rfl, rfl⟩
  simp [go_sem]
  by_cases e0 : e = 0
  · obtain ⟨he, hT2⟩ := hT e0
    exact hK.ret hn ho e s2 (fun _ => ⟨he, hi, hdl, hdr, hll, fun x hx => by obtain ⟨j, hj, rfl⟩ := List.getElem_of_mem hx; exact hT2 j hj hj⟩) look_same
  · exact hK.ret hn ho e s2 (fun g => absurd g e0) look_same
end
def idsN : Nat → List Item → List Int
  | 0, _ => []
  | N + 1, l => l.flatMap fun x => if x.kind = 6 then x.id :: idsN N x.flow else if x.kind = 7 then x.id :: x.rows.flatMap fun r => r.cells.flatMap fun c => c.id :: idsN N c.flow else []
def idsR (N : Nat) (r : Row) : List Int := r.cells.flatMap fun c => c.id :: idsN N c.flow
def idsI (N : Nat) (x : Item) : List Int := if x.kind = 6 then x.id :: idsN N x.flow else if x.kind = 7 then x.id :: x.rows.flatMap (idsR N) else []
theorem idsN_succ (N : Nat) (l : List Item) : idsN (N + 1) l = l.flatMap (idsI N) := rfl
def okc (m2 : List Int) : Nat → List Item → Prop
  | 0, _ => True
  | N + 1, l => ∀ x ∈ l, formOK x ∧ headOK m2 x.head ∧ okc m2 N x.flow ∧ ∀ r ∈ x.rows, headOK m2 r.head ∧ ∀ c ∈ r.cells, headOK m2 c.head ∧ okc m2 N c.flow
def okr (m2 : List Int) (N : Nat) (r : Row) : Prop := headOK m2 r.head ∧ ∀ c ∈ r.cells, headOK m2 c.head ∧ okc m2 N c.flow
def oki (m2 : List Int) (N : Nat) (x : Item) : Prop := formOK x ∧ headOK m2 x.head ∧ okc m2 N x.flow ∧ ∀ r ∈ x.rows, okr m2 N r
theorem okc_nil (m2 : List Int) (N : Nat) : okc m2 N [] := by cases N <;> simp [okc]
def more (s s' : CkS) (ids : List Int) : Prop := s'.1 = s.1 ++ ids ∧ (∀ i ∈ ids, 1 ≤ i ∧ i ≤ 1073741824) ∧ (s.1.Nodup → s'.1.Nodup)
theorem more.nil {s s' : CkS} (h : s'.1 = s.1) : more s s' [] := ⟨by simp [h], by simp, by rw [h]; exact id⟩
theorem more.trans {s s1 s2 : CkS} {a b : List Int} (h : more s s1 a) (g : more s1 s2 b) : more s s2 (a ++ b) :=
  ⟨by rw [g.1, h.1, List.append_assoc], fun i hi => by rcases List.mem_append.1 hi with hi | hi; exact h.2.1 i hi; exact g.2.1 i hi, fun n => g.2.2 (h.2.2 n)⟩
theorem more.one {s s' : CkS} {id : Int} (h : s' = (s.1 ++ [id], s.2)) (h1 : 1 ≤ id ∧ id ≤ 1073741824) (h2 : id ∉ s.1) : more s s' [id] :=
  ⟨by rw [h], by simpa using h1, fun n => by rw [h]; simp only; rw [List.nodup_append]; exact ⟨n, by simp, by rintro a ha b hb; rw [List.mem_singleton.1 hb]; rintro rfl; exact h2 ha⟩⟩
def moreT (s : CkS) (ids : List Int) (P : Prop) (e : Int) (s' : CkS) : Prop := e = 0 → more s s' ids ∧ P
def trP : Tr := .pure 0 <| .pure 1 <| .pure 2 <| .pure 3 <| .pure 4 <| .pure 5 <| .one 6 <| .one 7 .nil
section
variable {K : Ck} {n0 : Nat}
def ItemC (K : Ck) (n0 : Nat) (N : Nat) (x : Item) : Prop := ∀ (s : CkS) (pl : Place) (H : Hp) (n : Nat), n0 ≤ n → (∀ o y, K.st s o = some y → H o = some y) →
  SCall Tryz.prog 161 [.ptr K.p 0, x.enc, pl.enc] H n (CQ K (moreT s (idsI N x) (oki K.m2 N x)) H n)
def ItemsC (K : Ck) (n0 : Nat) (N : Nat) (l : List Item) : Prop := ∀ (s : CkS) (pl : Place) (H : Hp) (n : Nat), n0 ≤ n → (∀ o y, K.st s o = some y → H o = some y) →
  SCall Tryz.prog 88 [.ptr K.p 0, itemsE l, pl.enc] H n (CQ K (moreT s (idsN N l) (okc K.m2 N l)) H n)
theorem d160 (hK : K.ok n0) (N : Nat) (l : List Item) (i : Nat) (hi : i < l.length) (h : ItemC K n0 N l[i]) (s : CkS) (pl : Place) {H : Hp} {n : Nat} (hn : n0 ≤ n) (hs : ∀ o y, K.st s o = some y → H o = some y) :
    SCall Tryz.prog 160 [intE i, .iptr [.ptr K.p 0], .iptr [itemsE l], .iptr [.bool pl.body, .bool pl.note, intE pl.tables]] H n (CQ K (moreT s (idsI N l[i]) (oki K.m2 N l[i])) H n) := by
  refine goS Tryz.func160 rfl (by kernel_rfl) (by kernel_rfl) (by simp [go_sem]) fun ho => ?_
  obtain ⟨x, hx⟩ : ∃ x, l[i] = x := ⟨_, rfl⟩
  rw [hx] at h ⊢
  have hgx : (l.map Item.enc)[i]? = some x.enc := by simp [hi, hx]
  have D := hK.clo
  refine SP_mid 0 (α := Unit) (fun _ => [(0, intE i), (1, .iptr [.ptr K.p 0]), (2, .iptr [itemsE l]), (3, .iptr [.bool pl.body, .bool pl.note, intE pl.tables])]) (fun _ => H) (fun _ m => n ≤ m) ?_ (fun _ m hm => ?_)
  · simp [go_sem, Fz.same]
  refine SP_midS 0 (α := Int × CkS) (fun q => [(5, intE q.1)]) (fun q => upS K.st q.2 H) (fun q m => n ≤ m ∧ moreT s (idsI N x) (oki K.m2 N x) q.1 q.2) (SP_tr trP rfl (by kernel_rfl) (by kernel_rfl) ?_) (fun q m hm => ?_)
  · have hc := h s pl H m (by omega) hs
    simp only [Item.enc_eq, Place.enc] at hc
    simp [go_sem, trP, hi, hx, Item.enc_eq]
    refine SC.use hc ?_
    rintro v H' n' ⟨e, s2, rfl, hT, rfl, rfl⟩
    simp [go_sem]
    exact ⟨e, s2.1, s2.2, ⟨by omega, hT⟩, Fz.same, look_same⟩
  · refine SP_of ?_
    simp [go_sem]
    exact hK.ret hn ho q.1 q.2 hm.2 look_same
theorem take_flatMap {α β : Type} (f : α → List β) (l : List α) (i : Nat) (h : i < l.length) : (l.take (i + 1)).flatMap f = (l.take i).flatMap f ++ f l[i] := by
  rw [List.take_succ_eq_append_getElem h, List.flatMap_append]; simp
theorem d88 (hK : K.ok n0) (N : Nat) (l : List Item) (hl : l.length ≤ 1048576) (h : ∀ x ∈ l, ItemC K n0 N x) : ItemsC K n0 (N + 1) l := fun s pl H n hn hs => by
  refine goS Tryz.func88 rfl (by kernel_rfl) (by kernel_rfl) (by simp [go_sem]) fun ho => ?_
  have hHb : ∀ j y, H j = some y → j < n := fun j y e => (ho j y e).1
  refine SP_mid 1 (α := Unit) (fun _ => [(3, .iptr [.ptr K.p 0]), (4, .iptr [itemsE l]), (5, .iptr [.bool pl.body, .bool pl.note, intE pl.tables])]) (fun _ => H) (fun _ m => n ≤ m) ?_ (fun _ m hm => ?_)
  · simp [go_sem, Place.enc, Nat.add_assoc]
    refine ⟨⟨ptr_fz (lt_none hHb (by omega)) (by simp [hset]), ptr_fz (lt_none hHb (by omega)) (by simp [hset]), ptr_fz (lt_none hHb (by omega)) (by simp [hset])⟩, fun j y => ?_⟩
    have := hHb j y; simp only [hset]; grind
  have hd := d150 hK l.length hl 160 [] [.iptr [.ptr K.p 0], .iptr [itemsE l], .iptr [.bool pl.body, .bool pl.note, intE pl.tables]] (fun i s' => more s s' ((l.take i).flatMap (idsI N)) ∧ ∀ x ∈ l.take i, oki K.m2 N x) (fun i s' H2 n2 hi hI hn2 hs2 => by
    refine (d160 hK N l i hi (h _ (List.getElem_mem hi)) s' pl hn2 hs2).mono ?_
    rintro v h' n' ⟨e, s2, rfl, hT, rfl, rfl⟩
    refine ⟨e, s2, rfl, fun e0 => ?_, rfl, rfl⟩
    obtain ⟨h1, h2⟩ := hT e0
    rw [take_flatMap _ _ _ hi]
    refine ⟨hI.1.trans h1, fun x hx => ?_⟩
    rw [List.take_succ_eq_append_getElem hi] at hx
    exact all_push hI.2 h2 x hx) s ⟨more.nil rfl, by simp⟩ (H := H) (n := m) (by omega) hs
  refine SP_of ?_
  simp [go_sem]
  refine SC.use hd ?_
  rintro v H' n' ⟨e, s2, rfl, hT, rfl, rfl⟩
  simp [go_sem]
  refine hK.ret hn ho e s2 (fun e0 => ?_) look_same
  have := hT e0
  rw [List.take_length] at this
  exact ⟨by rw [idsN_succ]; exact this.1, this.2⟩
end
section
variable {K : Ck} {n0 : Nat}
theorem Ck.ok.up_cnt (_hK : K.ok n0) (s : CkS) (c : Int) {H : Hp} (hs : ∀ o y, K.st s o = some y → H o = some y) : upS K.st (s.1, c) H = hset H K.p (some (.cells (K.cells c))) := by
  funext o
  have g := hs o
  simp only [upS, Ck.st, hset] at g ⊢
  by_cases q0 : o = K.p
  · simp [q0]
  · simp only [q0, if_false] at g ⊢
    split
    · rename_i y hy; exact (g y hy).symm
    · rfl
def RowsC (K : Ck) (n0 : Nat) (N : Nat) (l : List Row) : Prop := ∀ (s : CkS) (pl : Place) (H : Hp) (n : Nat), n0 ≤ n → (∀ o y, K.st s o = some y → H o = some y) →
  SCall Tryz.prog 224 [.ptr K.p 0, rowsE l, pl.enc] H n (CQ K (moreT s (l.flatMap (idsR N)) (∀ r ∈ l, okr K.m2 N r)) H n)
def ownIds (x : Item) : List Int := if x.kind = 6 ∨ x.kind = 7 then [x.id] else []
set_option maxHeartbeats 4000000 in
theorem d161 (hK : K.ok n0) (N : Nat) (x : Item) (hx : x.sized) (hfl : ItemsC K n0 N x.flow) (hrw : RowsC K n0 N x.rows) : ItemC K n0 N x := fun s pl H n hn hs => by
  refine goS Tryz.func161 rfl (by kernel_rfl) (by kernel_rfl) (by simp [go_sem]) fun ho => ?_
  have D := hK.clo
  have hKp : K.p < n := by have := hK.lt K.p (by simp); omega
  have hU : ∀ s', Old (upS K.st s' H) n := fun s' => D.old s' hn ho
  have hUb : ∀ s' j y, upS K.st s' H j = some y → j < n := fun s' j y e => (hU s' j y e).1
  have hps : ∀ s', upS K.st s' H K.p = some (.cells [.map K.s0, .map K.s1, .map K.s2, .map K.s3, .map K.s4, intE s'.2]) := fun s' => (hK.has (s := s') has_up).p
  have hcnt : ∀ (q : CkS) b, hset (upS K.st q H) K.p (some (.cells [.map K.s0, .map K.s1, .map K.s2, .map K.s3, .map K.s4, intE b])) = upS K.st (q.1, b) H := fun q b => by rw [← D.up2 q (q.1, b) H, hK.up_cnt q b has_up]; rfl
  have no : ∀ (e : Int) (s' : CkS) (m : Nat), e ≠ 0 → RetS n (upS K.st s' H) m (intE e) (CQ K (moreT s (idsI N x) (oki K.m2 N x)) H n) := fun e s' m he => hK.ret hn ho e s' (fun g => absurd g he) look_same
  obtain ⟨X, hX⟩ : ∃ X : SV, X = .iptr [intE x.kind, intE x.code, intE x.id, .str x.text, propsE x.head.props, intE x.head.ins, intE x.head.move, delsE x.head.dels, layersE x.head.layers, itemsE x.flow, rowsE x.rows] := ⟨_, rfl⟩
  obtain ⟨Y, hY⟩ : ∃ Y : SV, Y = .iptr [.bool pl.body, .bool pl.note, intE pl.tables] := ⟨_, rfl⟩
  refine SP_mid 1 (α := Unit) (fun _ => [(0, .ptr K.p 0), (4, X), (5, Y)]) (fun _ => upS K.st s H) (fun _ m => n ≤ m) ?_ (fun _ m hm => ?_)
  · rw [upS_self s H hs, hX, hY]
    have hHb : ∀ j y, H j = some y → j < n := fun j y e => (ho j y e).1
    simp [go_sem, Fz.same, Place.enc, Item.enc_eq]
    refine ⟨by omega, ⟨ptr_fz (lt_none hHb (by omega)) (by simp [hset]), ptr_fz (lt_none hHb (by omega)) (by simp [hset])⟩, fun j y => ?_⟩
    have := hHb j y; simp only [hset]; grind
  refine SP_midS 0 (α := Unit) (fun _ => [(0, .ptr K.p 0), (4, X), (5, Y)]) (fun _ => upS K.st s H) (fun _ m => n ≤ m ∧ formOK x) (SP_of ?_) (fun _ m hm => ?_)
  · rw [hX]
    simp [go_sem]
    refine TC.use (by simpa [Item.enc_eq] using t222 x hx) ?_
    rintro v ⟨e, rfl, hT⟩
    by_cases e0 : e = 0
    · simp [go_sem, e0, Fz.same, hm, hT e0]
    · simp [go_sem, e0]; exact no e s _ e0
  obtain ⟨hm, hform⟩ := hm
  refine SP_mid 0 (α := Int) (fun _ => [(0, .ptr K.p 0), (4, X), (5, Y)]) (fun c => upS K.st (s.1, c) H) (fun _ m => n ≤ m) ?_ (fun c m hm => ?_)
  · simp [go_sem, hps, Fz.same, hm]
    refine ⟨IntKind.i64.wrap (s.2 + 1), ?_⟩
    rw [upS_self s H hs, hK.up_cnt s _ hs]
    exact look_same
  refine SP_midS 0 (α := CkS) (fun _ => [(0, .ptr K.p 0), (4, X), (5, Y)]) (fun q => upS K.st q H) (fun q m => n ≤ m ∧ more s q (ownIds x)) ?_ (fun q m hm => ?_)
  · refine SP_mid 0 (α := Unit) (fun _ => [(0, .ptr K.p 0), (4, X), (5, Y), (27, intE x.kind)]) (fun _ => upS K.st (s.1, c) H) (fun _ m => n ≤ m) ?_ (fun _ m hm => ?_)
    · rw [hX]; simp [go_sem, Fz.same, hm]
    refine SP_block (SP_of ?_)
    by_cases k1 : x.kind = 1
    · have ow : ownIds x = [] := by simp [ownIds, k1]
      rw [ow, hX]
      simp [go_sem, k1]
      refine (c177 x.text (by have := (sized_parts hx).2.1; omega)).use ?_
      simp [go_sem, hps, Fz.same]
      rw [hcnt]
      refine ⟨s.1, _, ⟨hm, ?_⟩, look_same⟩
      exact more.nil rfl
    · by_cases k3 : x.kind = 3
      · have ow : ownIds x = [] := by simp [ownIds, k3]
        rw [ow, hX, hY]
        cases hb : pl.body with
        | true =>
          simp [go_sem, k3, Fz.same]
          refine ⟨s.1, _, ⟨hm, ?_⟩, look_same⟩
          exact more.nil rfl
        | false =>
          simp [go_sem, k3]
          exact no 19 _ _ (by decide)
      · by_cases k6 : x.kind = 6
        · have ow : ownIds x = [x.id] := by simp [ownIds, k6]
          rw [ow, hX, hY]
          simp [go_sem, k6]
          refine (c87 _ _).use ?_
          simp [go_sem]
          refine SCallE.fz (bs := [.imm 1 ([if pl.note then (19 : Int) else 0].map intE) false]) (h2 := upS K.st (s.1, c) H) 1 (set_keep (fun j z e => by have := hUb _ j z e; omega) look_same) ⟨?_, trivial⟩ ?_
          · exact sl_fz (es := [intE (if pl.note then (19 : Int) else 0)]) (lt_none (hUb _) hm) (by simp) (by rw [hset_at]; simp [SV.cells]) (by simp [SV.storable, SV.cells])
          refine (c82 _ (by simp)).use ?_
          cases hb : pl.note with
          | true => simp [go_sem, firstE]; exact no 19 _ _ (by decide)
          | false =>
          simp [go_sem, firstE]
          refine SC.use (d223 hK (s.1, c) x.id (by omega) has_up) ?_
          rintro v H' n' ⟨e, s2, rfl, hT, rfl, rfl⟩
          rw [D.up2]
          by_cases e0 : e = 0
          · obtain ⟨h1, h2, h3, h4⟩ := hT e0
            simp [go_sem, e0, Fz.same]
            exact ⟨s2.1, s2.2, ⟨by omega, more.one (s := s) (s' := (s2.1, s.2)) (by rw [h1]) ⟨h2, h3⟩ h4⟩, look_same⟩
          · simp [go_sem, e0]
            exact no e _ _ e0
        · by_cases k7 : x.kind = 7
          · have ow : ownIds x = [x.id] := by simp [ownIds, k7]
            rw [ow, hX, hY]
            by_cases tb : 4 ≤ pl.tables
            · simp [go_sem, k7, tb]; exact no 17 _ _ (by decide)
            simp [go_sem, k7, tb]
            refine SC.use (d223 hK (s.1, c) x.id (by omega) has_up) ?_
            rintro v H' n' ⟨e, s2, rfl, hT, rfl, rfl⟩
            rw [D.up2]
            by_cases e0 : e = 0
            · obtain ⟨h1, h2, h3, h4⟩ := hT e0
              simp [go_sem, e0, Fz.same]
              exact ⟨s2.1, s2.2, ⟨by omega, more.one (s := s) (s' := (s2.1, s.2)) (by rw [h1]) ⟨h2, h3⟩ h4⟩, look_same⟩
            · simp [go_sem, e0]
              exact no e _ _ e0
          · have ow : ownIds x = [] := by simp [ownIds, k6, k7]
            rw [ow, hX, hY]
            by_cases k8 : x.kind = 8
            · simp [go_sem, k8]
              refine (c155 _ _ _).use ?_
              by_cases c8 : 1 ≤ x.id ∧ x.id ≤ 1073741824
              · simp [go_sem, c8, Fz.same]
                refine ⟨s.1, _, ⟨hm, ?_⟩, look_same⟩
                exact more.nil rfl
              · simp [go_sem, c8]
                exact no 18 _ _ (by decide)
            · simp [go_sem, k1, k3, k6, k7, k8, Fz.same]
              refine ⟨s.1, _, ⟨hm, ?_⟩, look_same⟩
              exact more.nil rfl
  obtain ⟨hm, hmo⟩ := hm
  refine SP_midS 0 (α := Unit) (fun _ => [(0, .ptr K.p 0), (4, X), (5, Y)]) (fun _ => upS K.st q H) (fun _ m => n ≤ m ∧ headOK K.m2 x.head) (SP_of ?_) (fun _ m hm => ?_)
  · rw [hX]
    simp [go_sem]
    refine SC.use (by simpa [Head.enc, Head.flat] using d86 hK q x.kind x.head (sized_parts hx).1 (n := m) (by omega) has_up) ?_
    rintro v H' n' ⟨e, s2, rfl, hT, rfl, rfl⟩
    rw [D.up2]
    by_cases e0 : e = 0
    · obtain ⟨h1, h2⟩ := hT e0
      simp [go_sem, e0, Fz.same, h1, hm, h2]
    · simp [go_sem, e0]; exact no e _ _ e0
  obtain ⟨hm, hh⟩ := hm
  refine SP_midS 0 (α := Unit) (fun _ => []) (fun _ => upS K.st q H) (fun _ m => x.kind ≠ 6 ∧ x.kind ≠ 7) (SP_of ?_) (fun _ m hk => ?_)
  · rw [hX, hY]
    by_cases k6 : x.kind = 6
    · simp [go_sem, k6]
      refine SC.use (by simpa [Place.enc] using hfl q ⟨false, true, pl.tables⟩ (upS K.st q H) m (by omega) has_up) ?_
      rintro v H' n' ⟨e, s2, rfl, hT, rfl, rfl⟩
      rw [D.up2]
      simp [go_sem]
      refine hK.ret hn ho e s2 (fun e0 => ?_) look_same
      obtain ⟨h1, h2⟩ := hT e0
      have h3 := hmo.trans h1
      have e1 : ownIds x ++ idsN N x.flow = idsI N x := by simp [ownIds, idsI, k6]
      rw [e1] at h3
      exact ⟨h3, hform, hh, h2, by rw [hform.2 (by omega)]; simp⟩
    · by_cases k7 : x.kind = 7
      · simp [go_sem, k7]
        refine SC.use (by simpa [Place.enc] using hrw q ⟨false, pl.note, IntKind.i64.wrap (pl.tables + 1)⟩ (upS K.st q H) m (by omega) has_up) ?_
        rintro v H' n' ⟨e, s2, rfl, hT, rfl, rfl⟩
        rw [D.up2]
        simp [go_sem]
        refine hK.ret hn ho e s2 (fun e0 => ?_) look_same
        obtain ⟨h1, h2⟩ := hT e0
        have h3 := hmo.trans h1
        have e1 : ownIds x ++ x.rows.flatMap (idsR N) = idsI N x := by simp [ownIds, idsI, k7]
        rw [e1] at h3
        exact ⟨h3, hform, hh, by rw [hform.1 (by omega)]; exact okc_nil _ _, h2⟩
      · simp [go_sem, k6, k7]
  · refine SP_of ?_
    simp [go_sem]
    refine hK.ret hn ho 0 q (fun _ => ?_) look_same
    have e1 : ownIds x = idsI N x := by simp [ownIds, idsI, hk.1, hk.2]
    rw [e1] at hmo
    exact ⟨hmo, hform, hh, by rw [hform.1 hk.1]; exact okc_nil _ _, by rw [hform.2 hk.2]; simp⟩
end
def trW2 : Tr := .pure 0 <| .pure 1 <| .pure 2 <| .pure 4 <| .pure 5 <| .pure 6 <| .pure 7 <| .pure 9 <| .pure 10 <| .pure 11 <| .pure 12 <| .one 3 <| .one 8 <| .one 13 <| .one 14 <| .one 15 <| .one 16 .nil
section
variable {K : Ck} {n0 : Nat}
def idsC (N : Nat) (c : Cell) : List Int := c.id :: idsN N c.flow
theorem idsR_eq (N : Nat) (r : Row) : idsR N r = r.cells.flatMap (idsC N) := rfl
def okcl (m2 : List Int) (N : Nat) (c : Cell) : Prop := headOK m2 c.head ∧ okc m2 N c.flow
theorem more.trans' {s s1 s2 : CkS} {a b c : List Int} (h : more s s1 a) (g : more s1 s2 b) (e : a ++ b = c) : more s s2 c := by subst e; exact h.trans g
theorem firstE_head {a : Int} {l : List Int} (h : firstE (a :: l) = 0) : a = 0 := by
  rw [firstE] at h
  by_cases g : a = 0
  · exact g
  · rw [if_neg g] at h; exact h
set_option maxHeartbeats 4000000 in
theorem d224 (hK : K.ok n0) (N : Nat) (l : List Row) (hl : l.length ≤ 1048576) (hr : ∀ r ∈ l, r.head.sized ∧ r.cells.length ≤ 1048576 ∧ ∀ c ∈ r.cells, c.head.sized ∧ ItemsC K n0 N c.flow) : RowsC K n0 N l := fun s pl H n hn hs => by
  refine goS Tryz.func224 rfl (by kernel_rfl) (by kernel_rfl) (by simp [go_sem]) fun ho => ?_
  have D := hK.clo
  have hU : ∀ s', Old (upS K.st s' H) n := fun s' => D.old s' hn ho
  have hUb : ∀ s' j y, upS K.st s' H j = some y → j < n := fun s' j y e => (hU s' j y e).1
  obtain ⟨T, hT⟩ : ∃ T, T = moreT s (l.flatMap (idsR N)) (∀ r ∈ l, okr K.m2 N r) := ⟨_, rfl⟩
  rw [← hT]
  have no : ∀ (e : Int) (s' : CkS) (m : Nat), e ≠ 0 → RetS n (upS K.st s' H) m (intE e) (CQ K T H n) := fun e s' m he => hK.ret hn ho e s' (by rw [hT]; exact fun g => absurd g he) look_same
  refine SP_mid 1 (α := Unit) (fun _ => [(0, .ptr K.p 0), (1, rowsE l), (5, .iptr [.bool pl.body, .bool pl.note, intE pl.tables])]) (fun _ => upS K.st s H) (fun _ m => n ≤ m) ?_ (fun _ m hm => ?_)
  · rw [upS_self s H hs]
    have hHb : ∀ j y, H j = some y → j < n := fun j y e => (ho j y e).1
    simp [go_sem, Fz.same, Place.enc]
    exact ⟨ptr_fz (lt_none hHb (by omega)) (by simp [hset]), set_keep hHb look_same⟩
  refine SP_midS 0 (α := Unit) (fun _ => [(0, .ptr K.p 0), (1, rowsE l), (5, .iptr [.bool pl.body, .bool pl.note, intE pl.tables])]) (fun _ => upS K.st s H) (fun _ m => n ≤ m) (SP_of ?_) (fun _ m hm => ?_)
  · by_cases c : l = []
    · simp [go_sem, c]; exact no 11 _ _ (by decide)
    · simp [go_sem, c, Fz.same, hm]
  refine SP_midS 0 (α := Unit) (fun _ => [(0, .ptr K.p 0), (1, rowsE l), (5, .iptr [.bool pl.body, .bool pl.note, intE pl.tables])]) (fun _ => upS K.st s H) (fun _ m => n ≤ m) (SP_of ?_) (fun _ m hm => ?_)
  · by_cases c : (256 : Int) < l.length
    · simp [go_sem, c]; exact no 9 _ _ (by decide)
    · simp [go_sem, c, Fz.same, hm]
  refine SP_midS 0 (α := CkS) (fun _ => []) (fun q => upS K.st q H) (fun q m => n ≤ m ∧ more s q (l.flatMap (idsR N)) ∧ ∀ r ∈ l, okr K.m2 N r) ?_ (fun q m hm => ?_)
  · refine SP_mid 0 (α := Unit) (fun _ => [(0, .ptr K.p 0), (5, .iptr [.bool pl.body, .bool pl.note, intE pl.tables]), (21, rowsE l), (22, intE l.length), (23, intE 0)]) (fun _ => upS K.st s H) (fun _ m => n ≤ m) ?_ (fun _ m hm => ?_)
    · simp [go_sem, Fz.same, hm]
    refine SP_block (goloopS 0 (α := Nat × CkS) (fun q => [(0, .ptr K.p 0), (5, .iptr [.bool pl.body, .bool pl.note, intE pl.tables]), (21, rowsE l), (22, intE l.length), (23, intE q.1)]) (fun q => upS K.st q.2 H) (fun q m => q.1 ≤ l.length ∧ n ≤ m ∧ more s q.2 ((l.take q.1).flatMap (idsR N)) ∧ ∀ r ∈ l.take q.1, okr K.m2 N r) (fun q => l.length - q.1) (0, s) ⟨Nat.zero_le _, hm, more.nil rfl, by simp⟩ ?_ look_same ?_)
    · simp [go_sem, look, Fz.same]
    rintro ⟨i, s1⟩ m ⟨hi, hm, hmo, hok⟩
    dsimp only at hi hmo hok ⊢
    by_cases hlt : i < l.length
    · obtain ⟨x, hx⟩ : ∃ x, l[i] = x := ⟨_, rfl⟩
      have hxm : x ∈ l := by rw [← hx]; exact List.getElem_mem hlt
      obtain ⟨x1, x2, x3⟩ := hr x hxm
      have hgx : (l.map Row.enc)[i]? = some x.enc := by simp [hlt, hx]
      have w1 : IntKind.i64.wrap ((i : Int) + 1) = ((i + 1 : Nat) : Int) := by rw [wr64] <;> omega
      have tk := take_flatMap (idsR N) l i hlt
      rw [hx] at tk
      have tl : l.take (i + 1) = l.take i ++ [x] := by rw [List.take_succ_eq_append_getElem hlt, hx]
      refine SP_mid 0 (α := Unit) (fun _ => [(0, .ptr K.p 0), (5, .iptr [.bool pl.body, .bool pl.note, intE pl.tables]), (21, rowsE l), (22, intE l.length), (23, intE i), (24, .bool true)]) (fun _ => upS K.st s1 H) (fun _ m => n ≤ m) ?_ (fun _ m hm => ?_)
      · simp [go_sem, Fz.same, hm, hlt]
      refine SP_mid 0 (α := Unit) (fun _ => [(0, .ptr K.p 0), (5, .iptr [.bool pl.body, .bool pl.note, intE pl.tables]), (21, rowsE l), (22, intE l.length), (23, intE i)]) (fun _ => upS K.st s1 H) (fun _ m => n ≤ m) ?_ (fun _ m hm => ?_)
      · simp [go_sem, Fz.same, hm]
      refine SP_midS 0 (α := CkS) (fun _ => [(0, .ptr K.p 0), (5, .iptr [.bool pl.body, .bool pl.note, intE pl.tables]), (21, rowsE l), (22, intE l.length), (23, intE i)]) (fun q => upS K.st q H) (fun q m => n ≤ m ∧ more s q ((l.take (i + 1)).flatMap (idsR N)) ∧ okr K.m2 N x) ?_ (fun q m hm => ?_)
      · refine SP_block ?_
        refine SP_mid 1 (α := Unit) (fun _ => [(0, .ptr K.p 0), (5, .iptr [.bool pl.body, .bool pl.note, intE pl.tables]), (21, rowsE l), (22, intE l.length), (23, intE i), (8, .iptr (x.head.flat ++ [cellsE x.cells]))]) (fun _ => upS K.st s1 H) (fun _ m => n ≤ m) ?_ (fun _ m hm => ?_)
        · simp [go_sem, Fz.same, hlt, hx, Row.enc_eq, Head.flat, hset_at]
          have hHm : ∀ j y, upS K.st s1 H j = some y → j < m := fun j y e => by have := hUb _ j y e; omega
          exact ⟨by omega, ptr_fz (lt_none hHm (Nat.le_refl _)) (hset_at _ _ _), set_keep hHm (set_keep hHm look_same)⟩
        have hd := d86 hK s1 9 x.head x1 (H := upS K.st s1 H) (n := m) (by omega) has_up
        refine SP_midS 0 (α := Unit) (fun _ => [(0, .ptr K.p 0), (5, .iptr [.bool pl.body, .bool pl.note, intE pl.tables]), (21, rowsE l), (22, intE l.length), (23, intE i), (8, .iptr (x.head.flat ++ [cellsE x.cells]))]) (fun _ => upS K.st s1 H) (fun _ m => n ≤ m ∧ headOK K.m2 x.head) ?_ (fun _ m hm => ?_)
        · refine SP_midS 0 (α := Int × CkS) (fun q => [(0, .ptr K.p 0), (5, .iptr [.bool pl.body, .bool pl.note, intE pl.tables]), (21, rowsE l), (22, intE l.length), (23, intE i), (8, .iptr (x.head.flat ++ [cellsE x.cells])), (9, intE q.1)]) (fun q => upS K.st q.2 H) (fun q m => n ≤ m ∧ (q.1 = 0 → q.2 = s1 ∧ headOK K.m2 x.head)) (SP_tr trW2 rfl (by kernel_rfl) (by kernel_rfl) ?_) (fun q m hm => ?_)
          · simp [go_sem, trW2, Head.flat]
            refine SC.use (by simpa [Head.enc, Head.flat] using hd) ?_
            rintro v H' n' ⟨e, s2, rfl, hT, rfl, rfl⟩
            rw [D.up2]
            simp [go_sem]
            refine (c87 _ _).use ?_
            simp [go_sem]
            refine (c87 _ _).use ?_
            simp [go_sem]
            generalize (if x.cells = [] then (11 : Int) else 0) = ea
            generalize (if 32 < (x.cells.length : Int) then (9 : Int) else 0) = eb
            refine SCallE.fz (bs := [.imm 1 ([e, ea, eb].map intE) false]) (h2 := upS K.st s2 H) 1 (set_keep (fun j z e => by have := hUb s2 j z e; omega) look_same) ⟨?_, trivial⟩ ?_
            · exact sl_fz (es := [intE e, intE ea, intE eb]) (lt_none (hUb s2) hm) (by simp) (by rw [hset_at]; simp [SV.cells]) (by simp [SV.storable, SV.cells])
            refine (c82 _ (by simp)).use ?_
            generalize hf : firstE [e, ea, eb] = ef
            simp [go_sem, Fz.same]
            exact ⟨ef, s2.1, s2.2, ⟨by omega, fun h0 => hT (firstE_head (by rw [hf]; exact h0))⟩, Fz.same, look_same⟩
          obtain ⟨e8, s8⟩ := q
          dsimp only at hm ⊢
          by_cases e80 : e8 = 0
          case neg => exact SP_of (by simp [go_sem, e80]; exact no e8 _ _ e80)
          obtain ⟨h81, hhd⟩ := hm.2 e80
          rw [e80, h81]
          exact SP_of (by simp [go_sem, Fz.same, hm.1, hhd])
        obtain ⟨hm, hhd⟩ := hm
        refine SP_mid 0 (α := Unit) (fun _ => [(0, .ptr K.p 0), (5, .iptr [.bool pl.body, .bool pl.note, intE pl.tables]), (21, rowsE l), (22, intE l.length), (23, intE i), (47, cellsE x.cells), (48, intE x.cells.length), (49, intE 0)]) (fun _ => upS K.st s1 H) (fun _ m => n ≤ m) ?_ (fun _ m hm => ?_)
        · simp [go_sem, Fz.same, Head.flat, hm]
        refine SP_block (goloopS 0 (α := Nat × CkS) (fun q => [(0, .ptr K.p 0), (5, .iptr [.bool pl.body, .bool pl.note, intE pl.tables]), (21, rowsE l), (22, intE l.length), (23, intE i), (47, cellsE x.cells), (48, intE x.cells.length), (49, intE q.1)]) (fun q => upS K.st q.2 H) (fun q m => q.1 ≤ x.cells.length ∧ n ≤ m ∧ more s1 q.2 ((x.cells.take q.1).flatMap (idsC N)) ∧ ∀ c ∈ x.cells.take q.1, okcl K.m2 N c) (fun q => x.cells.length - q.1) (0, s1) ⟨Nat.zero_le _, hm, more.nil rfl, by simp⟩ ?_ look_same ?_)
        · simp [go_sem, look, Fz.same]
        rintro ⟨j, s2⟩ m ⟨hj, hm, hmo2, hok2⟩
        dsimp only at hj hmo2 hok2 ⊢
        by_cases hjt : j < x.cells.length
        · obtain ⟨y, hy⟩ : ∃ y, x.cells[j] = y := ⟨_, rfl⟩
          have hym : y ∈ x.cells := by rw [← hy]; exact List.getElem_mem hjt
          obtain ⟨y1, y2⟩ := x3 y hym
          have w2 : IntKind.i64.wrap ((j : Int) + 1) = ((j + 1 : Nat) : Int) := by rw [wr64] <;> omega
          have tk2 := take_flatMap (idsC N) x.cells j hjt
          rw [hy] at tk2
          have tl2 : x.cells.take (j + 1) = x.cells.take j ++ [y] := by rw [List.take_succ_eq_append_getElem hjt, hy]
          refine SP_mid 0 (α := Unit) (fun _ => [(0, .ptr K.p 0), (5, .iptr [.bool pl.body, .bool pl.note, intE pl.tables]), (21, rowsE l), (22, intE l.length), (23, intE i), (47, cellsE x.cells), (48, intE x.cells.length), (49, intE j), (50, .bool true)]) (fun _ => upS K.st s2 H) (fun _ m => n ≤ m) ?_ (fun _ m hm => ?_)
          · simp [go_sem, Fz.same, hm, hjt]
          refine SP_mid 0 (α := Unit) (fun _ => [(0, .ptr K.p 0), (5, .iptr [.bool pl.body, .bool pl.note, intE pl.tables]), (21, rowsE l), (22, intE l.length), (23, intE i), (47, cellsE x.cells), (48, intE x.cells.length), (49, intE j)]) (fun _ => upS K.st s2 H) (fun _ m => n ≤ m) ?_ (fun _ m hm => ?_)
          · simp [go_sem, Fz.same, hm]
          refine SP_midS 0 (α := CkS) (fun _ => [(0, .ptr K.p 0), (5, .iptr [.bool pl.body, .bool pl.note, intE pl.tables]), (21, rowsE l), (22, intE l.length), (23, intE i), (47, cellsE x.cells), (48, intE x.cells.length), (49, intE j)]) (fun q => upS K.st q H) (fun q m => n ≤ m ∧ more s2 q (idsC N y) ∧ okcl K.m2 N y) ?_ (fun q m hm => ?_)
          · refine SP_block ?_
            refine SP_mid 1 (α := Unit) (fun _ => [(0, .ptr K.p 0), (5, .iptr [.bool pl.body, .bool pl.note, intE pl.tables]), (21, rowsE l), (22, intE l.length), (23, intE i), (47, cellsE x.cells), (48, intE x.cells.length), (49, intE j), (11, .iptr ([intE y.id] ++ y.head.flat ++ [itemsE y.flow]))]) (fun _ => upS K.st s2 H) (fun _ m => n ≤ m) ?_ (fun _ m hm => ?_)
            · simp [go_sem, Fz.same, hjt, hy, Cell.enc_eq, Head.flat, hset_at]
              have hHm : ∀ j y, upS K.st s2 H j = some y → j < m := fun j y e => by have := hUb _ j y e; omega
              exact ⟨by omega, ptr_fz (lt_none hHm (Nat.le_refl _)) (hset_at _ _ _), set_keep hHm (set_keep hHm look_same)⟩
            refine SP_midS 0 (α := CkS) (fun _ => [(0, .ptr K.p 0), (5, .iptr [.bool pl.body, .bool pl.note, intE pl.tables]), (21, rowsE l), (22, intE l.length), (23, intE i), (47, cellsE x.cells), (48, intE x.cells.length), (49, intE j), (11, .iptr ([intE y.id] ++ y.head.flat ++ [itemsE y.flow]))]) (fun q => upS K.st q H) (fun q m => n ≤ m ∧ more s2 q [y.id]) (SP_of ?_) (fun q m hm => ?_)
            · simp [go_sem]
              refine SC.use (d223 hK s2 y.id (by omega) has_up) ?_
              rintro v H' n' ⟨e, s3, rfl, hT, rfl, rfl⟩
              rw [D.up2]
              by_cases e0 : e = 0
              · obtain ⟨h1, h2, h3, h4⟩ := hT e0
                simp [go_sem, e0, Fz.same, Head.flat]
                refine ⟨s3.1, s3.2, ⟨by omega, ?_⟩, look_same⟩
                exact more.one h1 ⟨h2, h3⟩ h4
              · simp [go_sem, e0]
                exact no e _ _ e0
            obtain ⟨hm, hq1⟩ := hm
            refine SP_midS 0 (α := Unit) (fun _ => [(0, .ptr K.p 0), (5, .iptr [.bool pl.body, .bool pl.note, intE pl.tables]), (21, rowsE l), (22, intE l.length), (23, intE i), (47, cellsE x.cells), (48, intE x.cells.length), (49, intE j), (11, .iptr ([intE y.id] ++ y.head.flat ++ [itemsE y.flow]))]) (fun _ => upS K.st q H) (fun _ m => n ≤ m ∧ headOK K.m2 y.head) (SP_of ?_) (fun _ m hm => ?_)
            · simp [go_sem, Head.flat]
              refine SC.use (by simpa [Head.enc, Head.flat] using d86 hK q 10 y.head y1 (H := upS K.st q H) (n := m) (by omega) has_up) ?_
              rintro v H' n' ⟨e, s3, rfl, hT, rfl, rfl⟩
              rw [D.up2]
              by_cases e0 : e = 0
              · obtain ⟨h1, h2⟩ := hT e0
                simp [go_sem, e0, Fz.same, h1, h2]; omega
              · simp [go_sem, e0]
                exact no e _ _ e0
            obtain ⟨hm, hh2⟩ := hm
            refine SP_of ?_
            simp [go_sem, Head.flat]
            refine SC.use (by simpa [Place.enc] using y2 q pl (upS K.st q H) m (by omega) has_up) ?_
            rintro v H' n' ⟨e, s3, rfl, hT, rfl, rfl⟩
            rw [D.up2]
            by_cases e0 : e = 0
            · obtain ⟨h1, h2⟩ := hT e0
              simp [go_sem, e0, Fz.same]
              refine ⟨s3.1, s3.2, ⟨by omega, ?_, hh2, h2⟩, look_same⟩
              exact hq1.trans' h1 rfl
            · simp [go_sem, e0]
              exact no e _ _ e0
          · refine SP_of ?_
            simp [go_sem, w2, Fz.same, -Int.natCast_add]
            refine ⟨j + 1, by omega, q.1, q.2, ⟨by omega, hm.1, hmo2.trans' hm.2.1 tk2.symm, fun c hc => ?_⟩, rfl, look_same⟩
            rw [tl2] at hc
            exact all_push hok2 hm.2.2 c hc
        · have : j = x.cells.length := by omega
          subst this
          rw [List.take_length] at hmo2 hok2
          refine SP_of ?_
          simp [go_sem, Fz.same]
          refine ⟨s2.1, s2.2, ⟨hm, ?_, hhd, hok2⟩, look_same⟩
          exact hmo.trans' hmo2 (by rw [tk, idsR_eq])
      · refine SP_of ?_
        simp [go_sem, w1, Fz.same, -Int.natCast_add]
        refine ⟨i + 1, by omega, q.1, q.2, ⟨by omega, hm.1, hm.2.1, fun r hr => ?_⟩, rfl, look_same⟩
        rw [tl] at hr
        exact all_push hok hm.2.2 r hr
    · have : i = l.length := by omega
      subst this
      rw [List.take_length] at hmo hok
      refine SP_of ?_
      simp [go_sem]
      exact ⟨s1.1, s1.2, ⟨hm, hmo, hok⟩, look_same⟩
  · refine SP_of ?_
    simp [go_sem]
    exact hK.ret hn ho 0 q (by rw [hT]; exact fun _ => hm.2) look_same
end
theorem cItems {K : Ck} {n0 : Nat} (hK : K.ok n0) {B : Nat} (hB : B ≤ 1048576) : ∀ (N : Nat) (l : List Item), lim Head.sized B N l → ItemsC K n0 N l
  | 0, _, h => h.elim
  | N + 1, l, h => by
    have hs := h.sized (fun _ e => e) hB
    obtain ⟨_, _, h3⟩ := lim_iff.1 h
    refine d88 hK N l hs.1 fun x hx => ?_
    obtain ⟨a1, a2, a3, a4⟩ := h3 x hx
    refine d161 hK N x (Item.sizedL_mem hs.2 x hx) (cItems hK hB N x.flow a2) (d224 hK N x.rows (by omega) fun r hr => ?_)
    obtain ⟨b1, b2, b3⟩ := a4 r hr
    exact ⟨b1, by omega, fun c hc => ⟨(b3 c hc).1, cItems hK hB N c.flow (b3 c hc).2⟩⟩
theorem setAt_kvI (l : List (Int × Int)) (j : Nat) (x v : Int) : ∃ l', setAt (kvI l) j (intE x) (intE v) = kvI l' := by
  unfold setAt kvI
  exact ⟨l.modify j fun _ => (x, v), by apply List.ext_getElem?; intro i; simp only [List.getElem?_modify, List.getElem?_map]; by_cases e : j = i <;> cases l[i]? <;> simp [e]⟩
def hb (h : Hp) (n : Nat) (a0 : List (Int × Int)) (a1 a2 : List Int) : Hp :=
  hset (hset (hset (hset (hset (hset h (n + 1) (some (.map (kvI a0)))) (n + 2) (some (.map (kvT a1)))) (n + 3) (some (.map (kvT a2)))) (n + 4) (some (.map []))) (n + 5) (some (.map []))) (n + 6) (some (.cells [.map (n + 1), .map (n + 2), .map (n + 3), .map (n + 4), .map (n + 5), intE 0]))
section
variable {h : Hp} {n : Nat} {a0 : List (Int × Int)} {a1 a2 : List Int}
theorem hb6 : hb h n a0 a1 a2 (n + 6) = some (.cells [.map (n + 1), .map (n + 2), .map (n + 3), .map (n + 4), .map (n + 5), intE 0]) := by simp [hb, hset]
theorem hb1 : hb h n a0 a1 a2 (n + 1) = some (.map (kvI a0)) := by simp [hb, hset]
theorem hb2 : hb h n a0 a1 a2 (n + 2) = some (.map (kvT a1)) := by simp [hb, hset]
theorem hb3 : hb h n a0 a1 a2 (n + 3) = some (.map (kvT a2)) := by simp [hb, hset]
theorem hb4 : hb h n a0 a1 a2 (n + 4) = some (.map []) := by simp [hb, hset]
theorem hb5 : hb h n a0 a1 a2 (n + 5) = some (.map []) := by simp [hb, hset]
theorem hb1s (b : List (Int × Int)) : hset (hb h n a0 a1 a2) (n + 1) (some (.map (kvI b))) = hb h n b a1 a2 := by funext j; simp only [hb, hset]; grind
theorem hb2s (b : List Int) : hset (hb h n a0 a1 a2) (n + 2) (some (.map (kvT b))) = hb h n a0 b a2 := by funext j; simp only [hb, hset]; grind
theorem hb3s (b : List Int) : hset (hb h n a0 a1 a2) (n + 3) (some (.map (kvT b))) = hb h n a0 a1 b := by funext j; simp only [hb, hset]; grind
theorem hb_lt (ho : ∀ j y, h j = some y → j < n) : ∀ j y, hb h n a0 a1 a2 j = some y → j < n + 7 := fun j y e => by
  have := ho j y; simp only [hb, hset] at e; grind
theorem hb_old (ho : ∀ j y, h j = some y → j < n) : ∀ j y, h j = some y → hb h n a0 a1 a2 j = some y := fun j y e => by
  have := ho j y; simp only [hb, hset]; grind
end
def newQ (d : Document) (h : Hp) (n : Nat) : SV → Hp → Nat → Prop := fun v h' n' => ∃ K : Ck, K.ok n' ∧ n ≤ n' ∧ v = .ptr K.p 0 ∧ (∀ o y, K.st ([], 0) o = some y → h' o = some y) ∧ K.m2 = addU [] (d.revs.map (·.id)) ∧ (∀ j y, h j = some y → h' j = some y) ∧ ∀ o y, K.st ([], 0) o = some y → n ≤ o
set_option maxHeartbeats 2000000 in
theorem d85 (d : Document) (h1 : d.settings.styles.length ≤ 1048576) (h2 : d.settings.lists.length ≤ 1048576) (h3 : d.revs.length ≤ 1048576) {h : Hp} {n : Nat} : SCall Tryz.prog 85 [d.enc] h n (newQ d h n) := by
  refine goS Tryz.func85 rfl (by kernel_rfl) (by kernel_rfl) (by simp [go_sem]) fun ho => ?_
  have hHb : ∀ j y, h j = some y → j < n := fun j y e => (ho j y e).1
  obtain ⟨X, hX⟩ : ∃ X : SV, X = .iptr ([itemsE d.flow] ++ d.«end».flat ++ [revsE d.revs] ++ d.settings.flat) := ⟨_, rfl⟩
  refine SP_mid 1 (α := Unit) (fun _ => [(1, X)]) (fun _ => h) (fun _ m => n + 1 = m) ?_ (fun _ m hm => ?_)
  · rw [hX]
    simp [go_sem, Document.enc, Head.flat, Settings.flat]
    exact ⟨ptr_fz (lt_none hHb (Nat.le_refl _)) (hset_at _ _ _), set_keep hHb look_same⟩
  subst hm
  refine SP_mid 0 (α := Unit) (fun _ => [(1, X), (3, .ptr (n + 6) 0)]) (fun _ => hb h n [] [] []) (fun _ m => n + 7 = m) ?_ (fun _ m hm => ?_)
  · simp [go_sem, Fz.same, Nat.add_assoc, hb, kvI, kvT]
  subst hm
  refine SP_midS 0 (α := List (Int × Int)) (fun _ => [(1, X), (3, .ptr (n + 6) 0)]) (fun a => hb h n a [] []) (fun _ m => n + 7 ≤ m) ?_ (fun a0 m hm => ?_)
  · refine SP_mid 0 (α := Unit) (fun _ => [(1, X), (3, .ptr (n + 6) 0), (19, stylesE d.settings.styles), (20, intE d.settings.styles.length), (21, intE 0)]) (fun _ => hb h n [] [] []) (fun _ m => n + 7 ≤ m) ?_ (fun _ m hm => ?_)
    · rw [hX]; simp [go_sem, Fz.same, Head.flat, Settings.flat]
    refine SP_block (goloopS 0 (α := Nat × List (Int × Int)) (fun q => [(1, X), (3, .ptr (n + 6) 0), (19, stylesE d.settings.styles), (20, intE d.settings.styles.length), (21, intE q.1)]) (fun q => hb h n q.2 [] []) (fun q m => q.1 ≤ d.settings.styles.length ∧ n + 7 ≤ m) (fun q => d.settings.styles.length - q.1) (0, []) ⟨Nat.zero_le _, hm⟩ ?_ look_same ?_)
    · simp [go_sem, look, Fz.same]
    rintro ⟨i, a⟩ m ⟨hi, hm⟩
    dsimp only at hi ⊢
    have hlt7 : ∀ j y, hb h n a [] [] j = some y → j < m := fun j y e => by have := hb_lt (h := h) (n := n) (fun j y e => hHb j y e) j y e; omega
    refine SP_of ?_
    by_cases hlt : i < d.settings.styles.length
    · obtain ⟨x, hx⟩ : ∃ x, d.settings.styles[i] = x := ⟨_, rfl⟩
      have w1 : IntKind.i64.wrap ((i : Int) + 1) = ((i + 1 : Nat) : Int) := by rw [wr64] <;> omega
      have e6 : n + 6 ≠ m := by omega
      have e1 : n + 1 ≠ m := by omega
      have fin : ∀ b z y, ∃ a', ∀ j w, hb h n a' [] [] j = some w → hset (hset (hset (hb h n a [] []) m y) m z) (n + 1) (some (.map (kvI b))) j = some w := fun b z y => ⟨b, fun j w e => by
        have := hb_lt (h := h) (n := n) (fun j y e => hHb j y e) j w e
        rw [← hb1s (a0 := a)] at e
        simp only [hset] at e ⊢
        split at e
        · rename_i c; rw [if_pos c]; exact e
        · rename_i c; rw [if_neg c, if_neg (by omega), if_neg (by omega)]; exact e⟩
      rcases findS_int x.id a 0 with f | ⟨j, v, f⟩
      · have hpush : kvI a ++ [(intE x.id, intE x.kind)] = kvI (a ++ [(x.id, x.kind)]) := by simp [kvI]
        simp [go_sem, hlt, hx, Style.enc, hset_at, hset_ne, e6, e1, hb6, hb1, f, keyOk, hpush, w1, -Int.natCast_add]
        repeat first | refine nd (by kernel_rfl) ?_ | refine sd (by kernel_rfl) ?_ | refine And.intro (by omega) ?_
        obtain ⟨a2, ha2⟩ := fin (a ++ [(x.id, x.kind)]) _ _
        exact ⟨i + 1, by omega, ⟨by omega, by omega⟩, a2, rfl, ha2⟩
      · obtain ⟨a', ha'⟩ := setAt_kvI a j x.id x.kind
        simp only [setAt] at ha'
        simp [go_sem, hlt, hx, Style.enc, hset_at, hset_ne, e6, e1, hb6, hb1, f, keyOk, ha', w1, -Int.natCast_add]
        repeat first | refine nd (by kernel_rfl) ?_ | refine sd (by kernel_rfl) ?_ | refine And.intro (by omega) ?_
        obtain ⟨a2, ha2⟩ := fin a' _ _
        exact ⟨i + 1, by omega, ⟨by omega, by omega⟩, a2, rfl, ha2⟩
    · simp [go_sem, hlt, Fz.same]
      exact ⟨by omega, a, look_same⟩
  refine SP_midS 0 (α := List Int) (fun _ => [(1, X), (3, .ptr (n + 6) 0)]) (fun a => hb h n a0 a []) (fun a m => n + 7 ≤ m) ?_ (fun a1 m hm => ?_)
  · refine SP_mid 0 (α := Unit) (fun _ => [(1, X), (3, .ptr (n + 6) 0), (36, listsE d.settings.lists), (37, intE d.settings.lists.length), (38, intE 0)]) (fun _ => hb h n a0 [] []) (fun _ m => n + 7 ≤ m) ?_ (fun _ m hm => ?_)
    · rw [hX]; simp [go_sem, Fz.same, Head.flat, Settings.flat, hm]
    refine SP_block (goloopS 0 (α := Nat × List Int) (fun q => [(1, X), (3, .ptr (n + 6) 0), (36, listsE d.settings.lists), (37, intE d.settings.lists.length), (38, intE q.1)]) (fun q => hb h n a0 q.2 []) (fun q m => q.1 ≤ d.settings.lists.length ∧ n + 7 ≤ m ∧ q.2 = addU [] ((d.settings.lists.take q.1).map (·.id))) (fun q => d.settings.lists.length - q.1) (0, []) ⟨Nat.zero_le _, hm, by simp [addU]⟩ ?_ look_same ?_)
    · simp [go_sem, look, Fz.same]
    rintro ⟨i, a⟩ m ⟨hi, hm, ha⟩
    dsimp only at hi ha ⊢
    refine SP_of ?_
    by_cases hlt : i < d.settings.lists.length
    · obtain ⟨x, hx⟩ : ∃ x, d.settings.lists[i] = x := ⟨_, rfl⟩
      have w1 : IntKind.i64.wrap ((i : Int) + 1) = ((i + 1 : Nat) : Int) := by rw [wr64] <;> omega
      have e6 : n + 6 ≠ m := by omega
      have e1 : n + 2 ≠ m := by omega
      have hnext : addU [] ((d.settings.lists.take (i + 1)).map (·.id)) = insU a x.id := by rw [List.take_succ_eq_append_getElem hlt, hx, List.map_append, addU_append, ← ha]; rfl
      have fin : ∀ b z y, ∀ j w, hb h n a0 b [] j = some w → hset (hset (hset (hb h n a0 a []) m y) m z) (n + 2) (some (.map (kvT b))) j = some w := fun b z y j w e => by
        have := hb_lt (h := h) (n := n) (fun j y e => hHb j y e) j w e
        rw [← hb2s (a1 := a)] at e
        simp only [hset] at e ⊢
        split at e
        · rename_i c; rw [if_pos c]; exact e
        · rename_i c; rw [if_neg c, if_neg (by omega), if_neg (by omega)]; exact e
      by_cases hm2 : x.id ∈ a
      · obtain ⟨j, f, hj⟩ := findS_yes 0 hm2
        have hss := setAt_same hj
        simp only [setAt] at hss
        rw [Nat.zero_add] at f
        simp [go_sem, hlt, hx, Lst.enc, hset_at, hset_ne, e6, e1, hb6, hb2, f, keyOk, hss, w1, -Int.natCast_add]
        repeat first | refine nd (by kernel_rfl) ?_ | refine sd (by kernel_rfl) ?_ | refine And.intro (by omega) ?_
        refine ⟨i + 1, by omega, a, ⟨by omega, by omega, ?_⟩, rfl, fin a _ _⟩
        rw [List.map_take] at hnext; rw [hnext, insU, if_pos hm2]
      · have f := findS_no 0 hm2
        have hpush := kvT_push a x.id
        simp [go_sem, hlt, hx, Lst.enc, hset_at, hset_ne, e6, e1, hb6, hb2, f, keyOk, hpush, w1, -Int.natCast_add]
        repeat first | refine nd (by kernel_rfl) ?_ | refine sd (by kernel_rfl) ?_ | refine And.intro (by omega) ?_
        refine ⟨i + 1, by omega, a ++ [x.id], ⟨by omega, by omega, ?_⟩, rfl, fin _ _ _⟩
        rw [List.map_take] at hnext; rw [hnext, insU, if_neg hm2]
    · have : i = d.settings.lists.length := by omega
      subst this
      rw [List.take_length] at ha
      simp [go_sem, Fz.same]
      exact ⟨by omega, a, look_same⟩
  refine SP_midS 0 (α := List Int) (fun _ => [(1, X), (3, .ptr (n + 6) 0)]) (fun a => hb h n a0 a1 a) (fun a m => n + 7 ≤ m ∧ a = addU [] (d.revs.map (·.id))) ?_ (fun a2 m hm => ?_)
  · refine SP_mid 0 (α := Unit) (fun _ => [(1, X), (3, .ptr (n + 6) 0), (50, revsE d.revs), (51, intE d.revs.length), (52, intE 0)]) (fun _ => hb h n a0 a1 []) (fun _ m => n + 7 ≤ m) ?_ (fun _ m hm => ?_)
    · rw [hX]; simp [go_sem, Fz.same, Head.flat, Settings.flat, hm]
    refine SP_block (goloopS 0 (α := Nat × List Int) (fun q => [(1, X), (3, .ptr (n + 6) 0), (50, revsE d.revs), (51, intE d.revs.length), (52, intE q.1)]) (fun q => hb h n a0 a1 q.2) (fun q m => q.1 ≤ d.revs.length ∧ n + 7 ≤ m ∧ q.2 = addU [] ((d.revs.take q.1).map (·.id))) (fun q => d.revs.length - q.1) (0, []) ⟨Nat.zero_le _, hm, by simp [addU]⟩ ?_ look_same ?_)
    · simp [go_sem, look, Fz.same]
    rintro ⟨i, a⟩ m ⟨hi, hm, ha⟩
    dsimp only at hi ha ⊢
    refine SP_of ?_
    by_cases hlt : i < d.revs.length
    · obtain ⟨x, hx⟩ : ∃ x, d.revs[i] = x := ⟨_, rfl⟩
      have w1 : IntKind.i64.wrap ((i : Int) + 1) = ((i + 1 : Nat) : Int) := by rw [wr64] <;> omega
      have e6 : n + 6 ≠ m := by omega
      have e1 : n + 3 ≠ m := by omega
      have hnext : addU [] ((d.revs.take (i + 1)).map (·.id)) = insU a x.id := by rw [List.take_succ_eq_append_getElem hlt, hx, List.map_append, addU_append, ← ha]; rfl
      have fin : ∀ b z y, ∀ j w, hb h n a0 a1 b j = some w → hset (hset (hset (hb h n a0 a1 a) m y) m z) (n + 3) (some (.map (kvT b))) j = some w := fun b z y j w e => by
        have := hb_lt (h := h) (n := n) (fun j y e => hHb j y e) j w e
        rw [← hb3s (a2 := a)] at e
        simp only [hset] at e ⊢
        split at e
        · rename_i c; rw [if_pos c]; exact e
        · rename_i c; rw [if_neg c, if_neg (by omega), if_neg (by omega)]; exact e
      by_cases hm2 : x.id ∈ a
      · obtain ⟨j, f, hj⟩ := findS_yes 0 hm2
        have hss := setAt_same hj
        simp only [setAt] at hss
        rw [Nat.zero_add] at f
        simp [go_sem, hlt, hx, Rev.enc, hset_at, hset_ne, e6, e1, hb6, hb3, f, keyOk, hss, w1, -Int.natCast_add]
        repeat first | refine nd (by kernel_rfl) ?_ | refine sd (by kernel_rfl) ?_ | refine And.intro (by omega) ?_
        refine ⟨i + 1, by omega, a, ⟨by omega, by omega, ?_⟩, rfl, fin a _ _⟩
        rw [List.map_take] at hnext; rw [hnext, insU, if_pos hm2]
      · have f := findS_no 0 hm2
        have hpush := kvT_push a x.id
        simp [go_sem, hlt, hx, Rev.enc, hset_at, hset_ne, e6, e1, hb6, hb3, f, keyOk, hpush, w1, -Int.natCast_add]
        repeat first | refine nd (by kernel_rfl) ?_ | refine sd (by kernel_rfl) ?_ | refine And.intro (by omega) ?_
        refine ⟨i + 1, by omega, a ++ [x.id], ⟨by omega, by omega, ?_⟩, rfl, fin _ _ _⟩
        rw [List.map_take] at hnext; rw [hnext, insU, if_neg hm2]
    · have : i = d.revs.length := by omega
      subst this
      rw [List.take_length] at ha
      simp [go_sem, Fz.same]
      exact ⟨a, ⟨by omega, ha⟩, look_same⟩
  refine SP_of ?_
  simp [go_sem]
  refine .inl ⟨⟨n + 6, n + 1, n + 2, n + 3, n + 4, n + 5, a0, a1, a2⟩, ⟨by simp, by simp; omega⟩, by omega, rfl, fun o y e => ?_, hm.2, hb_old hHb, fun o y e => ?_⟩
  · simp only [Ck.st, Ck.cells, kvT] at e
    by_cases c6 : o = n + 6
    · subst c6; simp at e; rw [hb6]; exact congrArg some e
    · by_cases c4 : o = n + 4
      · subst c4; simp at e; rw [hb4]; exact congrArg some e
      · by_cases c1 : o = n + 1
        · subst c1; simp at e; rw [hb1]; exact congrArg some e
        · by_cases c2 : o = n + 2
          · subst c2; simp at e; rw [hb2]; exact congrArg some e
          · by_cases c3 : o = n + 3
            · subst c3; simp at e; rw [hb3]; exact congrArg some e
            · by_cases c5 : o = n + 5
              · subst c5; simp at e; rw [hb5]; exact congrArg some e
              · rw [if_neg c6, if_neg c4, if_neg c1, if_neg c2, if_neg c3, if_neg c5] at e; cases e
  · simp only [Ck.st] at e
    by_cases c : n ≤ o
    · exact c
    · rw [if_neg (by omega), if_neg (by omega), if_neg (by omega), if_neg (by omega), if_neg (by omega), if_neg (by omega)] at e; cases e
end Go.Proofs.YtgakninlhfkkmaaGreat.Sh
