/- A part of the proof (part 11 of 13). -/
import Derived.Test.YthinbkgpjmjfeaaGreatDoorN10
import Derived.Lib.IndexMore
import GoSem.Core.Utf8
namespace Go.Proofs.YthinbkgpjmjfeaaGreatDoor.Sh
open Proofs
set_option maxRecDepth 10000
def Item.wHead (x : Item) (h : Head) : Item := .mk x.kind x.code x.id x.text h x.flow x.rows
def Item.wFlow (x : Item) (l : List Item) : Item := .mk x.kind x.code x.id x.text x.head l x.rows
def Item.wRows (x : Item) (l : List Row) : Item := .mk x.kind x.code x.id x.text x.head x.flow l
structure Rwr (σ : Type) where
  flow : Int → List Item → σ → List Item × σ
  head : Head → σ → Head × σ
  item : Item → σ → Item × Bool × σ
section
variable {σ : Type} (R : Rwr σ) (it : Int → List Item → σ → List Item × σ)
def rwCell (q : List Cell × σ) (c : Cell) : List Cell × σ :=
  let h := R.head c.head q.2
  let f := it c.id c.flow h.2
  (q.1 ++ [.mk c.id h.1 f.1], f.2)
def rwCells (l : List Cell) (s : σ) : List Cell × σ := l.foldl (rwCell R it) ([], s)
def rwRow (q : List Row × σ) (r : Row) : List Row × σ :=
  let h := R.head r.head q.2
  let c := rwCells R it r.cells h.2
  (q.1 ++ [.mk h.1 c.1], c.2)
def rwRows (l : List Row) (s : σ) : List Row × σ := l.foldl (rwRow R it) ([], s)
def rwIn (x : Item) (s : σ) : Item × σ :=
  if x.kind = 6 then (x.wFlow (it x.id x.flow s).1, (it x.id x.flow s).2) else if x.kind = 7 then (x.wRows (rwRows R it x.rows s).1, (rwRows R it x.rows s).2) else (x, s)
def rwItem (q : List Item × σ) (x : Item) : List Item × σ :=
  let p := R.item x q.2
  if p.2.1 then
    let h := R.head p.1.head p.2.2
    let y := rwIn R it (p.1.wHead h.1) h.2
    (q.1 ++ [y.1], y.2)
  else (q.1, p.2.2)
def rwItems : Nat → Int → List Item → σ → List Item × σ
  | 0, _, _, s => ([], s)
  | N + 1, id, l, s => (R.flow id l s).1.foldl (rwItem R (rwItems N)) ([], (R.flow id l s).2)
end
section
variable {σ : Type} {R : Rwr σ} {it : Int → List Item → σ → List Item × σ}
theorem rwCells_len : ∀ (l : List Cell) (q : List Cell × σ), (l.foldl (rwCell R it) q).1.length = q.1.length + l.length
  | [], _ => rfl
  | c :: l, q => by rw [List.foldl_cons, rwCells_len l]; simp [rwCell]; omega
theorem rwRows_len : ∀ (l : List Row) (q : List Row × σ), (l.foldl (rwRow R it) q).1.length = q.1.length + l.length
  | [], _ => rfl
  | c :: l, q => by rw [List.foldl_cons, rwRows_len l]; simp [rwRow]; omega
theorem rwItem_len : ∀ (l : List Item) (q : List Item × σ), (l.foldl (rwItem R it) q).1.length ≤ q.1.length + l.length
  | [], _ => Nat.le_refl _
  | c :: l, q => by
    rw [List.foldl_cons]
    have := rwItem_len l (rwItem R it q c)
    have h2 : (rwItem R it q c).1.length ≤ q.1.length + 1 := by
      unfold rwItem; dsimp only; split <;> simp
    rw [List.length_cons]; omega
end
section
variable {σ : Type} {R : Rwr σ} {it : Int → List Item → σ → List Item × σ} {rk : σ → Nat}
structure Rwr.Up (R : Rwr σ) (rk : σ → Nat) : Prop where
  flow : ∀ id l s, rk s ≤ rk (R.flow id l s).2
  head : ∀ h s, rk s ≤ rk (R.head h s).2
  item : ∀ x s, rk s ≤ rk (R.item x s).2.2
theorem rwCell_up (U : R.Up rk) (hi : ∀ id l s, rk s ≤ rk (it id l s).2) (q : List Cell × σ) (c : Cell) : rk q.2 ≤ rk (rwCell R it q c).2 :=
  Nat.le_trans (U.head _ _) (hi _ _ _)
theorem rwCells_up (U : R.Up rk) (hi : ∀ id l s, rk s ≤ rk (it id l s).2) (l : List Cell) (s : σ) : rk s ≤ rk (rwCells R it l s).2 := rk_fold (G := rwCell R it) (rwCell_up U hi) l ([], s)
theorem rwRow_up (U : R.Up rk) (hi : ∀ id l s, rk s ≤ rk (it id l s).2) (q : List Row × σ) (r : Row) : rk q.2 ≤ rk (rwRow R it q r).2 :=
  Nat.le_trans (U.head _ _) (rwCells_up U hi _ _)
theorem rwRows_up (U : R.Up rk) (hi : ∀ id l s, rk s ≤ rk (it id l s).2) (l : List Row) (s : σ) : rk s ≤ rk (rwRows R it l s).2 := rk_fold (G := rwRow R it) (rwRow_up U hi) l ([], s)
theorem rwIn_up (U : R.Up rk) (hi : ∀ id l s, rk s ≤ rk (it id l s).2) (x : Item) (s : σ) : rk s ≤ rk (rwIn R it x s).2 := by
  unfold rwIn; split
  · exact hi _ _ _
  · split
    · exact rwRows_up U hi _ _
    · exact Nat.le_refl _
theorem rwItem_up (U : R.Up rk) (hi : ∀ id l s, rk s ≤ rk (it id l s).2) (q : List Item × σ) (x : Item) : rk q.2 ≤ rk (rwItem R it q x).2 := by
  unfold rwItem; dsimp only; split
  · exact Nat.le_trans (Nat.le_trans (U.item _ _) (U.head _ _)) (rwIn_up U hi _ _)
  · exact U.item _ _
theorem rwItems_up (U : R.Up rk) : ∀ (N : Nat) (id : Int) (l : List Item) (s : σ), rk s ≤ rk (rwItems R N id l s).2
  | 0, _, _, _ => Nat.le_refl _
  | N + 1, id, l, s => Nat.le_trans (U.flow id l s) (rk_fold (G := rwItem R (rwItems R N)) (rwItem_up U (rwItems_up U N)) _ ([], _))
end
section
variable {σ : Type}
def inOk (pf : Nat → List Item → Prop) (hp : Head → Prop) (N : Nat) (x : Item) : Prop :=
  hp x.head ∧ (x.kind = 6 → pf N x.flow) ∧ (x.kind = 7 → x.rows.length ≤ 1048576 ∧ ∀ r ∈ x.rows, hp r.head ∧ r.cells.length ≤ 1048576 ∧ ∀ c ∈ r.cells, hp c.head ∧ pf N c.flow)
abbrev hasU (st : σ → Nat → Option SObj) (s : σ) (H : Hp) : Prop := ∀ o y, st s o = some y → H o = some y
structure RwC (st : σ → Nat → Option SObj) (n0 : Nat) (gF gH gI : FuncId) (bF bH bI : List SV) (R : Rwr σ) (pf : Nat → List Item → Prop) (pi : Nat → Item → Prop) (hp : Head → Prop) (rk : σ → Nat) (top : Nat) : Prop where
  up : R.Up rk
  lt : ∀ s o, n0 ≤ o → st s o = none
  dom : ∀ s s' o, st s o = none → st s' o = none
  cl : ∀ s o y, st s o = some y → closedO n0 y = true
  zero : ∀ l, ¬ pf 0 l
  flow : ∀ N id l s H n, pf (N + 1) l → rk (R.flow id l s).2 ≤ top → n0 ≤ n → hasU st s H → SCall Tryz.prog gF ([intE id, itemsE l] ++ bF) H n (fun v h' n' => v = itemsE (R.flow id l s).1 ∧ h' = upS st (R.flow id l s).2 H ∧ n' = n)
  head : ∀ x s H n, hp x → rk (R.head x s).2 ≤ top → n0 ≤ n → hasU st s H → SCall Tryz.prog gH ([x.enc] ++ bH) H n (fun v h' n' => v = (R.head x s).1.enc ∧ h' = upS st (R.head x s).2 H ∧ n' = n)
  item : ∀ N x s H n, pi N x → rk (R.item x s).2.2 ≤ top → n0 ≤ n → hasU st s H → SCall Tryz.prog gI ([x.enc] ++ bI) H n (fun v h' n' => v = .tup [(R.item x s).1.enc, .bool (R.item x s).2.1] ∧ h' = upS st (R.item x s).2.2 H ∧ n' = n)
  flow_ok : ∀ N id l s, pf (N + 1) l → (R.flow id l s).1.length ≤ 1048576 ∧ ∀ x ∈ (R.flow id l s).1, pi N x
  item_ok : ∀ N x s, pi N x → (R.item x s).2.1 = true → inOk pf hp N (R.item x s).1
variable {st : σ → Nat → Option SObj} {n0 : Nat} {gF gH gI : FuncId} {bF bH bI : List SV} {R : Rwr σ} {pf : Nat → List Item → Prop} {pi : Nat → Item → Prop} {hp : Head → Prop} {rk : σ → Nat} {top : Nat}
theorem RwC.clo (C : RwC st n0 gF gH gI bF bH bI R pf pi hp rk top) : Clo st n0 0 [] [] (fun s _ => (⟨[], 0, 0, [], []⟩, true, s)) (fun _ => False) where
  lt := C.lt
  dom := C.dom
  cl := C.cl
  call := fun _ _ _ _ h => h.elim
theorem Clo.ltU {g : FuncId} {a b : List SV} {f : σ → SPart → Head × Bool × σ} {ok : Head → Prop} {rk : σ → Nat} {top : Nat} (C : Clo st n0 g a b f ok rk top) {B : Hp} {m : Nat} (hn : n0 ≤ m) (hb : ∀ j y, B j = some y → j < m) (s : σ) : ∀ j y, upS st s B j = some y → j < m := fun j y e => by
  simp only [upS] at e
  cases e1 : st s j with
  | some z =>
    by_cases h : n0 ≤ j
    · rw [C.lt s j h] at e1; cases e1
    · omega
  | none => rw [e1] at e; exact hb j y e
def itW (gF gH gI : FuncId) (bF bH bI : List SV) (st : σ → Nat → Option SObj) (n0 : Nat) (it : Int → List Item → σ → List Item × σ) (P : List Item → Prop) (rk : σ → Nat) (top : Nat) : Prop :=
  ∀ id l s H n, P l → rk (it id l s).2 ≤ top → n0 ≤ n → hasU st s H → SCall Tryz.prog 116 [.agg [.fn (.func gF) [] bF, .fn (.func gH) [] bH, .fn (.func gI) [] bI], intE id, itemsE l] H n (fun v h' n' => v = itemsE (it id l s).1 ∧ h' = upS st (it id l s).2 H ∧ n' = n)
theorem app1_out {X h : Hp} {n m k p z : Nat} {es : List SV} {e : SV} {o : Option Nat} {t t2 el : TypeId} (ht : tslice Tryz.prog t = some el) (ht2 : (tslice Tryz.prog t2).isSome = true) (hz : tsz Tryz.prog el = z) (hz0 : z ≠ 0) (hst : (tzero Tryz.prog el).storable = true) (hzl : (tzero Tryz.prog el).cells.length = z)
    (hb : tbytes Tryz.prog el ≤ 65536) (hroom : es.length + 1 ≤ 1073741824) (hA : AccI n m z o es) (hs : e.storable = true) (he : e.cells.length = z) (h1 : X k = some (.cells e.cells)) (hX : ∀ j y, AccH o es h j = some y → X j = some y) (hh : ∀ j y, h j = some y → j < n) (hnp : n ≤ p) (_hmp : m ≤ p) (hrow : rowT el = none := by rfl) :
    ∃ out, builtinS Tryz.prog X p .append [t, t2] [AccV z o es, .sl k 0 z 1 true] = some out ∧ out.val = .sl p 0 z (es.length + 1) false ∧ out.new.isSome = true ∧ AccI n (p + 1) z (some p) (es ++ [e]) ∧ (∀ j y, AccH (some p) (es ++ [e]) h j = some y → Out.app X p out j = some y) ∧ (∀ j, j ≠ p → o ≠ some j → Out.app X p out j = X j) := by
  refine ⟨_, app1g ht ht2 hz hz0 hst hzl hb hroom hA he h1 (fun j e => hX j _ (acc_at j e)) p hrow, rfl, rfl, hA.push hs he hnp (by omega), acc_live' hh hnp hA fun j y e => hX j y (acc_old hh hA j y e), fun j h1 h2 => ?_⟩
  cases o with
  | none => simp [Out.app, hset_ne _ _ h1]
  | some q =>
    have h3 : j ≠ q := fun e => h2 (by rw [e])
    simp [Out.app, hset_ne _ _ h1, hset_ne _ _ h3]
theorem acc_box {X Y : Hp} {p k : Nat} {es : List SV} {bo bn : Option SObj} (hpk : p ≠ k) (h : ∀ j y, AccH (some p) es (hset X k bo) j = some y → Y j = some y) : ∀ j y, AccH (some p) es (hset X k bn) j = some y → hset Y k bn j = some y := fun j y e => by
  have := h j y
  simp only [AccH, hset] at e this ⊢
  split at e
  · rename_i h1
    rw [if_neg (by omega)]; rw [if_pos h1] at this; exact this e
  · rename_i h1
    rw [if_neg h1] at this
    split at e
    · rename_i h2; rw [if_pos h2]; exact e
    · rename_i h2; rw [if_neg h2]; rw [if_neg h2] at this; exact this e
theorem box_fz {h' h2 : Hp} {k j : Nat} {pre : List SV} {v w : SV} (h1 : h2 k = none) (hh : h' k = some (.cells (pre ++ [v]))) (hv : Fz h' h2 (j + 1) v w) : Fz h' h2 (j + 2) (.ptr k 0) (.iptr (pre ++ [w])) := by
  refine .inr ⟨h1, _, hh, by simp, ?_⟩
  rw [List.drop_zero]
  have : ∀ l, All2 (Fz h' h2 (j + 1)) (l ++ [v]) (l ++ [w]) := by
    intro l
    induction l with
    | nil => exact ⟨hv, trivial⟩
    | cons a l ih => exact ⟨Fz.same, ih⟩
  exact this pre
theorem accfzB {h2 h' : Hp} {n m z k : Nat} {o : Option Nat} {es : List SV} (H : AccI n m z o es) (hn : ∀ j, n ≤ j → j < m → h2 j = none) (hh : ∀ j, o = some j → h' j = some (.cells (es.flatMap SV.cells))) : Fz h' h2 (k + 1) (AccV z o es) (.imm z es false) := by
  cases o with
  | none => rw [H.none rfl]; exact .inr ⟨by simp, .inl rfl, trivial, by simp⟩
  | some j =>
    have hj := hh j rfl
    refine .inr ⟨hn j (H.lt j rfl).1 (H.lt j rfl).2, by simp, rfl, rfl, _, _, hj, by simp [takeN, flat_len H.size]; rfl, H.size, ?_⟩
    have : ∀ l : List SV, All2 (Fz h' h2 k) l l := by
      intro l; induction l with
      | nil => trivial
      | cons a l ih => exact ⟨Fz.same, ih⟩
    simp only [← flat_len H.size, List.take_length]
    exact this _
def trW213 : Tr := .pure 0 <| .pure 2 <| .pure 3 <| .pure 4 <| .pure 5 <| .pure 6 <| .pure 7 <| .pure 9 <| .pure 10 <| .pure 11 <| .pure 12 <| .pure 13 <|
  .two 1 8 (.one 8 <| .one 14 <| .one 15 <| .one 16 <| .one 17 <| .one 18 <| .one 19 .nil)
    (.two 1 14 (.one 14 <| .one 15 <| .one 16 <| .one 17 <| .one 18 <| .one 19 .nil)
      (.two 1 15 (.one 15 <| .one 16 <| .one 17 <| .one 18 <| .one 19 .nil)
        (.two 1 16 (.one 16 <| .one 17 <| .one 18 <| .one 19 .nil) (.one 1 <| .one 17 <| .one 18 <| .one 19 .nil))))
set_option maxHeartbeats 16000000 in
theorem d116 (C : RwC st n0 gF gH gI bF bH bI R pf pi hp rk top) : ∀ N, itW gF gH gI bF bH bI st n0 (rwItems R N) (pf N) rk top
  | 0 => fun id l s H n h => (C.zero l h).elim
  | N + 1 => fun id l s H n hl ht hn hs => by
    have ih := d116 C N
    have iu := rwItems_up C.up N
    have K := C.clo
    obtain ⟨hfl, hfi⟩ := C.flow_ok N id l s hl
    refine goS Tryz.func116 rfl (by kernel_rfl) (by kernel_rfl) (by simp [go_sem]) fun ho => ?_
    have hU : ∀ s', Old (upS st s' H) n := fun s' => K.old s' hn ho
    have hUb : ∀ s' j y, upS st s' H j = some y → j < n := fun s' j y e => (hU s' j y e).1
    have hHb : ∀ j y, H j = some y → j < n := fun j y e => (ho j y e).1
    obtain ⟨L, hL⟩ : ∃ L, L = (R.flow id l s).1 := ⟨_, rfl⟩
    obtain ⟨s1, hs1⟩ : ∃ s1, s1 = (R.flow id l s).2 := ⟨_, rfl⟩
    rw [← hL] at hfl hfi
    obtain ⟨Q, hQ⟩ : ∃ Q : Nat → List Item × σ, ∀ i, Q i = (L.take i).foldl (rwItem R (rwItems R N)) ([], s1) := ⟨_, fun _ => rfl⟩
    have hQ0 : Q 0 = ([], s1) := by rw [hQ]; rfl
    have hQs : ∀ i x, (h : i < L.length) → L[i] = x → Q (i + 1) = rwItem R (rwItems R N) (Q i) x := fun i x h hx => by rw [hQ, hQ, foldl_take _ _ _ _ _ h hx]
    have hQl : Q L.length = rwItems R (N + 1) id l s := by rw [hQ, List.take_length, hL, hs1]; rfl
    have hQn : ∀ i, (Q i).1.length ≤ i := fun i => by rw [hQ]; have := rwItem_len (R := R) (it := rwItems R N) (L.take i) ([], s1); simp at this; omega
    have hQt : ∀ i, rk (Q i).2 ≤ top := fun i => by
      rw [hQ]
      refine Nat.le_trans (rk_take (rwItem_up C.up iu) _ _ i) ?_
      rw [hL, hs1]; exact ht
    have ht1 : rk s1 ≤ top := by have := hQt 0; rwa [hQ0] at this
    clear hQ
    refine SP_mid 1 (α := Unit) (fun _ => [(1, intE id), (2, itemsE l), (3, .iptr [.fn (.func gF) [] bF, .fn (.func gH) [] bH, .fn (.func gI) [] bI])]) (fun _ => upS st s H) (fun _ m => n ≤ m) ?_ (fun _ m hm => ?_)
    · simp [go_sem, Fz.same, upS_self s H hs]
      refine ⟨ptr_fz (ho.none (Nat.le_refl n)) (by simp [hset]), fun j y e => by rw [hset_ne _ _ (by have := (ho j y e).1; omega)]; exact e⟩
    refine SP_mid 0 (α := Unit) (fun _ => [(1, intE id), (2, itemsE l), (3, .iptr [.fn (.func gF) [] bF, .fn (.func gH) [] bH, .fn (.func gI) [] bI]), (7, .imm 0 [] true)]) (fun _ => upS st s H) (fun _ m' => m = m') ?_ (fun _ m' hm' => ?_)
    · simp [go_sem, Fz.same]
    subst hm'
    refine SP_midS 0 (α := Option Nat) (fun o => [(7, AccV 11 o ((Q L.length).1.map Item.enc))]) (fun o => AccH o ((Q L.length).1.map Item.enc) (upS st (Q L.length).2 H)) (fun o m => n ≤ m ∧ AccI n m 11 o ((Q L.length).1.map Item.enc)) ?_ (fun o m hm => ?_)
    · refine SP_mid 0 (α := Unit) (fun _ => [(3, .iptr [.fn (.func gF) [] bF, .fn (.func gH) [] bH, .fn (.func gI) [] bI]), (7, .imm 0 [] true), (22, itemsE L), (23, intE L.length), (24, intE 0)]) (fun _ => upS st s1 H) (fun _ m' => m = m') ?_ (fun _ m' hm' => ?_)
      · have hc := C.flow N id l s (upS st s H) m hl (by rw [← hs1]; exact ht1) (by omega) has_up
        rw [K.up2, ← hL, ← hs1] at hc
        simp [go_sem]
        refine SC.use (by simpa using hc) ?_
        rintro v H' n' ⟨rfl, rfl, rfl⟩
        simp [go_sem, Fz.same]
      subst hm'
      refine SP_block (goloopS 0 (α := Nat × Option Nat) (fun q => [(3, .iptr [.fn (.func gF) [] bF, .fn (.func gH) [] bH, .fn (.func gI) [] bI]), (7, AccV 11 q.2 ((Q q.1).1.map Item.enc)), (22, itemsE L), (23, intE L.length), (24, intE q.1)])
        (fun q => AccH q.2 ((Q q.1).1.map Item.enc) (upS st (Q q.1).2 H)) (fun q m => q.1 ≤ L.length ∧ n ≤ m ∧ AccI n m 11 q.2 ((Q q.1).1.map Item.enc)) (fun q => L.length - q.1) (0, none) ⟨Nat.zero_le _, hm, by simp only [hQ0]; exact AccI.nil _ _ _⟩ ?_ ?_ ?_)
      · simp [go_sem, look, AccV, Fz.same]
      · simp only [hQ0]; exact look_same
      clear hm m
      rintro ⟨i, o⟩ m1 ⟨hi, hm1, hA⟩
      dsimp only at hi hm1 hA ⊢
      have hEn : ((Q i).1.map Item.enc).length ≤ i := by rw [List.length_map]; exact hQn i
      by_cases hlt : i < L.length
      · have w1 : IntKind.i64.wrap ((i : Int) + 1) = ((i + 1 : Nat) : Int) := by rw [wr64] <;> omega
        obtain ⟨x, hx⟩ : ∃ x, L[i] = x := ⟨_, rfl⟩
        have hpi : pi N x := hfi x (hx ▸ List.getElem_mem hlt)
        have hst := hQs i x hlt hx
        have htop := hQt (i + 1)
        generalize hSi : (Q i).2 = si at hst
        generalize hEi : (Q i).1.map Item.enc = E at hA hEn ⊢
        have hXb : ∀ s' j y, AccH o E (upS st s' H) j = some y → j < m1 := fun s' => acc_lt (hUb s') hm1 hA
        refine SP_mid 0 (α := Unit) (fun _ => [(3, .iptr [.fn (.func gF) [] bF, .fn (.func gH) [] bH, .fn (.func gI) [] bI]), (7, AccV 11 o E), (22, itemsE L), (23, intE L.length), (24, intE i), (25, .bool true)]) (fun _ => AccH o E (upS st si H)) (fun _ m' => m1 = m') ?_ (fun _ m' hm' => ?_)
        · simp [go_sem, Fz.same, hlt]
        subst hm'
        refine SP_mid 0 (α := Unit) (fun _ => [(3, .iptr [.fn (.func gF) [] bF, .fn (.func gH) [] bH, .fn (.func gI) [] bI]), (7, AccV 11 o E), (22, itemsE L), (23, intE L.length), (24, intE i)]) (fun _ => AccH o E (upS st si H)) (fun _ m2 => m1 = m2) ?_ (fun _ m2 hm2 => ?_)
        · simp [go_sem, Fz.same]
        subst hm2
        refine SP_midS 0 (α := Option Nat) (fun o => [(3, .iptr [.fn (.func gF) [] bF, .fn (.func gH) [] bH, .fn (.func gI) [] bI]), (7, AccV 11 o ((Q (i + 1)).1.map Item.enc)), (22, itemsE L), (23, intE L.length), (24, intE i)]) (fun o => AccH o ((Q (i + 1)).1.map Item.enc) (upS st (Q (i + 1)).2 H)) (fun o m => n ≤ m ∧ AccI n m 11 o ((Q (i + 1)).1.map Item.enc)) ?_ (fun o m hm => ?_)
        · refine SP_block ?_
          refine SP_mid 1 (α := Unit) (fun _ => [(3, .iptr [.fn (.func gF) [] bF, .fn (.func gH) [] bH, .fn (.func gI) [] bI]), (7, AccV 11 o E), (22, itemsE L), (23, intE L.length), (24, intE i), (9, .iptr [intE x.kind, intE x.code, intE x.id, .str x.text, propsE x.head.props, intE x.head.ins, intE x.head.move, delsE x.head.dels, layersE x.head.layers, itemsE x.flow, rowsE x.rows])]) (fun _ => AccH o E (upS st si H)) (fun _ m2 => m1 ≤ m2) ?_ (fun _ m2 hm2 => ?_)
          · simp [go_sem, Fz.same, hlt, hx, Item.enc_eq, hset_at]
            refine ⟨ptr_fz (lt_none (hXb _) (Nat.le_refl m1)) (hset_at _ _ _), set_keep (hXb _) (set_keep (hXb _) look_same)⟩
          have hXb2 : ∀ s' j y, AccH o E (upS st s' H) j = some y → j < m2 := fun s' j y e => by have := hXb s' j y e; omega
          have hci := C.item N x si (AccH o E (upS st si H)) m2 hpi (by
            rw [hst] at htop
            refine Nat.le_trans ?_ htop
            unfold rwItem; rw [hSi]; dsimp only; split
            · exact Nat.le_trans (C.up.head _ _) (rwIn_up C.up iu _ _)
            · exact Nat.le_refl _) (by omega) (K.has hn hA has_up)
          have hok := C.item_ok N x si hpi
          rw [K.acc hn hA, K.up2] at hci
          have hst' : Q (i + 1) = if (R.item x si).2.1 = true then ((Q i).1 ++ [(rwIn R (rwItems R N) ((R.item x si).1.wHead (R.head (R.item x si).1.head (R.item x si).2.2).1) (R.head (R.item x si).1.head (R.item x si).2.2).2).1], (rwIn R (rwItems R N) ((R.item x si).1.wHead (R.head (R.item x si).1.head (R.item x si).2.2).1) (R.head (R.item x si).1.head (R.item x si).2.2).2).2) else ((Q i).1, (R.item x si).2.2) := by rw [hst, rwItem, hSi]
          clear hst hSi
          rcases hf : R.item x si with ⟨x1, k, s2⟩
          rw [hf] at hci hst' hok
          dsimp only at hci hst' hok
          refine SP_mid 0 (α := Unit) (fun _ => [(3, .iptr [.fn (.func gF) [] bF, .fn (.func gH) [] bH, .fn (.func gI) [] bI]), (7, AccV 11 o E), (22, itemsE L), (23, intE L.length), (24, intE i), (10, .ptr m2 0), (11, .bool k)]) (fun _ => hset (AccH o E (upS st s2 H)) m2 (some (.cells [intE x1.kind, intE x1.code, intE x1.id, .str x1.text, propsE x1.head.props, intE x1.head.ins, intE x1.head.move, delsE x1.head.dels, layersE x1.head.layers, itemsE x1.flow, rowsE x1.rows]))) (fun _ m3 => m2 + 1 = m3) ?_ (fun _ m3 hm3 => ?_)
          · rw [Item.enc_eq, Item.enc_eq] at hci
            simp [go_sem]
            refine SC.use (by simpa using hci) ?_
            rintro v H' n' ⟨rfl, rfl, rfl⟩
            simp [go_sem, Fz.same, hset_at, hset_two]
          subst hm3
          cases k with
          | false =>
            have hst3 : Q (i + 1) = ((Q i).1, s2) := by simpa using hst'
            simp only [hst3, hEi]
            refine SP_of ?_
            simp [go_sem, Fz.same]
            exact ⟨o, ⟨by omega, hA.mono (by omega)⟩, rfl, set_keep (hXb2 _) look_same⟩
          | true =>
            rw [if_pos rfl] at hst'
            have hst3 := hst'
            obtain ⟨hk1, hk6, hk7⟩ := hok rfl
            rcases hh : R.head x1.head s2 with ⟨h3, s3⟩
            rw [hh] at hst3
            dsimp only at hst3
            obtain ⟨y, hy⟩ : ∃ y, y = x1.wHead h3 := ⟨_, rfl⟩
            rw [← hy] at hst3
            have hit3 : rk (rwIn R (rwItems R N) y s3).2 ≤ top := by have := htop; rwa [hst3] at this
            have ht3 : rk s3 ≤ top := Nat.le_trans (rwIn_up C.up iu y s3) hit3
            simp only [hst3, List.map_append, hEi, List.map_cons, List.map_nil]
            have hB0 : ∀ (s : σ) (z : SObj), hset (AccH o E (upS st s H)) m2 (some z) = upS st s (hset (AccH o E H) m2 (some z)) := fun s z => by rw [← K.acc hn hA, K.hset _ _ (by omega)]
            refine SP_mid 0 (α := Unit) (fun _ => [(3, .iptr [.fn (.func gF) [] bF, .fn (.func gH) [] bH, .fn (.func gI) [] bI]), (7, AccV 11 o E), (22, itemsE L), (23, intE L.length), (24, intE i), (10, .ptr m2 0)]) (fun _ => hset (AccH o E (upS st s2 H)) m2 (some (.cells [intE x1.kind, intE x1.code, intE x1.id, .str x1.text, propsE x1.head.props, intE x1.head.ins, intE x1.head.move, delsE x1.head.dels, layersE x1.head.layers, itemsE x1.flow, rowsE x1.rows]))) (fun _ m3 => m2 + 1 = m3) ?_ (fun _ m3 hm3 => ?_)
            · simp [go_sem, Fz.same]
            subst hm3
            have hch := C.head x1.head s2 (hset (AccH o E (upS st s2 H)) m2 (some (.cells [intE x1.kind, intE x1.code, intE x1.id, .str x1.text, propsE x1.head.props, intE x1.head.ins, intE x1.head.move, delsE x1.head.dels, layersE x1.head.layers, itemsE x1.flow, rowsE x1.rows]))) (m2 + 1) hk1 (by rw [hh]; exact ht3) (by omega) (by rw [hB0]; exact has_up)
            rw [hh, hB0, K.up2, ← hB0 s2, ← hB0 s3] at hch
            dsimp only at hch
            refine SP_mid 0 (α := Unit) (fun _ => [(3, .iptr [.fn (.func gF) [] bF, .fn (.func gH) [] bH, .fn (.func gI) [] bI]), (7, AccV 11 o E), (22, itemsE L), (23, intE L.length), (24, intE i), (10, .ptr m2 0)]) (fun _ => hset (AccH o E (upS st s3 H)) m2 (some (.cells [intE y.kind, intE y.code, intE y.id, .str y.text, propsE y.head.props, intE y.head.ins, intE y.head.move, delsE y.head.dels, layersE y.head.layers, itemsE y.flow, rowsE y.rows]))) (fun _ m3 => m2 + 1 = m3) ?_ (fun _ m3 hm3 => ?_)
            · simp [go_sem, hset_at]
              refine SC.use (by simpa [Head.enc, Head.flat] using hch) ?_
              rintro v H' n' ⟨rfl, rfl, rfl⟩
              simp [go_sem, Fz.same, hset_at, hset_two, hy, Item.wHead, Item.kind, Item.code, Item.id, Item.text, Item.head, Item.flow, Item.rows]
            subst hm3
            have hyk : y.kind = x1.kind ∧ y.flow = x1.flow ∧ y.rows = x1.rows ∧ y.id = x1.id := by rw [hy]; cases x1; exact ⟨rfl, rfl, rfl, rfl⟩
            obtain ⟨y1, y2, y3, y4⟩ := hyk
            rw [← y1, ← y2] at hk6
            rw [← y1, ← y3] at hk7
            clear hch hh hst' hf hci hok
            refine SP_midS 1 (α := Unit) (fun _ => [(3, .iptr [.fn (.func gF) [] bF, .fn (.func gH) [] bH, .fn (.func gI) [] bI]), (7, AccV 11 o E), (22, itemsE L), (23, intE L.length), (24, intE i), (10, .iptr [intE (rwIn R (rwItems R N) y s3).1.kind, intE (rwIn R (rwItems R N) y s3).1.code, intE (rwIn R (rwItems R N) y s3).1.id, .str (rwIn R (rwItems R N) y s3).1.text, propsE (rwIn R (rwItems R N) y s3).1.head.props, intE (rwIn R (rwItems R N) y s3).1.head.ins, intE (rwIn R (rwItems R N) y s3).1.head.move, delsE (rwIn R (rwItems R N) y s3).1.head.dels, layersE (rwIn R (rwItems R N) y s3).1.head.layers, itemsE (rwIn R (rwItems R N) y s3).1.flow, rowsE (rwIn R (rwItems R N) y s3).1.rows])]) (fun _ => AccH o E (upS st (rwIn R (rwItems R N) y s3).2 H)) (fun _ m3 => m2 + 1 ≤ m3) ?_ (fun _ m3 hm3 => ?_)
            · refine SP_mid 0 (α := Unit) (fun _ => [(3, .iptr [.fn (.func gF) [] bF, .fn (.func gH) [] bH, .fn (.func gI) [] bI]), (7, AccV 11 o E), (22, itemsE L), (23, intE L.length), (24, intE i), (10, .ptr m2 0), (44, intE y.kind)]) (fun _ => hset (AccH o E (upS st s3 H)) m2 (some (.cells [intE y.kind, intE y.code, intE y.id, .str y.text, propsE y.head.props, intE y.head.ins, intE y.head.move, delsE y.head.dels, layersE y.head.layers, itemsE y.flow, rowsE y.rows]))) (fun _ m3 => m2 + 1 = m3) ?_ (fun _ m3 hm3 => ?_)
              · simp [go_sem, Fz.same, hset_at]
              subst hm3
              by_cases h6 : y.kind = 6
              · have hw : rwIn R (rwItems R N) y s3 = (y.wFlow (rwItems R N y.id y.flow s3).1, (rwItems R N y.id y.flow s3).2) := by unfold rwIn; rw [if_pos h6]
                rw [hw] at hit3 ⊢
                dsimp only at hit3 ⊢
                have hcf := ih y.id y.flow s3 (hset (AccH o E (upS st s3 H)) m2 (some (.cells [intE y.kind, intE y.code, intE y.id, .str y.text, propsE y.head.props, intE y.head.ins, intE y.head.move, delsE y.head.dels, layersE y.head.layers, itemsE y.flow, rowsE y.rows]))) (m2 + 1) (hk6 h6) hit3 (by omega) (by rw [hB0]; exact has_up)
                rw [hB0, K.up2, ← hB0 s3, ← hB0 (rwItems R N y.id y.flow s3).2] at hcf
                refine SP_of ?_
                simp [go_sem, h6, hset_at]
                refine SC.use (by simpa [h6] using hcf) ?_
                rintro v H' n' ⟨rfl, rfl, rfl⟩
                simp [go_sem, Fz.same, hset_at, hset_two]
                refine ⟨ptr_fz (lt_none (hXb2 _) (Nat.le_refl m2)) ?_, set_keep (hXb2 _) look_same⟩
                rw [hset_at]
                cases y; simp [Item.wFlow, Item.kind, Item.code, Item.id, Item.text, Item.head, Item.flow, Item.rows] at h6 ⊢
                exact h6.symm
              · by_cases h7 : y.kind = 7
                · have hw : rwIn R (rwItems R N) y s3 = (y.wRows (rwRows R (rwItems R N) y.rows s3).1, (rwRows R (rwItems R N) y.rows s3).2) := by unfold rwIn; rw [if_neg h6, if_pos h7]
                  obtain ⟨hr1, hr2⟩ := hk7 h7
                  rw [hw] at hit3 ⊢
                  dsimp only at hit3 ⊢
                  obtain ⟨B, hB⟩ : ∃ B : Hp, B = hset (AccH o E H) m2 (some (.cells [intE y.kind, intE y.code, intE y.id, .str y.text, propsE y.head.props, intE y.head.ins, intE y.head.move, delsE y.head.dels, layersE y.head.layers, itemsE y.flow, rowsE y.rows])) := ⟨_, rfl⟩
                  have hBs : ∀ s, hset (AccH o E (upS st s H)) m2 (some (.cells [intE y.kind, intE y.code, intE y.id, .str y.text, propsE y.head.props, intE y.head.ins, intE y.head.move, delsE y.head.dels, layersE y.head.layers, itemsE y.flow, rowsE y.rows])) = upS st s B := fun s => by rw [hB0, hB]
                  have hBb : ∀ s' j z, upS st s' B j = some z → j < m2 + 1 := fun s' => K.ltU (by omega) (fun j z e => by
                    rw [hB] at e
                    by_cases e1 : j = m2
                    · omega
                    · rw [hset_ne _ _ e1] at e; have := acc_lt hHb hm1 hA j z e; omega) s'
                  rw [hBs]
                  obtain ⟨Rr, hRr⟩ : ∃ Rr : Nat → List Row × σ, ∀ i, Rr i = (y.rows.take i).foldl (rwRow R (rwItems R N)) ([], s3) := ⟨_, fun _ => rfl⟩
                  have hRr0 : Rr 0 = ([], s3) := by rw [hRr]; rfl
                  have hRrs : ∀ i r, (h : i < y.rows.length) → y.rows[i] = r → Rr (i + 1) = rwRow R (rwItems R N) (Rr i) r := fun i x h hx => by rw [hRr, hRr, foldl_take _ _ _ _ _ h hx]
                  have hRrl : Rr y.rows.length = rwRows R (rwItems R N) y.rows s3 := by rw [hRr, List.take_length]; rfl
                  have hRrn : ∀ i, (Rr i).1.length ≤ i := fun i => by rw [hRr]; have := rwRows_len (R := R) (it := rwItems R N) (y.rows.take i) ([], s3); simp at this; omega
                  have hRrt : ∀ i, rk (Rr i).2 ≤ top := fun i => by rw [hRr]; exact Nat.le_trans (rk_take (rwRow_up C.up iu) _ _ i) hit3
                  clear hRr
                  refine SP_block ?_
                  refine SP_mid 0 (α := Unit) (fun _ => [(3, .iptr [.fn (.func gF) [] bF, .fn (.func gH) [] bH, .fn (.func gI) [] bI]), (7, AccV 11 o E), (22, itemsE L), (23, intE L.length), (24, intE i), (10, .ptr m2 0), (44, intE y.kind), (45, .bool false)]) (fun _ => upS st s3 B) (fun _ m3 => m2 + 1 = m3) ?_ (fun _ m3 hm3 => ?_)
                  · simp [go_sem, Fz.same, show (y.kind == 6) = false by simpa using h6]
                  subst hm3
                  refine SWE_cond (b := false) (by simp [go_sem]) ?_
                  rw [if_neg (by simp)]
                  refine SP_mid 0 (α := Unit) (fun _ => [(3, .iptr [.fn (.func gF) [] bF, .fn (.func gH) [] bH, .fn (.func gI) [] bI]), (7, AccV 11 o E), (22, itemsE L), (23, intE L.length), (24, intE i), (10, .ptr m2 0), (54, .bool true)]) (fun _ => upS st s3 B) (fun _ m3 => m2 + 1 = m3) ?_ (fun _ m3 hm3 => ?_)
                  · simp [go_sem, Fz.same, h7]
                  subst hm3
                  refine SWE_cond (b := true) (by simp [go_sem]) ?_
                  rw [if_pos rfl]
                  refine SP_mid 0 (α := Unit) (fun _ => [(3, .iptr [.fn (.func gF) [] bF, .fn (.func gH) [] bH, .fn (.func gI) [] bI]), (7, AccV 11 o E), (22, itemsE L), (23, intE L.length), (24, intE i), (10, .ptr m2 0), (12, .imm 0 [] true)]) (fun _ => upS st s3 B) (fun _ m3 => m2 + 1 = m3) ?_ (fun _ m3 hm3 => ?_)
                  · simp [go_sem, Fz.same]
                  subst hm3
                  refine SP_midS 1 (α := Unit) (fun _ => [(3, .iptr [.fn (.func gF) [] bF, .fn (.func gH) [] bH, .fn (.func gI) [] bI]), (7, AccV 11 o E), (22, itemsE L), (23, intE L.length), (24, intE i), (10, .ptr m2 0), (12, rowsE (Rr y.rows.length).1)]) (fun _ => upS st (Rr y.rows.length).2 B) (fun _ m3 => m2 + 1 ≤ m3) ?_ (fun _ m3 hm3 => ?_)
                  · refine SP_mid 0 (α := Unit) (fun _ => [(3, .iptr [.fn (.func gF) [] bF, .fn (.func gH) [] bH, .fn (.func gI) [] bI]), (7, AccV 11 o E), (22, itemsE L), (23, intE L.length), (24, intE i), (10, .ptr m2 0), (12, .imm 0 [] true), (57, rowsE y.rows), (58, intE y.rows.length), (59, intE 0)]) (fun _ => upS st s3 B) (fun _ m3 => m2 + 1 = m3) ?_ (fun _ m3 hm3 => ?_)
                    · rw [← hBs]; simp [go_sem, Fz.same, hset_at]
                    subst hm3
                    refine SP_block (goloopS 0 (α := Nat × Option Nat) (fun q => [(3, .iptr [.fn (.func gF) [] bF, .fn (.func gH) [] bH, .fn (.func gI) [] bI]), (7, AccV 11 o E), (22, itemsE L), (23, intE L.length), (24, intE i), (10, .ptr m2 0), (12, AccV 6 q.2 ((Rr q.1).1.map Row.enc)), (57, rowsE y.rows), (58, intE y.rows.length), (59, intE q.1)])
                      (fun q => AccH q.2 ((Rr q.1).1.map Row.enc) (upS st (Rr q.1).2 B)) (fun q m => q.1 ≤ y.rows.length ∧ m2 + 1 ≤ m ∧ AccI (m2 + 1) m 6 q.2 ((Rr q.1).1.map Row.enc)) (fun q => y.rows.length - q.1) (0, none) ⟨Nat.zero_le _, Nat.le_refl _, by simp only [hRr0]; exact AccI.nil _ _ _⟩ ?_ ?_ ?_)
                    · simp [go_sem, look, AccV, Fz.same]
                    · simp only [hRr0]; exact look_same
                    rintro ⟨a, o2⟩ m3 ⟨ha, hm3, hA2⟩
                    dsimp only at ha hm3 hA2 ⊢
                    have hGn : ((Rr a).1.map Row.enc).length ≤ a := by rw [List.length_map]; exact hRrn a
                    by_cases halt : a < y.rows.length
                    · have w2 : IntKind.i64.wrap ((a : Int) + 1) = ((a + 1 : Nat) : Int) := by rw [wr64] <;> omega
                      obtain ⟨r, hr⟩ : ∃ r, y.rows[a] = r := ⟨_, rfl⟩
                      obtain ⟨g1, g2, g3⟩ := hr2 r (hr ▸ List.getElem_mem halt)
                      have hrst := hRrs a r halt hr
                      have hrtop := hRrt (a + 1)
                      generalize hSr : (Rr a).2 = sr at hrst
                      generalize hGi : (Rr a).1.map Row.enc = G at hA2 hGn ⊢
                      have hGb : ∀ s' j z, AccH o2 G (upS st s' B) j = some z → j < m3 := fun s' => acc_lt (hBb s') hm3 hA2
                      refine SP_mid 0 (α := Unit) (fun _ => [(3, .iptr [.fn (.func gF) [] bF, .fn (.func gH) [] bH, .fn (.func gI) [] bI]), (7, AccV 11 o E), (22, itemsE L), (23, intE L.length), (24, intE i), (10, .ptr m2 0), (12, AccV 6 o2 G), (57, rowsE y.rows), (58, intE y.rows.length), (59, intE a), (60, .bool true)]) (fun _ => AccH o2 G (upS st sr B)) (fun _ m' => m3 = m') ?_ (fun _ m' hm' => ?_)
                      · simp [go_sem, Fz.same, halt]
                      subst hm'
                      refine SP_mid 0 (α := Unit) (fun _ => [(3, .iptr [.fn (.func gF) [] bF, .fn (.func gH) [] bH, .fn (.func gI) [] bI]), (7, AccV 11 o E), (22, itemsE L), (23, intE L.length), (24, intE i), (10, .ptr m2 0), (12, AccV 6 o2 G), (57, rowsE y.rows), (58, intE y.rows.length), (59, intE a)]) (fun _ => AccH o2 G (upS st sr B)) (fun _ m' => m3 = m') ?_ (fun _ m' hm' => ?_)
                      · simp [go_sem, Fz.same]
                      subst hm'
                      refine SP_midS 0 (α := Option Nat) (fun o2 => [(3, .iptr [.fn (.func gF) [] bF, .fn (.func gH) [] bH, .fn (.func gI) [] bI]), (7, AccV 11 o E), (22, itemsE L), (23, intE L.length), (24, intE i), (10, .ptr m2 0), (12, AccV 6 o2 ((Rr (a + 1)).1.map Row.enc)), (57, rowsE y.rows), (58, intE y.rows.length), (59, intE a)]) (fun o2 => AccH o2 ((Rr (a + 1)).1.map Row.enc) (upS st (Rr (a + 1)).2 B)) (fun o2 m => m2 + 1 ≤ m ∧ AccI (m2 + 1) m 6 o2 ((Rr (a + 1)).1.map Row.enc)) ?_ (fun o2 m hm => ?_)
                      · refine SP_block ?_
                        refine SP_mid 1 (α := Unit) (fun _ => [(3, .iptr [.fn (.func gF) [] bF, .fn (.func gH) [] bH, .fn (.func gI) [] bI]), (7, AccV 11 o E), (22, itemsE L), (23, intE L.length), (24, intE i), (10, .ptr m2 0), (12, AccV 6 o2 G), (57, rowsE y.rows), (58, intE y.rows.length), (59, intE a), (14, .iptr (r.head.flat ++ [cellsE r.cells]))]) (fun _ => AccH o2 G (upS st sr B)) (fun _ m4 => m3 ≤ m4) ?_ (fun _ m4 hm4 => ?_)
                        · simp [go_sem, Fz.same, halt, hr, Row.enc_eq, Head.flat, hset_at]
                          refine ⟨ptr_fz (lt_none (hGb _) (Nat.le_refl m3)) (hset_at _ _ _), set_keep (hGb _) (set_keep (hGb _) look_same)⟩
                        have hGb2 : ∀ s' j z, AccH o2 G (upS st s' B) j = some z → j < m4 := fun s' j z e => by have := hGb s' j z e; omega
                        rw [rwRow, hSr] at hrst
                        rcases hh : R.head r.head sr with ⟨h4, sr1⟩
                        rw [hh] at hrst
                        dsimp only at hrst
                        rw [hrst] at hrtop
                        dsimp only at hrtop
                        have hct1 : rk sr1 ≤ top := Nat.le_trans (rwCells_up C.up iu r.cells sr1) hrtop
                        have hch := C.head r.head sr (AccH o2 G (upS st sr B)) m4 g1 (by rw [hh]; exact hct1) (by omega) (K.has (by omega) hA2 has_up)
                        rw [hh, K.acc (by omega) hA2, K.up2] at hch
                        dsimp only at hch
                        refine SP_mid 0 (α := Unit) (fun _ => [(3, .iptr [.fn (.func gF) [] bF, .fn (.func gH) [] bH, .fn (.func gI) [] bI]), (7, AccV 11 o E), (22, itemsE L), (23, intE L.length), (24, intE i), (10, .ptr m2 0), (12, AccV 6 o2 G), (57, rowsE y.rows), (58, intE y.rows.length), (59, intE a), (14, .iptr (r.head.flat ++ [cellsE r.cells])), (15, .ptr m4 0)]) (fun _ => hset (AccH o2 G (upS st sr1 B)) m4 (some (.cells (h4.flat ++ [.imm 0 [] true])))) (fun _ m5 => m4 + 1 = m5) ?_ (fun _ m5 hm5 => ?_)
                        · simp [go_sem, Head.flat]
                          refine SC.use (by simpa [Head.enc, Head.flat] using hch) ?_
                          rintro v H' n' ⟨rfl, rfl, rfl⟩
                          simp [go_sem, Fz.same, hset_at, hset_two]
                        subst hm5
                        clear hch hh
                        obtain ⟨B1, hB1⟩ : ∃ B1 : Hp, B1 = AccH o2 G B := ⟨_, rfl⟩
                        have hB1s : ∀ s, AccH o2 G (upS st s B) = upS st s B1 := fun s => by rw [hB1, K.acc (by omega) hA2]
                        have hB1b : ∀ s' j z, upS st s' B1 j = some z → j < m4 := fun s' j z e => hGb2 s' j z (by rw [hB1s]; exact e)
                        obtain ⟨Rc, hRc⟩ : ∃ Rc : Nat → List Cell × σ, ∀ i, Rc i = (r.cells.take i).foldl (rwCell R (rwItems R N)) ([], sr1) := ⟨_, fun _ => rfl⟩
                        have hRc0 : Rc 0 = ([], sr1) := by rw [hRc]; rfl
                        have hRcs : ∀ i c, (h : i < r.cells.length) → r.cells[i] = c → Rc (i + 1) = rwCell R (rwItems R N) (Rc i) c := fun i x h hx => by rw [hRc, hRc, foldl_take _ _ _ _ _ h hx]
                        have hRcl : Rc r.cells.length = rwCells R (rwItems R N) r.cells sr1 := by rw [hRc, List.take_length]; rfl
                        have hRcn : ∀ i, (Rc i).1.length ≤ i := fun i => by rw [hRc]; have := rwCells_len (R := R) (it := rwItems R N) (r.cells.take i) ([], sr1); simp at this; omega
                        have hRct : ∀ i, rk (Rc i).2 ≤ top := fun i => by rw [hRc]; exact Nat.le_trans (rk_take (rwCell_up C.up iu) _ _ i) hrtop
                        clear hRc
                        rw [← hRcl] at hrst
                        refine SP_midS 3 (α := Unit) (fun _ => [(3, .iptr [.fn (.func gF) [] bF, .fn (.func gH) [] bH, .fn (.func gI) [] bI]), (7, AccV 11 o E), (22, itemsE L), (23, intE L.length), (24, intE i), (10, .ptr m2 0), (12, AccV 6 o2 G), (57, rowsE y.rows), (58, intE y.rows.length), (59, intE a), (15, .iptr (h4.flat ++ [cellsE (Rc r.cells.length).1]))]) (fun _ => AccH o2 G (upS st (Rc r.cells.length).2 B)) (fun _ m5 => m4 + 1 ≤ m5) ?_ (fun _ m5 hm5 => ?_)
                        · refine SP_mid 0 (α := Unit) (fun _ => [(3, .iptr [.fn (.func gF) [] bF, .fn (.func gH) [] bH, .fn (.func gI) [] bI]), (7, AccV 11 o E), (22, itemsE L), (23, intE L.length), (24, intE i), (10, .ptr m2 0), (12, AccV 6 o2 G), (57, rowsE y.rows), (58, intE y.rows.length), (59, intE a), (15, .ptr m4 0), (70, cellsE r.cells), (71, intE r.cells.length), (72, intE 0)]) (fun _ => hset (AccH o2 G (upS st sr1 B)) m4 (some (.cells (h4.flat ++ [.imm 0 [] true])))) (fun _ m5 => m4 + 1 = m5) ?_ (fun _ m5 hm5 => ?_)
                          · simp [go_sem, Fz.same, Head.flat]
                          subst hm5
                          rw [hB1s]
                          refine SP_block (goloopS 0 (α := Nat × Option Nat) (fun q => [(3, .iptr [.fn (.func gF) [] bF, .fn (.func gH) [] bH, .fn (.func gI) [] bI]), (7, AccV 11 o E), (22, itemsE L), (23, intE L.length), (24, intE i), (10, .ptr m2 0), (12, AccV 6 o2 G), (57, rowsE y.rows), (58, intE y.rows.length), (59, intE a), (15, .ptr m4 0), (70, cellsE r.cells), (71, intE r.cells.length), (72, intE q.1)])
                            (fun q => AccH q.2 ((Rc q.1).1.map Cell.enc) (hset (upS st (Rc q.1).2 B1) m4 (some (.cells (h4.flat ++ [AccV 7 q.2 ((Rc q.1).1.map Cell.enc)]))))) (fun q m => q.1 ≤ r.cells.length ∧ m4 + 1 ≤ m ∧ AccI (m4 + 1) m 7 q.2 ((Rc q.1).1.map Cell.enc)) (fun q => r.cells.length - q.1) (0, none) ⟨Nat.zero_le _, Nat.le_refl _, by simp only [hRc0]; exact AccI.nil _ _ _⟩ ?_ ?_ ?_)
                          · simp [go_sem, look, Fz.same]
                          · simp only [hRc0, hB1s]; exact look_same
                          rintro ⟨b, o3⟩ m5 ⟨hb, hm5, hA3⟩
                          dsimp only at hb hm5 hA3 ⊢
                          have hDn : ((Rc b).1.map Cell.enc).length ≤ b := by rw [List.length_map]; exact hRcn b
                          by_cases hblt : b < r.cells.length
                          · have w3 : IntKind.i64.wrap ((b : Int) + 1) = ((b + 1 : Nat) : Int) := by rw [wr64] <;> omega
                            obtain ⟨c, hc⟩ : ∃ c, r.cells[b] = c := ⟨_, rfl⟩
                            obtain ⟨c1, c2⟩ := g3 c (hc ▸ List.getElem_mem hblt)
                            have hcst := hRcs b c hblt hc
                            have hctop := hRct (b + 1)
                            generalize hSc : (Rc b).2 = sc at hcst
                            generalize hCi : (Rc b).1.map Cell.enc = D at hA3 hDn ⊢
                            have hYb : ∀ s' z, ∀ j w, hset (upS st s' B1) m4 z j = some w → j < m4 + 1 := fun s' z j w e => by
                              by_cases e1 : j = m4
                              · omega
                              · rw [hset_ne _ _ e1] at e; have := hB1b s' j w e; omega
                            have hZb : ∀ s' z, ∀ j w, AccH o3 D (hset (upS st s' B1) m4 z) j = some w → j < m5 := fun s' z => acc_lt (hYb s' z) hm5 hA3
                            refine SP_mid 0 (α := Unit) (fun _ => [(3, .iptr [.fn (.func gF) [] bF, .fn (.func gH) [] bH, .fn (.func gI) [] bI]), (7, AccV 11 o E), (22, itemsE L), (23, intE L.length), (24, intE i), (10, .ptr m2 0), (12, AccV 6 o2 G), (57, rowsE y.rows), (58, intE y.rows.length), (59, intE a), (15, .ptr m4 0), (70, cellsE r.cells), (71, intE r.cells.length), (72, intE b), (73, .bool true)]) (fun _ => AccH o3 D (hset (upS st sc B1) m4 (some (.cells (h4.flat ++ [AccV 7 o3 D]))))) (fun _ m' => m5 = m') ?_ (fun _ m' hm' => ?_)
                            · simp [go_sem, Fz.same, hblt]
                            subst hm'
                            refine SP_mid 0 (α := Unit) (fun _ => [(3, .iptr [.fn (.func gF) [] bF, .fn (.func gH) [] bH, .fn (.func gI) [] bI]), (7, AccV 11 o E), (22, itemsE L), (23, intE L.length), (24, intE i), (10, .ptr m2 0), (12, AccV 6 o2 G), (57, rowsE y.rows), (58, intE y.rows.length), (59, intE a), (15, .ptr m4 0), (70, cellsE r.cells), (71, intE r.cells.length), (72, intE b)]) (fun _ => AccH o3 D (hset (upS st sc B1) m4 (some (.cells (h4.flat ++ [AccV 7 o3 D]))))) (fun _ m' => m5 = m') ?_ (fun _ m' hm' => ?_)
                            · simp [go_sem, Fz.same]
                            subst hm'
                            refine SP_midS 0 (α := Option Nat) (fun _ => [(3, .iptr [.fn (.func gF) [] bF, .fn (.func gH) [] bH, .fn (.func gI) [] bI]), (7, AccV 11 o E), (22, itemsE L), (23, intE L.length), (24, intE i), (10, .ptr m2 0), (12, AccV 6 o2 G), (57, rowsE y.rows), (58, intE y.rows.length), (59, intE a), (15, .ptr m4 0), (70, cellsE r.cells), (71, intE r.cells.length), (72, intE b)]) (fun o3 => AccH o3 ((Rc (b + 1)).1.map Cell.enc) (hset (upS st (Rc (b + 1)).2 B1) m4 (some (.cells (h4.flat ++ [AccV 7 o3 ((Rc (b + 1)).1.map Cell.enc)]))))) (fun o3 m => m4 + 1 ≤ m ∧ AccI (m4 + 1) m 7 o3 ((Rc (b + 1)).1.map Cell.enc)) ?_ (fun o3 m hm => ?_)
                            · refine SP_block ?_
                              refine SP_mid 1 (α := Unit) (fun _ => [(3, .iptr [.fn (.func gF) [] bF, .fn (.func gH) [] bH, .fn (.func gI) [] bI]), (7, AccV 11 o E), (22, itemsE L), (23, intE L.length), (24, intE i), (10, .ptr m2 0), (12, AccV 6 o2 G), (57, rowsE y.rows), (58, intE y.rows.length), (59, intE a), (15, .ptr m4 0), (70, cellsE r.cells), (71, intE r.cells.length), (72, intE b), (17, .iptr ([intE c.id] ++ c.head.flat ++ [itemsE c.flow]))]) (fun _ => AccH o3 D (hset (upS st sc B1) m4 (some (.cells (h4.flat ++ [AccV 7 o3 D]))))) (fun _ m6 => m5 ≤ m6) ?_ (fun _ m6 hm6 => ?_)
                              · simp [go_sem, Fz.same, hblt, hc, Cell.enc_eq, Head.flat, hset_at]
                                refine ⟨ptr_fz (lt_none (hZb _ _) (Nat.le_refl m5)) (hset_at _ _ _), set_keep (hZb _ _) (set_keep (hZb _ _) look_same)⟩
                              rw [rwCell, hSc] at hcst
                              rcases hh : R.head c.head sc with ⟨h5, sc1⟩
                              rw [hh] at hcst
                              dsimp only at hcst
                              rcases hi5 : rwItems R N c.id c.flow sc1 with ⟨q5, sc2⟩
                              rw [hi5] at hcst
                              dsimp only at hcst
                              rw [hcst] at hctop
                              dsimp only at hctop
                              have hct1 : rk sc1 ≤ top := by have := iu c.id c.flow sc1; rw [hi5] at this; exact Nat.le_trans this hctop
                              obtain ⟨B2, hB2⟩ : ∃ B2 : Hp, B2 = AccH o3 D (hset B1 m4 (some (.cells (h4.flat ++ [AccV 7 o3 D])))) := ⟨_, rfl⟩
                              have hB2s : ∀ s, AccH o3 D (hset (upS st s B1) m4 (some (.cells (h4.flat ++ [AccV 7 o3 D])))) = upS st s B2 := fun s => by rw [hB2, K.hset _ _ (by omega), ← K.acc (by omega) hA3]
                              have hch := C.head c.head sc (upS st sc B2) m6 c1 (by rw [hh]; exact hct1) (by omega) has_up
                              rw [hh, K.up2] at hch
                              dsimp only at hch
                              have hcf := ih c.id c.flow sc1 (upS st sc1 B2) m6 c2 (by rw [hi5]; exact hctop) (by omega) has_up
                              rw [hi5, K.up2] at hcf
                              dsimp only at hcf
                              have hk4 : ∀ s, upS st s B2 m4 = some (.cells (h4.flat ++ [AccV 7 o3 D])) := fun s => by
                                rw [← hB2s]
                                cases o3 with
                                | none => exact hset_at _ _ _
                                | some j => have := (hA3.lt j rfl).1; simp only [AccH]; rw [hset_ne _ _ (by omega), hset_at]
                              have hk5 : ∀ s j, o3 = some j → upS st s B2 j = some (.cells (D.flatMap SV.cells)) := fun s j e => by rw [← hB2s]; exact acc_at j e
                              have h46 : m4 ≠ m6 := by omega
                              have h47 : m4 ≠ m6 + 1 := by omega
                              rw [hB2s]
                              rw [hcst]
                              simp only [List.map_append, hCi, List.map_cons, List.map_nil]
                              obtain ⟨out, ho1, ho2, ho3, ho4, ho5, ho6⟩ := app1_out (X := hset (upS st sc2 B2) m6 (some (.cells (Cell.mk c.id h5 q5).enc.cells))) (h := hset (upS st sc2 B1) m4 (some (.cells (h4.flat ++ [AccV 7 o3 D])))) (k := m6) (p := m6 + 1) (t := 169) (t2 := 169) (el := 173) (z := 7) (e := (Cell.mk c.id h5 q5).enc) (by simp [go_sem]) (by simp [go_sem]) (by simp [go_sem]) (by simp) (by simp [go_sem]) (by simp [go_sem]) (by simp [go_sem]) (by omega) hA3 (Cell.E.st _) (Cell.E.len _) (hset_at _ _ _)
                                (fun j w e => by
                                  have := hZb sc2 _ j w e
                                  rw [hset_ne _ _ (by omega), ← hB2s]; exact e) (hYb _ _) (by omega) (by omega)
                              have hkA : Out.app (hset (upS st sc2 B2) m6 (some (.cells (Cell.mk c.id h5 q5).enc.cells))) (m6 + 1) out m4 = some (.cells (h4.flat ++ [AccV 7 o3 D])) := by
                                rw [ho6 m4 h47 (fun e => by have := (hA3.lt m4 e).1; omega), hset_ne _ _ h46, hk4]
                              have fin := acc_box (bn := some (.cells (h4.flat ++ [AccV 7 (some (m6 + 1)) (D ++ [(Cell.mk c.id h5 q5).enc])]))) (show m6 + 1 ≠ m4 by omega) ho5
                              have hce : (Cell.mk c.id h5 q5).enc.cells = [intE c.id, propsE h5.props, intE h5.ins, intE h5.move, delsE h5.dels, layersE h5.layers, itemsE q5] := by rw [Cell.enc_eq]; rfl
                              have hvv : AccV 7 (some (m6 + 1)) (D ++ [(Cell.mk c.id h5 q5).enc]) = .sl (m6 + 1) 0 7 (D.length + 1) false := by simp [AccV]
                              rw [hvv] at fin
                              simp only [Out.app, hce, Head.flat, List.cons_append, List.nil_append] at hkA fin ho1
                              refine SP_tr trW213 rfl (by kernel_rfl) (by kernel_rfl) ?_
                              simp [go_sem, trW213, hk4, Head.flat]
                              refine ⟨?_, ?_⟩
                              · refine SC.use (by simpa [Head.enc, Head.flat] using hch) ?_
                                rintro v H' n' ⟨rfl, rfl, rfl⟩
                                simp [go_sem]
                                refine SC.use hcf ?_
                                rintro v H' n' ⟨rfl, rfl, rfl⟩
                                simp [go_sem]
                                rw [ho1]
                                simp [go_sem, hkA, ho2, ho3]
                                exact ⟨some (n' + 1), ⟨by omega, ho4⟩, by rw [hvv]; exact fin⟩
                              · refine SC.use (by simpa [Head.enc, Head.flat] using hch) ?_
                                rintro v H' n' ⟨rfl, rfl, rfl⟩
                                have h46' := Ne.symm h46
                                simp [go_sem, Head.flat, hk4]
                                refine ⟨?_, ?_⟩
                                · refine SC.use hcf ?_
                                  rintro v H' n' ⟨rfl, rfl, rfl⟩
                                  simp [go_sem]
                                  rw [ho1]
                                  simp [go_sem, hkA, ho2, ho3]
                                  exact ⟨some (n' + 1), ⟨by omega, ho4⟩, by rw [hvv]; exact fin⟩
                                · refine SC.use hcf ?_
                                  rintro v H' n' ⟨rfl, rfl, rfl⟩
                                  simp [go_sem, Head.flat, hk4, hset_ne _ _ h46]
                                  rw [ho1]
                                  simp [go_sem, hkA, ho2, ho3]
                                  exact ⟨some (n' + 1), ⟨by omega, ho4⟩, by rw [hvv]; exact fin⟩
                            · refine SP_of ?_
                              simp [go_sem, w3, Fz.same, -Int.natCast_add]
                              exact ⟨b + 1, by omega, o3, ⟨by omega, hm.1, hm.2⟩, rfl, look_same⟩
                          · have hbe : b = r.cells.length := by omega
                            subst hbe
                            refine SP_of ?_
                            simp [go_sem, Fz.same]
                            have hYb : ∀ s' z, ∀ j w, hset (upS st s' B1) m4 z j = some w → j < m4 + 1 := fun s' z j w e => by
                              by_cases e1 : j = m4
                              · omega
                              · rw [hset_ne _ _ e1] at e; have := hB1b s' j w e; omega
                            refine ⟨by omega, box_fz (lt_none (hB1b _) (Nat.le_refl _)) ?_ (accfzB hA3 (fun j h1 h2 => lt_none (hB1b _) (by omega)) fun j e => acc_at j e), fun j w e => ?_⟩
                            · cases o3 with
                              | none => exact hset_at _ _ _
                              | some j => have := (hA3.lt j rfl).1; simp only [AccH]; rw [hset_ne _ _ (by omega), hset_at]
                            · refine acc_old (hYb _ _) hA3 _ _ ?_
                              rw [hset_ne _ _ (by have := hB1b _ j w e; omega)]; exact e
                        · generalize Rc r.cells.length = rc at hrst ⊢
                          obtain ⟨q2, sr2⟩ := rc
                          dsimp only at hrst ⊢
                          rw [hrst]
                          simp only [List.map_append, hGi, List.map_cons, List.map_nil]
                          refine SP_of ?_
                          simp [go_sem, Head.flat]
                          have hpush := hA2.push (j := m5 + 1) (m' := m5 + 1 + 1) (e := (Row.mk h4 q2).enc) (Row.E.st _) (Row.E.len _) (by omega) (by omega)
                          rw [app1g (es := G) (e := (Row.mk h4 q2).enc) (o := o2) (t := 78) (t2 := 78) (el := 171) (z := 6) (by simp [go_sem]) (by simp [go_sem]) (by simp [go_sem]) (by simp) (by simp [go_sem]) (by simp [go_sem]) (by simp [go_sem]) (by omega) (hA2.mono (by omega)) (Row.E.len _) ?a1 ?a2]
                          case a1 => simp [hset_at, Row.enc_eq, SV.cells, Row.head, Row.cells]
                          case a2 =>
                            intro j e
                            have := (hA2.lt j e).2
                            rw [hset_ne _ _ (by omega)]; exact acc_at j e
                          have hlive := acc_live' (p := m5 + 1) (v := .sl (m5 + 1) 0 6 (G.length + 1) false) (e := (Row.mk h4 q2).enc) (hBb sr2) (by omega) (hA2.mono (m' := m5) (by omega)) (H := hset (AccH o2 G (upS st sr2 B)) m5 (some (.cells [propsE h4.props, intE h4.ins, intE h4.move, delsE h4.dels, layersE h4.layers, cellsE q2]))) (set_keep (fun j z e => by have := hBb sr2 j z e; omega) (acc_old (hBb sr2) hA2))
                          have hvv : AccV 6 (some (m5 + 1)) (G ++ [(Row.mk h4 q2).enc]) = .sl (m5 + 1) 0 6 (G.length + 1) false := by simp [AccV]
                          simp [go_sem]
                          exact ⟨some (m5 + 1), ⟨by omega, hpush⟩, hvv.symm, by simpa [Out.app, SV.cells, Row.enc_eq, Row.head, Row.cells] using hlive⟩
                      · refine SP_of ?_
                        simp [go_sem, w2, Fz.same, -Int.natCast_add]
                        exact ⟨a + 1, by omega, o2, ⟨by omega, hm.1, hm.2⟩, ⟨rfl, rfl⟩, look_same⟩
                    · have hae : a = y.rows.length := by omega
                      subst hae
                      refine SP_of ?_
                      simp [go_sem, Fz.same]
                      exact ⟨by omega, AccV.fz' (fun j hj => lt_none (hBb _) hj) hA2 look_same, acc_old (hBb _) hA2⟩
                  · rw [hRrl] at *
                    rw [← hBs]
                    refine SP_of ?_
                    simp [go_sem, Fz.same, hset_at, hset_two]
                    refine ⟨by omega, ptr_fz (lt_none (hXb2 _) (Nat.le_refl m2)) ?_, set_keep (hXb2 _) look_same⟩
                    rw [hset_at]
                    cases y; simp [Item.wRows, Item.kind, Item.code, Item.id, Item.text, Item.head, Item.flow, Item.rows]
                · have hw : rwIn R (rwItems R N) y s3 = (y, s3) := by unfold rwIn; rw [if_neg h6, if_neg h7]
                  rw [hw]
                  refine SP_of ?_
                  simp [go_sem, h6, h7]
                  exact ⟨ptr_fz (lt_none (hXb2 _) (Nat.le_refl m2)) (hset_at _ _ _), set_keep (hXb2 _) look_same⟩
            · generalize rwIn R (rwItems R N) y s3 = r2 at hit3 hst3 ⊢
              obtain ⟨z, s4⟩ := r2
              dsimp only at hit3 hst3 ⊢
              refine SP_of ?_
              simp [go_sem]
              have hpush := hA.push (j := m3 + 1) (m' := m3 + 1 + 1) (e := z.enc) (Item.E.st _) (Item.E.len _) (by omega) (by omega)
              rw [app1g (es := E) (e := z.enc) (o := o) (t := 22) (t2 := 22) (el := 80) (z := 11) (by simp [go_sem]) (by simp [go_sem]) (by simp [go_sem]) (by simp) (by simp [go_sem]) (by simp [go_sem]) (by simp [go_sem]) (by omega) (hA.mono (by omega)) (Item.E.len _) ?a1 ?a2]
              case a1 => simp [hset_at, Item.enc_eq, SV.cells]
              case a2 =>
                intro j e
                have := (hA.lt j e).2
                rw [hset_ne _ _ (by omega)]; exact acc_at j e
              have hlive := acc_live' (p := m3 + 1) (v := .sl (m3 + 1) 0 11 (E.length + 1) false) (e := z.enc) (hUb s4) (by omega) (hA.mono (m' := m3) (by omega)) (H := hset (AccH o E (upS st s4 H)) m3 (some (.cells [intE z.kind, intE z.code, intE z.id, .str z.text, propsE z.head.props, intE z.head.ins, intE z.head.move, delsE z.head.dels, layersE z.head.layers, itemsE z.flow, rowsE z.rows]))) (set_keep (fun j z e => by have := hUb s4 j z e; omega) (acc_old (hUb s4) hA))
              have hvv : AccV 11 (some (m3 + 1)) (E ++ [z.enc]) = .sl (m3 + 1) 0 11 (E.length + 1) false := by simp [AccV]
              simp [go_sem]
              exact ⟨some (m3 + 1), ⟨by omega, hpush⟩, hvv.symm, by simpa [Out.app, SV.cells, Item.enc_eq] using hlive⟩
        · refine SP_of ?_
          simp [go_sem, w1, Fz.same, -Int.natCast_add]
          exact ⟨i + 1, by omega, o, ⟨by omega, hm.1, hm.2⟩, ⟨rfl, rfl⟩, look_same⟩
      · have hie : i = L.length := by omega
        subst hie
        refine SP_of ?_
        simp [go_sem]
        exact ⟨o, ⟨hm1, hA⟩, rfl, look_same⟩
    · refine SP_of ?_
      simp [go_sem]
      rw [hQl] at hm ⊢
      exact ret_accU (hU _) hm.2 (fun e he => by obtain ⟨x, _, rfl⟩ := List.mem_map.1 he; exact Item.cl n x)
end
section
variable {σ : Type}
def rwDoc (R : Rwr σ) (N : Nat) (d : Document) (s : σ) : Document × σ :=
  ({ d with flow := (rwItems R N 0 d.flow s).1, «end» := (R.head d.«end» (rwItems R N 0 d.flow s).2).1 }, (R.head d.«end» (rwItems R N 0 d.flow s).2).2)
variable {st : σ → Nat → Option SObj} {n0 : Nat} {gF gH gI : FuncId} {bF bH bI : List SV} {R : Rwr σ} {pf : Nat → List Item → Prop} {pi : Nat → Item → Prop} {hp : Head → Prop} {rk : σ → Nat} {top : Nat}
theorem ret_immW {h h2 : Hp} {n n' : Nat} {v : SV} (ho : Old h n) (hc : closed n v = true) (hh : ∀ j y, h j = some y → h2 j = some y) : RetS n h2 n' v (fun w h' n' => w = v ∧ h' = h ∧ n' = n) :=
  .inr ⟨0, v, h, Fz.same, hc, fun j x e => ⟨hh j x e, ho j x e⟩, rfl, rfl, rfl⟩
def trD49 : Tr := (.pure 0 (.pure 1 (.pure 4 (.pure 5 (.pure 6 (.two 2 7 (.two 3 7 (.one 7 (.pure 9 (.one 8 (.one 10 (.pure 11 (.one 12 .nil)))))) (.one 3 (.pure 9 (.one 8 (.one 10 (.pure 11 (.one 12 .nil))))))) (.one 2 (.one 3 (.pure 9 (.one 8 (.one 10 (.pure 11 (.one 12 .nil)))))))))))))
abbrev docZ : List SV := [.imm 0 [] true, .imm 0 [] true, intE 0, intE 0, .imm 0 [] true, .imm 0 [] true, .imm 0 [] true, .imm 0 [] true, .imm 0 [] true, .imm 0 [] true, .imm 0 [] true]
set_option maxHeartbeats 16000000 in
theorem d49w (C : RwC st n0 gF gH gI bF bH bI R pf pi hp rk top) (d : Document) (hd : d.sized) (hpd : hp d.«end») (N : Nat) (hl : pf N d.flow) (s : σ) (ht : rk (rwDoc R N d s).2 ≤ top) {H : Hp} {n : Nat} (hn : n0 ≤ n) (hs : hasU st s H) :
    SCall Tryz.prog 49 [.agg [.fn (.func gF) [] bF, .fn (.func gH) [] bH, .fn (.func gI) [] bI], d.enc] H n (fun v h' n' => v = (rwDoc R N d s).1.enc ∧ h' = upS st (rwDoc R N d s).2 H ∧ n' = n) := by
  refine goS Tryz.func49 rfl (by kernel_rfl) (by kernel_rfl) (by simp [go_sem]) fun ho => ?_
  have K := C.clo
  have hU : ∀ s', Old (upS st s' H) n := fun s' => K.old s' hn ho
  have hUb : ∀ s' j y, upS st s' H j = some y → j < n := fun s' j y e => (hU s' j y e).1
  have hc1 := c79 d hd
  have hih := d116 C N 0 d.flow s
  have hup := C.up.head d.«end» (rwItems R N 0 d.flow s).2
  unfold rwDoc at ht ⊢
  generalize hi : rwItems R N 0 d.flow s = r1 at ht hih hup ⊢
  obtain ⟨l1, s1⟩ := r1
  dsimp only at ht hih hup ⊢
  have hch := C.head d.«end» s1
  generalize hh : R.head d.«end» s1 = r2 at ht hch hup ⊢
  obtain ⟨e2, s2⟩ := r2
  dsimp only at ht hch hup ⊢
  obtain ⟨D, hD⟩ : ∃ D : List SV, D = [itemsE d.flow, propsE d.«end».props, intE d.«end».ins, intE d.«end».move, delsE d.«end».dels, layersE d.«end».layers, revsE d.revs, stylesE d.settings.styles, listsE d.settings.lists, commentsE d.settings.comments, varsE d.settings.vars] := ⟨_, rfl⟩
  have hde : d.enc = .agg D := by rw [hD]; simp [Document.enc, Head.flat, Settings.flat]
  have hB : ∀ (s : σ) (x y : Option SObj), hset (hset (upS st s H) (n + 1) x) (n + 2) y = upS st s (hset (hset H (n + 1) x) (n + 2) y) := fun s x y => by rw [K.hset _ _ (by omega), K.hset _ _ (by omega)]
  refine SP_mid 1 (α := Unit) (fun _ => [(2, .iptr [.fn (.func gF) [] bF, .fn (.func gH) [] bH, .fn (.func gI) [] bI]), (3, .ptr (n + 1) 0), (4, .ptr (n + 2) 0)]) (fun _ => hset (hset (upS st s H) (n + 1) (some (.cells D))) (n + 2) (some (.cells docZ))) (fun _ m => n + 3 = m) ?_ (fun _ m hm => ?_)
  · rw [hde, upS_self s H hs]
    simp [go_sem, Fz.same]
    refine ⟨ptr_fz (by rw [hset_ne _ _ (by omega), hset_ne _ _ (by omega)]; exact ho.none (Nat.le_refl n)) (by simp [hset]; omega), fun j y => ?_⟩
    have := ho j y; simp only [hset]; grind
  subst hm
  refine SP_mid 0 (α := Unit) (fun _ => [(2, .iptr [.fn (.func gF) [] bF, .fn (.func gH) [] bH, .fn (.func gI) [] bI]), (3, .ptr (n + 1) 0), (4, .ptr (n + 2) 0)]) (fun _ => hset (hset (upS st s H) (n + 1) (some (.cells D))) (n + 2) (some (.cells docZ))) (fun _ m => n + 3 = m) ?_ (fun _ m hm => ?_)
  · rw [hde, hD] at hc1
    rw [hD]
    simp [go_sem, hset_at, hset_ne]
    refine PC.use hc1 ?_
    simp [go_sem, Fz.same, hset_at, hset_ne]
    intro j y; simp only [hset]; grind
  subst hm
  obtain ⟨B0, hB0⟩ : ∃ B0 : Hp, B0 = hset (hset H (n + 1) (some (.cells D))) (n + 2) (some (.cells docZ)) := ⟨_, rfl⟩
  have hBs : ∀ s, hset (hset (upS st s H) (n + 1) (some (.cells D))) (n + 2) (some (.cells docZ)) = upS st s B0 := fun s => by rw [hB, hB0]
  have hk : ∀ s, upS st s B0 (n + 1) = some (.cells D) := fun s => by rw [← hBs, hset_ne _ _ (by omega), hset_at]
  obtain ⟨D2, hD2⟩ : ∃ D2 : List SV, D2 = [itemsE l1, propsE e2.props, intE e2.ins, intE e2.move, delsE e2.dels, layersE e2.layers, revsE d.revs, stylesE d.settings.styles, listsE d.settings.lists, commentsE d.settings.comments, varsE d.settings.vars] := ⟨_, rfl⟩
  have hci := hih (upS st s B0) (n + 3) hl (Nat.le_trans hup ht) (by omega) has_up
  have hce := hch (upS st s1 B0) (n + 3) hpd ht (by omega) has_up
  rw [K.up2] at hci hce
  rw [hBs]
  refine SP_midS 0 (α := Unit) (fun _ => [(3, .ptr (n + 1) 0), (4, .ptr (n + 2) 0)]) (fun _ => hset (hset (upS st s2 H) (n + 1) (some (.cells D2))) (n + 2) (some (.cells docZ))) (fun _ m => n + 3 = m) (SP_tr trD49 rfl (by kernel_rfl) (by kernel_rfl) ?_) (fun _ m hm => ?_)
  · have fin : ∀ j w, hset (hset (upS st s2 H) (n + 1) (some (.cells D2))) (n + 2) (some (.cells docZ)) j = some w → hset (upS st s2 B0) (n + 1) (some (.cells D2)) j = some w := fun j w e => by
      rw [← hBs]; simp only [hset] at e ⊢; grind
    rw [hD2] at fin ⊢
    rw [hD] at hk
    simp [go_sem, trD49, hk]
    refine ⟨⟨?_, ?_⟩, ?_⟩
    · refine SC.use hci ?_
      rintro v H' n' ⟨rfl, rfl, rfl⟩
      simp [go_sem, hk]
      refine SC.use (by simpa [Head.enc, Head.flat] using hce) ?_
      rintro v H' n' ⟨rfl, rfl, hn3⟩
      simp [go_sem, hk, hset_at, hset_two, Fz.same]
      exact ⟨hn3.symm, fin⟩
    · refine SC.use hci ?_
      rintro v H' n' ⟨rfl, rfl, rfl⟩
      simp [go_sem]
      refine SC.use (by simpa [Head.enc, Head.flat] using hce) ?_
      rintro v H' n' ⟨rfl, rfl, hn3⟩
      simp [go_sem, hk, hset_at, hset_two, Fz.same]
      exact ⟨hn3.symm, fin⟩
    · refine SC.use hci ?_
      rintro v H' n' ⟨rfl, rfl, rfl⟩
      simp [go_sem]
      refine SC.use (by simpa [Head.enc, Head.flat] using hce) ?_
      rintro v H' n' ⟨rfl, rfl, hn3⟩
      simp [go_sem, hk, hset_at, hset_two, Fz.same]
      exact ⟨hn3.symm, fin⟩
  · subst hm
    refine SP_of ?_
    rw [hD2]
    simp [go_sem, hset_at, hset_ne, hset_two]
    have he : ({ flow := l1, «end» := e2, revs := d.revs, settings := d.settings } : Document).enc = .agg [itemsE l1, propsE e2.props, intE e2.ins, intE e2.move, delsE e2.dels, layersE e2.layers, revsE d.revs, stylesE d.settings.styles, listsE d.settings.lists, commentsE d.settings.comments, varsE d.settings.vars] := by simp [Document.enc, Head.flat, Settings.flat]
    rw [← he]
    exact ret_immW (hU s2) (Document.cl n _) fun j y e => by have := hUb s2 j y e; rw [hset_ne _ _ (by omega), hset_ne _ _ (by omega)]; exact e
end
section
variable {P : Program} {E : Env} {evs : Operand → SV} {o : Oper} {h : Hp} {n : Nat} {K : SV → Hp → Nat → Prop}
theorem sem_sliceData0 {x : Operand} {ts : Array TypeId} (ho : o.op = .call { callee := .builtin .unsafeSliceData, args := #[x], argTypes := ts }) (hx : evs x = .nils)
    (hk : K .nilp h n) : SemOp E P evs o h n K := by
  refine ⟨by rw [ho]; simp, fun c ev _ _ R F hv => ?_⟩
  have hvx := hv x
  rw [hx, V] at hvx
  refine ⟨.pointer none, .nilp, h, n, c, ?_, by rw [V], R, F, Adv.refl n c, hk⟩
  refine run_builtin (P := P) (ev := ev) ho _ _ _ fun cs => ?_
  have hr := Lib.run_unsafeSliceData_nil (P := P) c.w ts o.type 0 0
  simp only [BigFrame.builtin_unsafeSliceData, Sem.run_bind, Sem.run_pure]
  simp only [List.map_toArray, List.map_cons, List.map_nil, hvx] at hr ⊢
  rw [hr]; rfl
theorem sem_unsafeString0 {x y : Operand} {pt it : TypeId} (ho : o.op = .call { callee := .builtin .unsafeString, args := #[x, y], argTypes := #[pt, it] })
    (hx : evs x = .nilp) (hy : evs y = .int .i64 0) (hk : K (.str .empty) h n) : SemOp E P evs o h n K := by
  refine ⟨by rw [ho]; simp, fun c ev _ _ R F hv => ?_⟩
  have hvx := hv x
  rw [hx, V] at hvx
  have hvy := hv y
  rw [hy] at hvy
  have hvy := vint hvy
  refine ⟨.string .empty, .str .empty, h, n, c, ?_, by rw [V], R, F, Adv.refl n c, hk⟩
  refine run_builtin (P := P) (ev := ev) ho _ _ _ fun cs => ?_
  have hr := Lib.run_unsafeString_none (P := P) c.w pt it o.type none
  simp only [BigFrame.builtin_unsafeString, Sem.run_bind, Sem.run_pure]
  simp only [List.map_toArray, List.map_cons, List.map_nil, hvx, hvy] at hr ⊢
  rw [hr]; rfl
end
def chr (x : Item) : ByteArray :=
  if x.kind = 2 then ⟨#[10]⟩ else if x.kind = 3 then ⟨#[29]⟩ else if x.kind = 5 ∨ x.kind = 6 ∨ x.kind = 7 ∨ x.kind = 8 then ⟨#[239, 191, 188]⟩
  else if x.kind = 4 ∧ x.code = 1 then ⟨#[11]⟩ else if x.kind = 4 ∧ x.code = 2 then ⟨#[12]⟩ else if x.kind = 4 ∧ x.code = 3 then ⟨#[9]⟩ else ⟨#[239, 191, 189]⟩
def txt (x : Item) : ByteArray := if x.kind = 1 then x.text else chr x
def textB (l : List Item) : List UInt8 := l.flatMap fun x => (txt x).data.toList
set_option maxHeartbeats 2000000 in
theorem c63 (x : Item) : PC 63 [x.enc] (.str (chr x)) := by
  intro h n
  refine go Tryz.func63 rfl (by kernel_rfl) (by kernel_rfl) (by simp [go_sem]) fun ho => ?_
  have fin : ∀ (s : ByteArray) (a : Option SObj) (m : Nat), chr x = s → RetS n (hset h n a) m (.str s) (Is (.str (chr x)) h n) := fun s a m e => retIs ho (hset_old ho (Nat.le_refl _) look_same) (by rw [e]) rfl
  by_cases h2 : x.kind = 2
  · simp [go_sem, Item.enc_eq, hset_at, h2]
    exact fin _ _ _ (by simp [chr, h2])
  by_cases h3 : x.kind = 3
  · simp [go_sem, Item.enc_eq, hset_at, h3]
    exact fin _ _ _ (by simp [chr, h3])
  by_cases h5 : x.kind = 5
  · simp [go_sem, Item.enc_eq, hset_at, h5]
    exact fin _ _ _ (by simp [chr, h5])
  by_cases h6 : x.kind = 6
  · simp [go_sem, Item.enc_eq, hset_at, h6]
    exact fin _ _ _ (by simp [chr, h6])
  by_cases h7 : x.kind = 7
  · simp [go_sem, Item.enc_eq, hset_at, h7]
    exact fin _ _ _ (by simp [chr, h7])
  by_cases h8 : x.kind = 8
  · simp [go_sem, Item.enc_eq, hset_at, h8]
    exact fin _ _ _ (by simp [chr, h8])
  by_cases h4 : x.kind = 4
  · by_cases k1 : x.code = 1
    · simp [go_sem, Item.enc_eq, hset_at, h4, k1]
      exact fin _ _ _ (by simp [chr, h4, k1])
    by_cases k2 : x.code = 2
    · simp [go_sem, Item.enc_eq, hset_at, h4, k2]
      exact fin _ _ _ (by simp [chr, h4, k2])
    by_cases k3 : x.code = 3
    · simp [go_sem, Item.enc_eq, hset_at, h4, k3]
      exact fin _ _ _ (by simp [chr, h4, k3])
    simp [go_sem, Item.enc_eq, hset_at, h4, k1, k2, k3]
    exact fin _ _ _ (by simp [chr, h4, k1, k2, k3])
  simp [go_sem, Item.enc_eq, hset_at, h2, h3, h4, h5, h6, h7, h8]
  exact fin _ _ _ (by simp [chr, h2, h3, h4, h5, h6, h7, h8])
def bldV (ob : Option Nat) (bs : List UInt8) : SV := match ob with | none => .nils | some j => .sl j 0 1 bs.length false
theorem appBS {H : Hp} {p : Nat} {ob : Option Nat} {bs : List UInt8} {x : ByteArray} (h2 : ∀ j, ob = some j → H j = some (.cells (bs.map byteV) (some 5))) (h0 : ob = none → bs = []) (hroom : bs.length + x.size ≤ 1073741824) :
    builtinS Tryz.prog H p .append [119, 9] [bldV ob bs, .str x] = if x.size = 0 then some { val := bldV ob bs } else
      some { val := .sl p 0 1 (bs.length + x.size) false, upd := ob.map fun j => (j, none), new := some (.cells ((bs ++ x.data.toList).map byteV) (some 5)) } := by
  have e1 : tslice Tryz.prog 119 = some 5 := by simp [go_sem]
  have e9 : tslice Tryz.prog 9 = none := by simp [go_sem]
  have es : tstring Tryz.prog 9 = true := by simp [go_sem]
  have e2 : tsz Tryz.prog 5 = 1 := by simp [go_sem]
  have e3 : (tzero Tryz.prog 5).storable = true := by simp [go_sem]
  have e4 : (tzero Tryz.prog 5).cells.length = 1 := by simp [go_sem]
  have e5 : tbytes Tryz.prog 5 ≤ 65536 := by simp [go_sem]
  have e6 : rowT 5 = some 5 := by rfl
  have hr : roomy (bs.length + x.size) (tbytes Tryz.prog 5) = true := by simp only [roomy, Bool.and_eq_true, decide_eq_true_eq]; exact ⟨by omega, e5⟩
  have hb : bytesC x = x.data.toList.map byteV := rfl
  simp only [builtinS, e1, e9, es, Option.isSome_none, Bool.false_eq_true, if_false, if_true, appendStr, e2, e3, e4]
  cases ob with
  | none =>
    have := h0 rfl
    subst this
    by_cases hx : x.size = 0
    · simp [bldV, appC, zOk, hx, yes]
    · simp only [List.length_nil, Nat.zero_add] at hr
      simp [bldV, appC, zOk, hx, hr, e2, e6, hb]
  | some j =>
    have hj := h2 j rfl
    have hf : flat H (.sl j 0 1 bs.length false) = some (bs.map byteV) := by simp [flat, hj, takeN]; exact List.take_of_length_le (by simp)
    have ht : tyApp H 5 j 0 = some 5 := by simp [tyApp, e6, tyOf, hj]
    by_cases hx : x.size = 0
    · simp [bldV, appC, zOk, hx, yes]
    · simp [bldV, appC, zOk, hx, hf, hr, ht, e2, hb]
theorem d62 {G : Hp} {n q : Nat} {p : SV} {ob : Option Nat} {bs : List UInt8} {x : ByteArray} (hG : G q = some (.cells [p, bldV ob bs] (some 121))) (hp : p = .nilp ∨ p = .ptr q 0)
    (h0 : ob = none → bs = []) (h2 : ∀ j, ob = some j → j ≠ q ∧ G j = some (.cells (bs.map byteV) (some 5))) (hroom : bs.length + x.size ≤ 1073741824) :
    SCall Tryz.prog 62 [.ptr q 0, .str x] G n (fun _ h' n' => ∃ ob', (ob' = none → bs ++ x.data.toList = []) ∧ (∀ j, ob' = some j → j ≠ q ∧ h' j = some (.cells ((bs ++ x.data.toList).map byteV) (some 5)) ∧ (ob = some j ∨ n ≤ j ∧ x.data.toList ≠ []) ∧ j < n') ∧
      h' q = some (.cells [.ptr q 0, bldV ob' (bs ++ x.data.toList)] (some 121)) ∧ n ≤ n' ∧ ∀ o y, o ≠ q → ob ≠ some o → G o = some y → h' o = some y) := by
  refine goS Tryz.func62 rfl (by kernel_rfl) (by kernel_rfl) (by simp [go_sem]) fun ho => ?_
  have hqn : q < n := (ho q _ hG).1
  have hjn : ∀ j, ob = some j → j < n := fun j e => (ho j _ (h2 j e).2).1
  refine SP_mid 0 (α := Unit) (fun _ => [(0, .ptr q 0), (1, .str x)]) (fun _ => G) (fun _ m => n = m) ?_ (fun _ m hm => ?_)
  · simp [go_sem, Fz.same]
  subst hm
  refine SP_mid 0 (α := Unit) (fun _ => [(0, .ptr q 0), (1, .str x)]) (fun _ => hset G q (some (.cells [.ptr q 0, bldV ob bs] (some 121)))) (fun _ m => n = m) ?_ (fun _ m hm => ?_)
  · simp [go_sem]
    refine SC.use (d335b hG hp) ?_
    rintro v H' n' ⟨rfl, rfl, rfl⟩
    simp [go_sem, Fz.same]
  subst hm
  refine SP_of ?_
  have hbl : ∀ ob' bs', (match bldV ob' bs' with | .junk => false | .tup _ => false | _ => true) = true := fun ob' bs' => by cases ob' <;> rfl
  have hap := appBS (H := hset G q (some (.cells [.ptr q 0, bldV ob bs] (some 121)))) (p := n) (x := x) (fun j e => by rw [hset_ne _ _ (h2 j e).1]; exact (h2 j e).2) h0 hroom
  have hsz : x.data.toList.length = x.size := by rw [Array.length_toList]; rfl
  by_cases hx : x.size = 0
  · rw [if_pos hx] at hap
    have hxd : x.data.toList = [] := List.eq_nil_of_length_eq_zero (by omega)
    simp only [hxd, List.append_nil]
    cases ob with
    | none =>
      simp only [bldV] at hap ⊢
      simp [go_sem, hap, hset_at]
      exact .inl ⟨none, by simpa using h0, by simp, by rw [hset_at], Nat.le_refl _, fun o y h1 h3 => by rw [hset_ne _ _ h1, hset_ne _ _ h1]; exact h3⟩
    | some j =>
      simp only [bldV] at hap ⊢
      simp [go_sem, hap, hset_at]
      have hj := h2 j rfl
      exact .inl ⟨some j, by simp, fun i e => by cases e; exact ⟨hj.1, by rw [hset_ne _ _ hj.1, hset_ne _ _ hj.1]; exact hj.2, rfl, hjn j rfl⟩, by rw [hset_at], Nat.le_refl _, fun o y h1 h3 h4 => by rw [hset_ne _ _ h1, hset_ne _ _ h1]; exact h4⟩
  · rw [if_neg hx] at hap
    have hne : q ≠ n := by omega
    have hxn : x.data ≠ #[] := fun e => hx (by rw [← hsz, e]; rfl)
    cases ob with
    | none =>
      simp only [bldV] at hap ⊢
      simp [go_sem, hap, hset_at, hset_ne, hne]
      refine .inl ⟨some n, by simp, fun i e => by cases e; exact ⟨Ne.symm hne, by rw [hset_ne _ _ (Ne.symm hne), hset_at], ⟨Nat.le_refl _, hxn⟩, by omega⟩, by rw [hset_at], by omega, fun o y h1 h3 => ?_⟩
      have := (ho o y h3).1
      rw [hset_ne _ _ h1, hset_ne _ _ (by omega), hset_ne _ _ h1]; exact h3
    | some j =>
      simp only [bldV] at hap ⊢
      have hqj : q ≠ j := Ne.symm (h2 j rfl).1
      simp [go_sem, hap, hset_at, hset_ne, hne, hqj]
      refine .inl ⟨some n, by simp, fun i e => by cases e; exact ⟨Ne.symm hne, by rw [hset_ne _ _ (Ne.symm hne), hset_at], .inr ⟨Nat.le_refl _, hxn⟩, by omega⟩, by rw [hset_at], by omega, fun o y h1 h3 h4 => ?_⟩
      have := (ho o y h4).1
      rw [hset_ne _ _ h1, hset_ne _ _ (by omega), hset_ne _ _ (Ne.symm h3), hset_ne _ _ h1]; exact h4
theorem d64 {G : Hp} {n q j : Nat} {p : SV} {bs : List UInt8} (hG : G q = some (.cells [p, bldV (some j) bs] (some 121))) (hj : G j = some (.cells (bs.map byteV) (some 5))) (_hjq : j ≠ q) (hne : bs ≠ []) (hlen : bs.length ≤ 1073741824) :
    SCall Tryz.prog 64 [.ptr q 0] G n (fun v h' n' => v = .str ⟨bs.toArray⟩ ∧ h' = hset G j none ∧ n' = n) := by
  refine goS Tryz.func64 rfl (by kernel_rfl) (by kernel_rfl) (by simp [go_sem]) fun ho => ?_
  have hl0 : bs.length ≠ 0 := by simpa using hne
  refine SP_mid 0 (α := Unit) (fun _ => [(0, .ptr q 0)]) (fun _ => G) (fun _ m => n = m) ?_ (fun _ m hm => ?_)
  · simp [go_sem, Fz.same]
  subst hm
  refine SP_midS 0 (α := Unit) (fun _ => [(2, .str ⟨bs.toArray⟩)]) (fun _ => hset G j none) (fun _ m => n = m) (SP_tr trSt rfl (by kernel_rfl) (by kernel_rfl) ?_) (fun _ m hm => ?_)
  · simp only [bldV] at hG
    simp [go_sem, trSt, hG]
    have hA : ∀ {E : Env} {evs : Operand → SV} {o : Oper} {n : Nat} {K : SV → Hp → Nat → Prop} {x : Operand} {ts : Array TypeId}, o.op = .call { callee := .builtin .unsafeSliceData, args := #[x], argTypes := ts } → evs x = .sl j 0 1 bs.length false → K (.ptr j 0) G n → SemOp E Tryz.prog evs o G n K := fun e1 e2 k => sem_sliceData e1 e2 hl0 k
    have hB : ∀ {E : Env} {evs : Operand → SV} {o : Oper} {n : Nat} {K : SV → Hp → Nat → Prop} {x y : Operand} {it : TypeId}, o.op = .call { callee := .builtin .unsafeString, args := #[x, y], argTypes := #[199, it] } → evs x = .ptr j 0 → evs y = intE bs.length → K (.str ⟨bs.toArray⟩) (hset G j none) n → SemOp E Tryz.prog evs o G n K := fun e1 e2 e3 k => sem_unsafeString e1 Tryz.underlying199 cells5 e2 e3 hj hne (by omega) k
    refine ⟨⟨?_, ?_, ?_⟩, ⟨?_, ?_⟩, ?_⟩
    all_goals
      refine hA rfl rfl ?_
      simp [go_sem, hG]
      refine hB rfl rfl rfl ?_
      simp [go_sem, Fz.same]
  subst hm
  refine SP_of ?_
  simp [go_sem]
  refine .inl ⟨rfl, rfl, rfl⟩
theorem d64n {G : Hp} {n q : Nat} {p : SV} (hG : G q = some (.cells [p, .nils] (some 121))) :
    SCall Tryz.prog 64 [.ptr q 0] G n (fun v h' n' => v = .str .empty ∧ h' = G ∧ n' = n) := by
  refine goS Tryz.func64 rfl (by kernel_rfl) (by kernel_rfl) (by simp [go_sem]) fun ho => ?_
  refine SP_mid 0 (α := Unit) (fun _ => [(0, .ptr q 0)]) (fun _ => G) (fun _ m => n = m) ?_ (fun _ m hm => ?_)
  · simp [go_sem, Fz.same]
  subst hm
  refine SP_midS 0 (α := Unit) (fun _ => [(2, .str .empty)]) (fun _ => G) (fun _ m => n = m) (SP_tr trSt rfl (by kernel_rfl) (by kernel_rfl) ?_) (fun _ m hm => ?_)
  · simp [go_sem, trSt, hG]
    refine ⟨⟨?_, ?_, ?_⟩, ⟨?_, ?_⟩, ?_⟩
    all_goals
      refine sem_sliceData0 rfl rfl ?_
      simp [go_sem, hG]
      refine sem_unsafeString0 rfl rfl rfl ?_
      simp [go_sem, Fz.same]
  subst hm
  refine SP_of ?_
  simp [go_sem]
  refine .inl ⟨rfl, rfl, rfl⟩
def bldH (h : Hp) (q : Nat) (p : SV) (ob : Option Nat) (bs : List UInt8) : Hp :=
  hset (match ob with | none => h | some j => hset h j (some (.cells (bs.map byteV) (some 5)))) q (some (.cells [p, bldV ob bs] (some 121)))
theorem bldH_q {h : Hp} {q : Nat} {p : SV} {ob : Option Nat} {bs : List UInt8} : bldH h q p ob bs q = some (.cells [p, bldV ob bs] (some 121)) := hset_at _ _ _
theorem bldH_j {h : Hp} {q j : Nat} {p : SV} {bs : List UInt8} (hj : j ≠ q) : bldH h q p (some j) bs j = some (.cells (bs.map byteV) (some 5)) := by unfold bldH; rw [hset_ne _ _ hj]; exact hset_at _ _ _
theorem bldH_o {h : Hp} {q o : Nat} {p : SV} {ob : Option Nat} {bs : List UInt8} (h1 : o ≠ q) (h2 : ob ≠ some o) : bldH h q p ob bs o = h o := by
  unfold bldH
  rw [hset_ne _ _ h1]
  cases ob with
  | none => rfl
  | some j => exact hset_ne _ _ fun e => h2 (by rw [e])
structure TxS where
  k : Nat
  p : SV
  ob : Option Nat
theorem textB_take {l : List Item} {k : Nat} (h : k < l.length) : textB (l.take (k + 1)) = textB (l.take k) ++ (txt l[k]).data.toList := by
  rw [List.take_succ_eq_append_getElem h, textB, List.flatMap_append, textB]; simp
theorem textB_le (l : List Item) (k : Nat) : (textB (l.take k)).length ≤ (textB l).length := by
  have : textB l = textB (l.take k) ++ textB (l.drop k) := by rw [textB, textB, textB, ← List.flatMap_append, List.take_append_drop]
  rw [this, List.length_append]; omega
set_option maxHeartbeats 4000000 in
theorem c23 (l : List Item) (hl : l.length ≤ 1048576) (hb : (textB l).length ≤ 1073741824) : PC 23 [itemsE l] (.str ⟨(textB l).toArray⟩) := by
  intro h n
  refine go Tryz.func23 rfl (by kernel_rfl) (by kernel_rfl) (by simp [go_sem]) fun ho => ?_
  simp [go_sem]
  refine goloop 1 (α := TxS) (fun s => [(3, .ptr n 0), (6, itemsE l), (7, intE l.length), (8, intE s.k)]) (fun s => bldH h n s.p s.ob (textB (l.take s.k)))
    (fun s m => s.k ≤ l.length ∧ n + 1 ≤ m ∧ (s.p = .nilp ∨ s.p = .ptr n 0) ∧ (s.ob = none → textB (l.take s.k) = []) ∧ ∀ j, s.ob = some j → n < j ∧ j < m ∧ textB (l.take s.k) ≠ []) (fun s => l.length - s.k) ⟨0, .nilp, none⟩ ?_ ?_ ?_ ?_
  · simp [textB]
  · simp [look]
  · intro o y e
    simpa [bldH, bldV] using e
  rintro ⟨k, p, ob⟩ m ⟨hk, hm, hp, h0, h1⟩
  simp only at hk hp h0 h1
  by_cases hlt : k < l.length
  · have w1 : IntKind.i64.wrap ((k : Int) + 1) = ((k + 1 : Nat) : Int) := by rw [wr64] <;> omega
    obtain ⟨x, hx⟩ : ∃ x, l[k] = x := ⟨_, rfl⟩
    have nxt : ∀ (s : ByteArray) (G : Hp) (m' : Nat), txt x = s → m ≤ m' → (∀ o, o < m → G o = bldH h n p ob (textB (l.take k)) o) → ∀ (K : SV → Hp → Nat → Prop),
        (∀ v h' n' ob', n + 1 ≤ n' → (ob' = none → textB (l.take (k + 1)) = []) → (∀ j, ob' = some j → n < j ∧ j < n' ∧ textB (l.take (k + 1)) ≠ []) → (∀ o y, bldH h n (.ptr n 0) ob' (textB (l.take (k + 1))) o = some y → h' o = some y) → K v h' n') →
        SCallE (Env.plain.call false 0) Tryz.prog 62 [.ptr n 0, .str s] G m' K := by
      rintro s G m' rfl hmm hG K hK
      have ht := textB_take hlt
      rw [hx] at ht
      have hsz : (txt x).data.toList.length = (txt x).size := by rw [Array.length_toList]; rfl
      have hle := textB_le l (k + 1)
      rw [ht, List.length_append] at hle
      refine SC.use (d62 (p := p) (ob := ob) (bs := textB (l.take k)) (by rw [hG n (by omega), bldH_q]) hp h0 (fun j e => ?_) (by omega)) ?_
      · subst e
        have := h1 j rfl
        exact ⟨by omega, by rw [hG j this.2.1, bldH_j (by omega)]⟩
      · rintro v h' n' ⟨ob', q1, q2, q3, q4, q5⟩
        rw [← ht] at q1 q2 q3
        refine hK v h' n' ob' (by omega) q1 (fun j e => ?_) (fun o y e => ?_)
        · obtain ⟨g1, g2, g3, g4⟩ := q2 j e
          rcases g3 with g3 | ⟨g3, g5⟩
          · have := h1 j g3
            exact ⟨this.1, g4, by rw [ht]; simp [this.2.2]⟩
          · exact ⟨by omega, g4, by rw [ht]; simp; intro _; simpa using g5⟩
        · by_cases e1 : o = n
          · subst e1
            rw [bldH_q] at e; cases e; exact q3
          by_cases e2 : ob' = some o
          · subst e2
            rw [bldH_j e1] at e; cases e; exact (q2 o rfl).2.1
          · rw [bldH_o e1 e2] at e
            have ho2 := (ho o y e).1
            have e3 : ob ≠ some o := fun e3 => by have := h1 o e3; omega
            exact q5 o y e1 e3 (by rw [hG o (by omega), bldH_o e1 e3]; exact e)
    have hGm : ∀ (a b : Option SObj) (o : Nat), o < m → hset (hset (bldH h n p ob (textB (l.take k))) m a) m b o = bldH h n p ob (textB (l.take k)) o := fun a b o ho => by rw [hset_ne _ _ (by omega), hset_ne _ _ (by omega)]
    by_cases h1k : x.kind = 1
    · simp [go_sem, hlt, hx, Item.enc_eq, hset_at, h1k]
      refine nxt _ _ _ (by simp [txt, h1k]) (by omega) (hGm _ _) _ ?_
      rintro v h' n' ob' r1 r2 r3 r4
      simp [go_sem, w1, -Int.natCast_add]
      exact ⟨⟨k + 1, .ptr n 0, ob'⟩, by simp only; omega, ⟨by simp only; omega, r1, .inr rfl, r2, r3⟩, Fz.same, r4⟩
    · simp [go_sem, hlt, hx, Item.enc_eq, hset_at, h1k]
      refine PC.use (by simpa [Item.enc_eq] using c63 x) ?_
      simp [go_sem]
      refine nxt _ _ _ (by simp [txt, h1k]) (by omega) (hGm _ _) _ ?_
      rintro v h' n' ob' r1 r2 r3 r4
      simp [go_sem, w1, -Int.natCast_add]
      exact ⟨⟨k + 1, .ptr n 0, ob'⟩, by simp only; omega, ⟨by simp only; omega, r1, .inr rfl, r2, r3⟩, Fz.same, r4⟩
  · have hke : k = l.length := by omega
    subst hke
    rw [List.take_length] at h0 h1
    simp [go_sem]
    have keep : ∀ o y, h o = some y → bldH h n p ob (textB l) o = some y ∧ ∀ j, ob = some j → o ≠ j := fun o y e => by
      have ho2 := (ho o y e).1
      have e3 : ob ≠ some o := fun e3 => by have := h1 o e3; omega
      exact ⟨by rw [bldH_o (by omega) e3]; exact e, fun j ej e4 => e3 (by rw [ej, e4])⟩
    cases ob with
    | none =>
      have ht := h0 rfl
      refine SC.use (d64n (G := bldH h n p none (textB l)) bldH_q) ?_
      rintro v H' n' ⟨rfl, rfl, rfl⟩
      simp [go_sem]
      exact retIs ho (fun o y e => (keep o y e).1) (by rw [ht]; rfl) rfl
    | some j =>
      have hj := h1 j rfl
      refine SC.use (d64 (G := bldH h n p (some j) (textB l)) bldH_q (bldH_j (by omega)) (by omega) hj.2.2 hb) ?_
      rintro v H' n' ⟨rfl, rfl, rfl⟩
      simp [go_sem]
      exact retIs ho (fun o y e => by rw [hset_ne _ _ ((keep o y e).2 j rfl)]; exact (keep o y e).1) rfl rfl
def idsOf (d : Document) : List Int := (docFlows d).map Fl.id
set_option maxHeartbeats 4000000 in
theorem c39 (d : Document) (hl : d.flow.length ≤ 1048576) (hs : Item.sizedL d.flow) (hn : (docFlows d).length ≤ 1048576) : PC 39 [d.enc] (.imm 1 ((idsOf d).map intE) false) := by
  intro h n
  refine goM Tryz.func39 rfl (by kernel_rfl) (by kernel_rfl) (by simp [go_sem]) fun ho B => ?_
  simp [go_sem, Document.enc, Head.flat, Settings.flat, hset_at, hset_ne, Nat.add_assoc]
  refine PC.use (by simpa [Document.enc, Head.flat, Settings.flat] using c109 d) ?_
  simp [go_sem]
  generalize hH : hset (hset h n _) (n + 1) _ = H
  refine SWE_rangeFunc rfl rfl rfl fun E1 l R hY => ?_
  have h1 : H (n + 1) = some (.cells [.imm 0 [] true]) := by rw [← hH]; simp [hset]
  have hold : ∀ o, o < n → H o = h o := fun o g => by rw [← hH]; rw [hset_ne _ _ (by omega), hset_ne _ _ (by omega)]
  clear hH
  let ids : Nat → List Int := fun k => ((docFlows d).take k).map Fl.id
  let J : Nat → (Nat → Prop) → Hp → Nat → Prop := fun k D hh m => ∃ o : Option Nat, D = (fun j => j = n + 1 ∨ j = n + 2 ∨ o = some j) ∧ n + 2 < m ∧ hh (n + 1) = some (.cells [AccV 1 o ((ids k).map intE)]) ∧ hh (n + 2) = some (.loop (R .ready none)) ∧ AccI (n + 3) m 1 o ((ids k).map intE) ∧ ∀ j, o = some j → hh j = some (.cells ((ids k).map intE))
  have Y : YJ E1 l Fl.enc (docFlows d) J (fun _ _ _ => False) := by
    refine ⟨?_, ?_, ?_⟩
    · rintro k x D hh m hx ⟨o, hDe, g0, g1, g2, g3, g4⟩
      obtain ⟨hlt, hxx⟩ := List.getElem?_eq_some_iff.1 hx
      have hks : ids (k + 1) = ids k ++ [x.id] := by simp only [ids]; rw [List.take_succ_eq_append_getElem hlt, hxx, List.map_append]; rfl
      have hkl : (ids k).length + 1 ≤ 1048576 := by simp only [ids, List.length_map, List.length_take]; omega
      generalize ids k = ks at *
      refine hY _ _ _ _ g2 rfl (roundW_of ?_)
      have e1 : n + 1 ≠ m := by omega
      have e2 : n + 2 ≠ m := by omega
      have e4 : n ≠ m := by omega
      have hon : ∀ j, o = some j → n + 3 ≤ j ∧ j < m := fun j e => g3.lt j e
      simp [go_sem, zipSA, Fl.enc, hset_ne, g1, g2]
      rw [app_int (x := x.id) g3 (by omega) (by simp [hset]) (by
        intro j e
        have := hon j e
        have := g4 j e
        simp only [hset]
        grind)]
      have done : ∀ (H2 : Hp) (o2 : Nat), o2 = m + 1 → (∀ j, ¬ (j = n + 1 ∨ j = n + 2 ∨ o = some j) → j < m → H2 j = hh j) → H2 (n + 1) = some (.cells [.sl o2 0 1 (ks.length + 1) false]) → H2 o2 = some (.cells (ks.map intE ++ [intE x.id])) → H2 (n + 2) = some (.loop (R .busy none)) →
          ∀ sa, roundQ (n + 2) R (WalkQ (J (k + 1)) (fun _ _ _ => False) D hh m) .normal sa H2 (m + 1 + 1) := by
        rintro H2 o2 rfl k0 k1 k2 k3 sa
        subst hDe
        refine ⟨k3, by omega, fun j => j = n + 1 ∨ j = n + 2 ∨ some (m + 1) = some j, fun j g => ?_, fun j g1 g2 => ?_, .inl ⟨rfl, some (m + 1), rfl, by omega, ?_, hset_at _ _ _, ?_, fun j e => ?_⟩⟩
        · rcases g with g | g | g
          · exact .inl (.inl g)
          · exact .inl (.inr (.inl g))
          · cases g; exact .inr (by omega)
        · rw [hset_ne _ _ (fun e => g1 (.inr (.inl e)))]; exact k0 j g1 g2
        · rw [hset_ne _ _ (by omega), k1, hks]; simp [AccV]
        · rw [hks, List.map_append]; exact g3.push rfl rfl (by omega) (by omega)
        · cases e; rw [hset_ne _ _ (by omega), k2, hks, List.map_append]; rfl
      cases o with
      | none =>
        simp [go_sem, hset_ne, g1, e1, e4, AccV]
        refine done _ _ rfl (fun j h1 h2 => ?_) ?_ ?_ ?_ _
        · simp only [hset]; grind
        · simp only [hset]; grind
        · simp only [hset]; grind
        · simp only [hset]; grind
      | some j =>
        have hj := hon j rfl
        have e3 : n + 1 ≠ j := by omega
        simp [go_sem, hset_ne, g1, e1, e3, e4, AccV]
        refine done _ _ rfl (fun j h1 h2 => ?_) ?_ ?_ ?_ _
        · simp only [hset]; grind
        · simp only [hset]; grind
        · simp only [hset]; grind
        · simp only [hset]; grind
    · rintro k D hh m h' m' ⟨o, rfl, g0, g1, g2, g3, g4⟩ hm hD
      exact ⟨o, rfl, by omega, by rw [hD _ (.inl rfl)]; exact g1, by rw [hD _ (.inr (.inl rfl))]; exact g2, g3.mono hm, fun j e => by rw [hD _ (.inr (.inr e))]; exact g4 j e⟩
    · rintro k D hh m ⟨o, rfl, g0, g1, g2, g3, g4⟩ j (rfl | rfl | e)
      · omega
      · omega
      · exact (g3.lt j e).2
  refine SCallE.mono (c247 Y d.flow hl hs 0 docPlace 0 (fun j => j = n + 1 ∨ j = n + 2) _ _ ⟨none, by simp, by omega, ?_, hset_at _ _ _, by simp [ids]; exact AccI.nil _ _ _, by simp⟩ ⟨[], by simp [docFlows]⟩) ?_
  · rw [hset_ne _ _ (by omega), h1]; simp [AccV]
  rintro _ h' m' ⟨v, hm, D', hDD, hh, hv⟩
  rcases hv with ⟨rfl, o, rfl, g0, g1, g2, g3, g4⟩ | ⟨_, hf⟩
  · refine ⟨_, _, g2, by simp, ?_⟩
    have hids : ids (0 + (flowsOf 0 d.flow docPlace).length) = idsOf d := by simp only [ids, idsOf, Nat.zero_add]; rw [show (flowsOf 0 d.flow docPlace).length = (docFlows d).length from rfl, List.take_length]
    rw [hids] at g1 g3 g4
    simp [go_sem, hset_ne, g1]
    have hkeep : ∀ j y, h j = some y → hset h' (n + 2) none j = some y := fun j y e => by
      have := (ho j y e).1
      rw [hset_ne _ _ (by omega), hh j (by rintro (g | g) <;> omega) (by omega), hset_ne _ _ (by omega), hold j this, e]
    refine ret_acc (m := m') ho ⟨g3.none, fun j e => ⟨by have := (g3.lt j e).1; omega, (g3.lt j e).2⟩, g3.size⟩ (fun j y e => ?_) rfl (by simp [closed])
    cases o with
    | none => exact hkeep j y e
    | some q =>
      by_cases hjq : j = q
      · subst hjq
        have := g3.lt j rfl
        rw [show AccH (some j) ((idsOf d).map intE) h j = some (.cells (((idsOf d).map intE).flatMap SV.cells)) from hset_at _ _ _] at e
        cases e
        rw [hset_ne _ _ (by omega), g4 j rfl, flat_int]
      · rw [show AccH (some q) ((idsOf d).map intE) h j = h j from hset_ne _ _ hjq] at e
        exact hkeep j y e
  · exact hf.elim
abbrev idx (s sub : ByteArray) : Int := Lib.index s.data.toList sub.data.toList
def cnt (s : ByteArray) : Int := if cpValid s then cpHeads s s.size else 0
def textS (l : List Item) : ByteArray := ⟨(textB l).toArray⟩
theorem Rng.st (e : SV) (h : ∃ r : Rng, r.enc = e) : e.storable = true ∧ e.cells.length = 3 := by obtain ⟨r, rfl⟩ := h; exact ⟨rfl, rfl⟩
section
variable {E : Env} {P : Program} {N : Nat} {code : Code} {Q : Post} {sa : SA} {h h' : Hp} {n n' : Nat} {c : Cx}
theorem SWE_ghost (hn : n ≤ n') (hg : ∀ c, Rel h c → Fr n c → ∃ c' : Cx, c'.w = c.w ∧ Ext c c' ∧ Rel h' c' ∧ Fr n' c' ∧ ∀ j, j < n → c'.ρ j = c.ρ j) (H : SWE E P N code Q sa h' n') : SWE E P N code Q sa h n := by
  intro hd c a I R F A
  obtain ⟨c', hw, X, R', F', hρ⟩ := hg c R F
  rw [← hw]
  refine wpIn_mono (H hd c' a (E.ext X I) R' F' (A.ext X)) ?_
  rintro e a' w' ⟨sa', h2, n2, c2, q, hw2, R2, Fr2, A2, X2⟩
  exact ⟨sa', h2, n2, c2, q, hw2, R2, Fr2, A2, ⟨X.trans X2.ext, Nat.le_trans hn X2.le, fun j hj => (X2.same j (by omega)).trans (hρ j hj)⟩⟩
theorem Rel.pack {p q z : Nat} {es : List SV} {full : Bool} {ty ty2 : Option TypeId} (R : Rel h c) (hp : h p = some (.cells [.sl q 0 z es.length full] ty)) (hq : h q = some (.cells (es.flatMap SV.cells) ty2)) (hne : es ≠ []) (hpq : p ≠ q) :
    ∃ c' : Cx, c'.w = c.w ∧ c'.ρ = c.ρ ∧ Ext c c' ∧ Rel (hset (hset h p (some (.list z es))) q none) c' := by
  obtain ⟨b, st, arr, e, vs, a1, a2, a3, a4, a5, _⟩ := R.obj p _ hp
  obtain ⟨B, sB, arr2, e2, us, b1, b2, b3, b4, b5, _⟩ := R.obj q _ hq
  obtain ⟨v, rfl, hv⟩ := a4.single
  rw [V] at hv
  obtain ⟨B', st', cap, c1, c2, c3, _, c5⟩ := hv
  rw [b1] at c1; cases c1
  have hrm : rm c.w B = arr2.size := by simp [rm, b2]
  rw [hrm] at c5
  obtain ⟨c', hc'⟩ : ∃ c' : Cx, c' = { c with bk := fun j => if j = p then some B else c.bk j } := ⟨_, rfl⟩
  have kw : c'.w = c.w := by rw [hc']
  have kr : c'.ρ = c.ρ := by rw [hc']
  have ko : c'.own = c.own := by rw [hc']
  have kb : ∀ j, c'.bk j = if j = p then some B else c.bk j := fun j => by rw [hc']
  have X : Ext c c' := ⟨fun _ _ e => by rw [kr]; exact e, by rw [kw]; exact Nat.le_refl _, fun b _ ho => ⟨by rw [ko]; exact ho, by rw [kw]⟩, fun _ => by rw [kw]; exact Nat.le_refl _, by rw [kw], by rw [kw], by rw [kw]; exact ⟨rfl, Nat.le_refl _⟩⟩
  have get : ∀ j y, hset (hset h p (some (.list z es))) q none j = some y → (j = p ∧ y = .list z es) ∨ (j ≠ p ∧ j ≠ q ∧ h j = some y) := fun j y e => by
    simp only [hset] at e
    split at e
    · cases e
    · split at e
      · cases e; exact .inl ⟨by assumption, rfl⟩
      · exact .inr ⟨by assumption, by assumption, e⟩
  have hne' : ∀ j y b', j ≠ p → hold c' j y b' → hold c j y b' := fun j y b' hj H => by
    simp only [hold, kr, kb, hj, if_false] at H; exact H
  have hat : ∀ b', hold c' p (.list z es) b' → b' = b ∨ b' = B := fun b' H => by
    rcases H with ⟨s, H⟩ | ⟨_, H⟩
    · rw [kr, a1] at H; cases H; exact .inl rfl
    · rw [kb, if_pos rfl] at H; cases H; exact .inr rfl
  have alone : ∀ j y b', j ≠ p → j ≠ q → h j = some y → hold c j y b' → b' ≠ b ∧ b' ≠ B := fun j y b' h1 h2 e H =>
    ⟨fun g => h1 (R.inj2 j p y _ b' e hp H (.inl ⟨st, by rw [g]; exact a1⟩)), fun g => h2 (R.inj2 j q y _ b' e hq H (.inl ⟨sB, by rw [g]; exact b1⟩))⟩
  refine ⟨c', kw, kr, X, ⟨fun j y e0 => ?_, fun i j y y' b' e1 e2 e3 e4 => ?_, fun b' => ?_⟩⟩
  · rcases get j y e0 with ⟨rfl, rfl⟩ | ⟨hj, _, e0⟩
    · refine ⟨b, st, arr, e, v, by rw [kr]; exact a1, by rw [kw]; exact a2, by simpa using a3 0 v rfl, a5 v (by simp), .inr ⟨B, sB + 0, arr2, e2, us, cap, hne, fun g => hpq (R.inj j q _ _ b st sB hp hq a1 (by rw [← g]; exact b1)), by rw [kb, if_pos rfl], by rw [kw]; exact b2, c2, c3, by omega, fun i x hx => by simpa using b3 i x hx, V2.mono X b4, b5⟩⟩
    · exact (R.obj j y e0).mono X (fun _ _ => by rw [kw]) (by rw [kb, if_neg hj])
  · rcases get i y e1 with ⟨rfl, rfl⟩ | ⟨hi, hiq, f1⟩
    · rcases get j y' e2 with ⟨rfl, rfl⟩ | ⟨hj, hjq, f2⟩
      · rfl
      · obtain ⟨n1, n2⟩ := alone j y' b' hj hjq f2 (hne' j y' b' hj e4)
        rcases hat b' e3 with g | g
        · exact absurd g n1
        · exact absurd g n2
    · rcases get j y' e2 with ⟨rfl, rfl⟩ | ⟨hj, hjq, f2⟩
      · obtain ⟨n1, n2⟩ := alone i y b' hi hiq f1 (hne' i y b' hi e3)
        rcases hat b' e4 with g | g
        · exact absurd g n1
        · exact absurd g n2
      · exact R.inj2 i j y y' b' f1 f2 (hne' i y b' hi e3) (hne' j y' b' hj e4)
  · rw [ko, R.own2 b']
    constructor
    · rintro ⟨j, y, e1, e2⟩
      by_cases hj : j = p
      · subst hj
        rw [hp] at e1; cases e1
        rcases e2 with ⟨s, e2⟩ | ⟨e2, _⟩
        · exact ⟨j, .list z es, by simp [hset, hpq], .inl ⟨s, by rw [kr]; exact e2⟩⟩
        · cases e2
      · by_cases hjq : j = q
        · subst hjq
          rw [hq] at e1; cases e1
          rcases e2 with ⟨s, e2⟩ | ⟨e2, _⟩
          · rw [b1] at e2; cases e2
            exact ⟨p, .list z es, by simp [hset, hpq], .inr ⟨rfl, by rw [kb, if_pos rfl]⟩⟩
          · cases e2
        · exact ⟨j, y, by simp [hset, hj, hjq, e1], by simpa only [hold, kr, kb, hj, if_false] using e2⟩
    · rintro ⟨j, y, e1, e2⟩
      rcases get j y e1 with ⟨rfl, rfl⟩ | ⟨hj, _, e1⟩
      · rcases hat b' e2 with rfl | rfl
        · exact ⟨j, _, hp, .inl ⟨st, a1⟩⟩
        · exact ⟨q, _, hq, .inl ⟨sB, b1⟩⟩
      · exact ⟨j, y, e1, hne' j y b' hj e2⟩
theorem Rel.unpack {p k z : Nat} {es : List SV} (R : Rel h c) (hk : c.ρ k = none) (hp : h p = some (.list z es)) (hne : es ≠ []) :
    ∃ c' : Cx, c'.w = c.w ∧ (∀ j, j ≠ k → c'.ρ j = c.ρ j) ∧ Ext c c' ∧ Rel (hset (hset h p (some (.cells [.sl k 0 z es.length false]))) k (some (.cells (es.flatMap SV.cells)))) c' := by
  have hkn := R.none_of hk
  have hpk : p ≠ k := by rintro rfl; rw [hp] at hkn; cases hkn
  obtain ⟨b, st, arr, e, v, a1, a2, a3, a4, ⟨g, _⟩ | ⟨B, sB, arr2, e2, us, cap, _, hbB, b1, b2, c2, c3, c5, b3, b4, b5⟩⟩ := R.obj p _ hp
  · exact absurd g hne
  obtain ⟨c', hc'⟩ : ∃ c' : Cx, c' = { c with ρ := fun j => if j = k then some (B, sB) else c.ρ j, bk := fun j => if j = p then none else c.bk j } := ⟨_, rfl⟩
  have kw : c'.w = c.w := by rw [hc']
  have kr : ∀ j, c'.ρ j = if j = k then some (B, sB) else c.ρ j := fun j => by rw [hc']
  have ko : c'.own = c.own := by rw [hc']
  have kb : ∀ j, c'.bk j = if j = p then none else c.bk j := fun j => by rw [hc']
  have X : Ext c c' := ⟨fun j q e => by rw [kr]; split; (subst_vars; rw [hk] at e; cases e); exact e, by rw [kw]; exact Nat.le_refl _, fun b _ ho => ⟨by rw [ko]; exact ho, by rw [kw]⟩, fun _ => by rw [kw]; exact Nat.le_refl _, by rw [kw], by rw [kw], by rw [kw]; exact ⟨rfl, Nat.le_refl _⟩⟩
  have hrm : rm c'.w B = arr2.size := by rw [kw]; simp [rm, b2]
  have get : ∀ j y, hset (hset h p (some (.cells [.sl k 0 z es.length false]))) k (some (.cells (es.flatMap SV.cells))) j = some y → (j = k ∧ y = .cells (es.flatMap SV.cells)) ∨ (j = p ∧ y = .cells [.sl k 0 z es.length false]) ∨ (j ≠ p ∧ j ≠ k ∧ h j = some y) := fun j y e => by
    simp only [hset] at e
    split at e
    · cases e; exact .inl ⟨by assumption, rfl⟩
    · split at e
      · cases e; exact .inr (.inl ⟨by assumption, rfl⟩)
      · exact .inr (.inr ⟨by assumption, by assumption, e⟩)
  have hne' : ∀ j y b', j ≠ p → j ≠ k → hold c' j y b' → hold c j y b' := fun j y b' hj hk H => by
    simp only [hold, kr, kb, hj, hk, if_false] at H; exact H
  have hatk : ∀ b', hold c' k (.cells (es.flatMap SV.cells)) b' → hold c p (.list z es) b' ∧ b' = B := fun b' H => by
    rcases H with ⟨s, H⟩ | ⟨H, _⟩
    · rw [kr, if_pos rfl] at H; cases H; exact ⟨.inr ⟨rfl, b1⟩, rfl⟩
    · cases H
  have hatp : ∀ b', hold c' p (.cells [.sl k 0 z es.length false]) b' → hold c p (.list z es) b' ∧ b' = b := fun b' H => by
    rcases H with ⟨s, H⟩ | ⟨H, _⟩
    · rw [kr, if_neg hpk, a1] at H; cases H; exact ⟨.inl ⟨st, a1⟩, rfl⟩
    · cases H
  have eqp : ∀ j y b', h j = some y → hold c p (.list z es) b' → hold c j y b' → j = p := fun j y b' e H1 H2 => R.inj2 j p y _ b' e hp H2 H1
  refine ⟨c', kw, fun j hj => by rw [kr, if_neg hj], X, ⟨fun j y e0 => ?_, fun i j y y' b' e1 e2 e3 e4 => ?_, fun b' => ?_⟩⟩
  · rcases get j y e0 with ⟨rfl, rfl⟩ | ⟨rfl, rfl⟩ | ⟨hj, hjk, e0⟩
    · exact ⟨B, sB, arr2, e2, us, by rw [kr, if_pos rfl], by rw [kw]; exact b2, b3, V2.mono X b4, b5, fun t h => by cases h⟩
    · refine ⟨b, st, arr, e, [v], by rw [kr, if_neg hpk]; exact a1, by rw [kw]; exact a2, fun i x hx => ?_, ⟨?_, trivial⟩, fun x hx => ?_, fun t h => by cases h⟩
      · cases i with
        | zero => cases hx; exact a3
        | succ i => simp at hx
      · rw [V]; exact ⟨B, sB, cap, by rw [kr, if_pos rfl], c2, c3, by simp, by rw [hrm]; omega⟩
      · rw [List.mem_singleton.1 hx]; exact a4
    · exact (R.obj j y e0).mono X (fun _ _ => by rw [kw]) (by rw [kb, if_neg hj])
  · rcases get i y e1 with ⟨rfl, rfl⟩ | ⟨rfl, rfl⟩ | ⟨hi, hik, f1⟩
    · obtain ⟨H1, g1⟩ := hatk b' e3
      rcases get j y' e2 with ⟨rfl, rfl⟩ | ⟨rfl, rfl⟩ | ⟨hj, hjk, f2⟩
      · rfl
      · exact absurd ((hatp b' e4).2.symm.trans g1).symm hbB
      · exact absurd (eqp j y' b' f2 H1 (hne' j y' b' hj hjk e4)) hj
    · obtain ⟨H1, g1⟩ := hatp b' e3
      rcases get j y' e2 with ⟨rfl, rfl⟩ | ⟨rfl, rfl⟩ | ⟨hj, hjk, f2⟩
      · exact absurd ((hatk b' e4).2.symm.trans g1) hbB
      · rfl
      · exact absurd (eqp j y' b' f2 H1 (hne' j y' b' hj hjk e4)) hj
    · rcases get j y' e2 with ⟨rfl, rfl⟩ | ⟨rfl, rfl⟩ | ⟨hj, hjk, f2⟩
      · exact absurd (eqp i y b' f1 (hatk b' e4).1 (hne' i y b' hi hik e3)) hi
      · exact absurd (eqp i y b' f1 (hatp b' e4).1 (hne' i y b' hi hik e3)) hi
      · exact R.inj2 i j y y' b' f1 f2 (hne' i y b' hi hik e3) (hne' j y' b' hj hjk e4)
  · rw [ko, R.own2 b']
    constructor
    · rintro ⟨j, y, e1, e2⟩
      have hjk : j ≠ k := by rintro rfl; rw [hkn] at e1; cases e1
      by_cases hj : j = p
      · subst hj
        rw [hp] at e1; cases e1
        rcases e2 with ⟨s, e2⟩ | ⟨_, e2⟩
        · exact ⟨j, _, by simp only [hset, hjk, if_false, if_true]; rfl, .inl ⟨s, by rw [kr, if_neg hjk]; exact e2⟩⟩
        · rw [b1] at e2; cases e2
          exact ⟨k, _, by simp only [hset, if_true]; rfl, .inl ⟨sB, by rw [kr, if_pos rfl]⟩⟩
      · exact ⟨j, y, by simp [hset, hj, hjk, e1], by simpa only [hold, kr, kb, hj, hjk, if_false] using e2⟩
    · rintro ⟨j, y, e1, e2⟩
      rcases get j y e1 with ⟨rfl, rfl⟩ | ⟨rfl, rfl⟩ | ⟨hj, hjk, e1⟩
      · exact ⟨p, _, hp, (hatk b' e2).1⟩
      · exact ⟨j, _, hp, (hatp b' e2).1⟩
      · exact ⟨j, y, e1, hne' j y b' hj hjk e2⟩
theorem Rel.swap0 {p : Nat} {x y : SObj} (R : Rel h c) (hp : h p = some x) (hx : ∀ b, hold c p x b → ∃ st, c.ρ p = some (b, st)) (H : ∀ c' : Cx, c'.w = c.w → c'.ρ = c.ρ → c'.bk p = none → Ext c c' → ObjRel c' p y) :
    ∃ c' : Cx, c'.w = c.w ∧ c'.ρ = c.ρ ∧ Ext c c' ∧ Rel (hset h p (some y)) c' := by
  obtain ⟨c', hc'⟩ : ∃ c' : Cx, c' = { c with bk := fun j => if j = p then none else c.bk j } := ⟨_, rfl⟩
  have kw : c'.w = c.w := by rw [hc']
  have kr : c'.ρ = c.ρ := by rw [hc']
  have ko : c'.own = c.own := by rw [hc']
  have kb : ∀ j, c'.bk j = if j = p then none else c.bk j := fun j => by rw [hc']
  have X : Ext c c' := ⟨fun _ _ e => by rw [kr]; exact e, by rw [kw]; exact Nat.le_refl _, fun b _ ho => ⟨by rw [ko]; exact ho, by rw [kw]⟩, fun _ => by rw [kw]; exact Nat.le_refl _, by rw [kw], by rw [kw], by rw [kw]; exact ⟨rfl, Nat.le_refl _⟩⟩
  have get : ∀ j z, hset h p (some y) j = some z → ∃ z0, h j = some z0 ∧ (∀ b, hold c' j z b → hold c j z0 b) ∧ (j = p ∧ z = y ∨ j ≠ p ∧ z = z0) := fun j z e => by
    simp only [hset] at e
    split at e
    · rename_i hj
      cases e; subst hj
      refine ⟨x, hp, fun b H => ?_, .inl ⟨rfl, rfl⟩⟩
      rcases H with ⟨s, H⟩ | ⟨_, H⟩
      · exact .inl ⟨s, by rw [← kr]; exact H⟩
      · rw [kb, if_pos rfl] at H; cases H
    · rename_i hj
      exact ⟨z, e, fun b H => by simpa only [hold, kr, kb, hj, if_false] using H, .inr ⟨hj, rfl⟩⟩
  refine ⟨c', kw, kr, X, ⟨fun j z e => ?_, fun i j z z' b e1 e2 e3 e4 => ?_, fun b => ?_⟩⟩
  · obtain ⟨z0, g1, _, ⟨rfl, rfl⟩ | ⟨hj, rfl⟩⟩ := get j z e
    · exact H c' kw kr (by rw [kb, if_pos rfl]) X
    · exact (R.obj j z g1).mono X (fun _ _ => by rw [kw]) (by rw [kb, if_neg hj])
  · obtain ⟨z0, g1, k1, _⟩ := get i z e1
    obtain ⟨z1, g2, k2, _⟩ := get j z' e2
    exact R.inj2 i j z0 z1 b g1 g2 (k1 b e3) (k2 b e4)
  · rw [ko, R.own2 b]
    constructor
    · rintro ⟨j, z, e1, e2⟩
      by_cases hj : j = p
      · subst hj
        rw [hp] at e1; cases e1
        obtain ⟨s, e3⟩ := hx b e2
        exact ⟨j, y, by simp [hset], .inl ⟨s, by rw [kr]; exact e3⟩⟩
      · exact ⟨j, z, by simp [hset, hj, e1], by simpa only [hold, kr, kb, hj, if_false] using e2⟩
    · rintro ⟨j, z, e1, e2⟩
      obtain ⟨z0, g1, k1, _⟩ := get j z e1
      exact ⟨j, z0, g1, k1 b e2⟩
theorem Rel.pack0 {p z : Nat} {ty : Option TypeId} (R : Rel h c) (hp : h p = some (.cells [.imm 0 [] true] ty)) : ∃ c' : Cx, c'.w = c.w ∧ c'.ρ = c.ρ ∧ Ext c c' ∧ Rel (hset h p (some (.list z []))) c' := by
  refine R.swap0 hp (fun b H => H.elim id fun g => by cases g.1) fun c' kw kr kb X => ?_
  obtain ⟨b, st, arr, e, vs, a1, a2, a3, a4, a5, _⟩ := R.obj p _ hp
  obtain ⟨v, rfl, hv⟩ := a4.single
  exact ⟨b, st, arr, e, v, by rw [kr]; exact a1, by rw [kw]; exact a2, by simpa using a3 0 v rfl, a5 v (by simp), .inl ⟨rfl, kb, hv.mono X⟩⟩
theorem Rel.unpack0 {p z : Nat} (R : Rel h c) (hp : h p = some (.list z [])) : ∃ c' : Cx, c'.w = c.w ∧ c'.ρ = c.ρ ∧ Ext c c' ∧ Rel (hset h p (some (.cells [.imm 0 [] true]))) c' := by
  obtain ⟨b, st, arr, e, v, a1, a2, a3, a4, ⟨_, b1, b2⟩ | ⟨B, sB, arr2, e2, us, cap, g, _⟩⟩ := R.obj p _ hp
  · refine R.swap0 hp (fun b H => H.elim id fun g => by rw [b1] at g; cases g.2) fun c' kw kr kb X => ?_
    refine ⟨b, st, arr, e, [v], by rw [kr]; exact a1, by rw [kw]; exact a2, fun i x hx => ?_, ⟨b2.mono X, trivial⟩, fun x hx => ?_, fun t h => by cases h⟩
    · cases i with
      | zero => cases hx; exact a3
      | succ i => simp at hx
    · rw [List.mem_singleton.1 hx]; exact a4
  · exact absurd rfl g
theorem SWE_pack (p q z : Nat) (es : List SV) (full : Bool) (ty ty2 : Option TypeId) (hp : h p = some (.cells [.sl q 0 z es.length full] ty)) (hq : h q = some (.cells (es.flatMap SV.cells) ty2)) (hne : es ≠ []) (hpq : p ≠ q)
    (H : SWE E P N code Q sa (hset (hset h p (some (.list z es))) q none) n) : SWE E P N code Q sa h n :=
  SWE_ghost (Nat.le_refl _) (fun _ R F => let ⟨c', e1, e2, X, R'⟩ := R.pack hp hq hne hpq; ⟨c', e1, X, R', fun j hj => by rw [e2]; exact F j hj, fun j _ => by rw [e2]⟩) H
theorem SWE_pack0 (p z : Nat) (ty : Option TypeId) (hp : h p = some (.cells [.imm 0 [] true] ty)) (H : SWE E P N code Q sa (hset h p (some (.list z []))) n) : SWE E P N code Q sa h n :=
  SWE_ghost (Nat.le_refl _) (fun _ R F => let ⟨c', e1, e2, X, R'⟩ := R.pack0 hp; ⟨c', e1, X, R', fun j hj => by rw [e2]; exact F j hj, fun j _ => by rw [e2]⟩) H
theorem SWE_unpack0 (p z : Nat) (hp : h p = some (.list z [])) (H : SWE E P N code Q sa (hset h p (some (.cells [.imm 0 [] true]))) n) : SWE E P N code Q sa h n :=
  SWE_ghost (Nat.le_refl _) (fun _ R F => let ⟨c', e1, e2, X, R'⟩ := R.unpack0 hp; ⟨c', e1, X, R', fun j hj => by rw [e2]; exact F j hj, fun j _ => by rw [e2]⟩) H
theorem SWE_unpack (p z : Nat) (es : List SV) (hp : h p = some (.list z es)) (hne : es ≠ []) (H : SWE E P N code Q sa (hset (hset h p (some (.cells [.sl n 0 z es.length false]))) n (some (.cells (es.flatMap SV.cells)))) (n + 1)) : SWE E P N code Q sa h n :=
  SWE_ghost (Nat.le_succ _) (fun _ R F => let ⟨c', e1, e2, X, R'⟩ := R.unpack (F n (Nat.le_refl _)) hp hne; ⟨c', e1, X, R', fun j hj => by rw [e2 j (by omega)]; exact F j (by omega), fun j hj => e2 j (by omega)⟩) H
end
section
variable {E : Env} {P : Program} {N : Nat} {code : Code} {Q : Post} {sa : SA} {G : Hp} {n m p z : Nat} {es : List SV}
theorem SWE_unpW (p : Nat) (hs : ∀ e ∈ es, e.storable = true ∧ e.cells.length = z) (hp : G p = some (.list z es)) (H : ∀ o m, n ≤ m → AccI n m z o es → (es = [] → o = none) → SWE E P N code Q sa (AccH o es (hset G p (some (.cells [AccV z o es])))) m) : SWE E P N code Q sa G n := by
  by_cases he : es = []
  · subst he
    refine SWE_unpack0 p z hp ?_
    exact H none n (Nat.le_refl _) (AccI.nil _ _ _) fun _ => rfl
  · refine SWE_unpack p z es hp he ?_
    exact H (some n) (n + 1) (Nat.le_succ _) ⟨by simp, fun j e => by cases e; omega, hs⟩ fun g => absurd g he
theorem SWE_pckW (p : Nat) {o : Option Nat} {k m' : Nat} (hA : AccI k m' z o es) (hG : ∀ j y, G j = some y → j < k) (hpk : p < k) (ho : es = [] → o = none) (H : SWE E P N code Q sa (hset G p (some (.list z es))) n) : SWE E P N code Q sa (AccH o es (hset G p (some (.cells [AccV z o es])))) n := by
  cases o with
  | none =>
    have he := hA.none rfl
    subst he
    refine SWE_pack0 p z none (hset_at _ _ _) ?_
    simpa [AccH, hset_two] using H
  | some j =>
    have hj := (hA.lt j rfl).1
    have hne : es ≠ [] := fun g => by cases ho g
    have hpj : p ≠ j := by omega
    refine SWE_pack p j z es false none none (by simp only [AccH]; rw [hset_ne _ _ hpj, hset_at]; rfl) (hset_at _ _ _) hne hpj ?_
    have : hset (hset (AccH (some j) es (hset G p (some (.cells [AccV z (some j) es])))) p (some (.list z es))) j none = hset G p (some (.list z es)) := by
      funext q
      have hq := hG q
      simp only [AccH, hset]
      by_cases h1 : q = j
      · have hp : q ≠ p := by omega
        rw [if_pos h1, if_neg hp]
        cases hGq : G q with
        | none => rfl
        | some y => have := hq y hGq; omega
      · rw [if_neg h1, if_neg h1]
        by_cases h2 : q = p
        · rw [if_pos h2, if_pos h2]
        · rw [if_neg h2, if_neg h2, if_neg h2]
    rw [this]; exact H
end
theorem strEnc : Enc SV.str 1 := ⟨fun _ => rfl, fun _ => rfl, fun _ _ => rfl⟩
def stS (p : Nat) (s : List ByteArray) (o : Nat) : Option SObj := if o = p then some (.list 1 (s.map .str)) else none
theorem stS_at (p : Nat) (s : List ByteArray) : stS p s p = some (.list 1 (s.map .str)) := by simp [stS]
theorem upS_stS (p : Nat) (s : List ByteArray) (H : Hp) : upS (stS p) s H = hset H p (some (.list 1 (s.map .str))) := by
  funext o
  simp only [upS, stS, hset]
  by_cases e : o = p
  · rw [if_pos e, if_pos e]
  · rw [if_neg e, if_neg e]
theorem stS_cl (p n0 : Nat) (s : List ByteArray) (o : Nat) (y : SObj) (h : stS p s o = some y) : closedO n0 y = true := by
  simp only [stS] at h
  split at h
  · cases h
    rw [closedO, closedL_iff]; intro e he
    obtain ⟨x, hx, hx2⟩ := List.mem_flatMap.1 he
    obtain ⟨i, _, rfl⟩ := List.mem_map.1 hx
    rw [List.mem_singleton.1 hx2]; rfl
  · cases h
theorem stS_old {p n0 : Nat} (hp : p < n0) (s : List ByteArray) {H : Hp} {n : Nat} (hn : n0 ≤ n) (ho : Old H n) : Old (upS (stS p) s H) n := fun o y e => by
  simp only [upS] at e
  cases e1 : stS p s o with
  | some z =>
    rw [e1] at e; cases e
    refine ⟨?_, stS_cl p n s o y e1⟩
    simp only [stS] at e1
    split at e1
    · omega
    · cases e1
  | none => rw [e1] at e; exact ho o y e
def gatR : Rwr (List ByteArray) where
  flow _ l s := (l, s ++ [textS l])
  head h s := (h, s)
  item x s := (x, true, if x.kind = 5 ∨ x.kind = 8 then s ++ [x.text] else s)
def trG55 : Tr := .pure 1 <| .two 0 2 (.one 2 <| .one 3 <| .one 4 <| .one 5 .nil) (.two 0 3 (.one 3 <| .one 4 <| .one 5 .nil) (.one 0 <| .one 4 <| .one 5 .nil))
set_option maxHeartbeats 4000000 in
theorem w55 {p n0 : Nat} (hp : p < n0) (id : Int) (l : List Item) (hl : l.length ≤ 1048576) (hb : (textB l).length ≤ 1073741824) (s : List ByteArray) (hr : s.length + 1 ≤ 1073741824) {H : Hp} {n : Nat} (hn : n0 ≤ n) (hs : hasU (stS p) s H) :
    SCall Tryz.prog 55 ([intE id, itemsE l] ++ [.ptr p 0]) H n (fun v h' n' => v = itemsE l ∧ h' = upS (stS p) (s ++ [textS l]) H ∧ n' = n) := by
  refine goS Tryz.func55 rfl (by kernel_rfl) (by kernel_rfl) (by simp [go_sem]) fun ho => ?_
  have hHb : ∀ j y, H j = some y → j < n := fun j y e => (ho j y e).1
  have hHp := hs p _ (stS_at p s)
  obtain ⟨es, hes⟩ : ∃ es : List SV, es = s.map .str := ⟨_, rfl⟩
  rw [← hes] at hHp
  have hlen : es.length + 1 ≤ 1073741824 := by rw [hes, List.length_map]; exact hr
  refine SP_mid 0 (α := Unit) (fun _ => [(1, itemsE l), (2, .ptr p 0)]) (fun _ => H) (fun _ m => n = m) ?_ (fun _ m hm => ?_)
  · simp [go_sem, Fz.same]
  subst hm
  refine SWE_unpW p (by rw [hes]; exact strEnc.size _) hHp fun o m hm hA hoe => ?_
  have hGb : ∀ v j y, hset H p v j = some y → j < n := fun v j y e => by
    by_cases e1 : j = p
    · omega
    · rw [hset_ne _ _ e1] at e; exact hHb j y e
  have hpo : ∀ v, AccH o es (hset H p (some (.cells [v]))) p = some (.cells [v]) := fun v => by
    cases o with
    | none => exact hset_at _ _ _
    | some j => have := (hA.lt j rfl).1; simp only [AccH]; rw [hset_ne _ _ (by omega)]; exact hset_at _ _ _
  have hc := c23 l hl hb
  rw [show (⟨(textB l).toArray⟩ : ByteArray) = textS l from rfl] at hc
  generalize textS l = t at *
  obtain ⟨out, ho1, ho2, ho3, ho4, ho5, ho6⟩ := app1_out (X := hset (AccH o es (hset H p (some (.cells [AccV 1 o es])))) m (some (.cells (SV.cells (.str t))))) (h := hset H p (some (.cells [AccV 1 o es]))) (k := m) (p := m + 1) (t := 40) (t2 := 40) (el := 9) (z := 1) (e := .str t) (by simp [go_sem]) (by simp [go_sem]) (by simp [go_sem]) (by simp) (by simp [go_sem]) (by simp [go_sem]) (by simp [go_sem]) hlen hA rfl rfl (hset_at _ _ _)
    (fun j w g => by rw [hset_ne _ _ (by have := acc_lt (hGb _) hm hA j w g; omega)]; exact g) (hGb _) (by omega) (by omega)
  have hpm : p ≠ m := by omega
  have hkA : Out.app (hset (AccH o es (hset H p (some (.cells [AccV 1 o es])))) m (some (.cells (SV.cells (.str t))))) (m + 1) out p = some (.cells [AccV 1 o es]) := by
    rw [ho6 p (by omega) (fun g => by have := (hA.lt p g).1; omega), hset_ne _ _ hpm, hpo]
  have fin := acc_box (bn := some (.cells [AccV 1 (some (m + 1)) (es ++ [.str t])])) (show m + 1 ≠ p by omega) ho5
  have hvv : AccV 1 (some (m + 1)) (es ++ [.str t]) = .sl (m + 1) 0 1 (es.length + 1) false := by simp [AccV]
  rw [hvv] at fin
  simp only [Out.app, SV.cells] at hkA fin ho1
  refine SP_midS 0 (α := Unit) (fun _ => [(1, itemsE l)]) (fun _ => AccH (some (m + 1)) (es ++ [.str t]) (hset H p (some (.cells [AccV 1 (some (m + 1)) (es ++ [.str t])])))) (fun _ m' => m + 2 = m') (SP_tr trG55 rfl (by kernel_rfl) (by kernel_rfl) ?_) (fun _ m' hm' => ?_)
  · simp [go_sem, trG55, hpo]
    refine ⟨?_, ?_⟩
    · refine PC.use hc ?_
      simp [go_sem]
      rw [ho1]
      simp [go_sem, hkA, ho2, ho3]
      rw [hvv]; exact fin
    · refine PC.use hc ?_
      simp [go_sem, hpo, hset_ne _ _ hpm]
      rw [ho1]
      simp [go_sem, hkA, ho2, ho3]
      rw [hvv]; exact fin
  · subst hm'
    refine SWE_pckW p ho4 (fun j y g => hHb j y g) (by omega) (by simp) ?_
    refine SP_of ?_
    simp [go_sem]
    refine ret_immW (stS_old hp (s ++ [t]) hn ho) (Item.E.imm _ _ _ _) ?_
    rw [upS_stS, hes]
    simp
abbrev itemZ : List SV := [intE 0, intE 0, intE 0, .str .empty, .imm 0 [] true, intE 0, intE 0, .imm 0 [] true, .imm 0 [] true, .imm 0 [] true, .imm 0 [] true]
set_option maxHeartbeats 4000000 in
theorem w56 {p n0 : Nat} (hp : p < n0) (x : Item) (s : List ByteArray) (hr : s.length + 1 ≤ 1073741824) {H : Hp} {n : Nat} (hn : n0 ≤ n) (hs : hasU (stS p) s H) :
    SCall Tryz.prog 56 ([x.enc] ++ [.ptr p 0]) H n (fun v h' n' => v = .tup [x.enc, .bool true] ∧ h' = upS (stS p) (if x.kind = 5 ∨ x.kind = 8 then s ++ [x.text] else s) H ∧ n' = n) := by
  refine goS Tryz.func56 rfl (by kernel_rfl) (by kernel_rfl) (by simp [go_sem]) fun ho => ?_
  have hHb : ∀ j y, H j = some y → j < n := fun j y e => (ho j y e).1
  have hHp := hs p _ (stS_at p s)
  obtain ⟨es, hes⟩ : ∃ es : List SV, es = s.map .str := ⟨_, rfl⟩
  rw [← hes] at hHp
  have hlen : es.length + 1 ≤ 1073741824 := by rw [hes, List.length_map]; exact hr
  refine SP_mid 1 (α := Unit) (fun _ => [(1, .ptr p 0), (2, .iptr [intE x.kind, intE x.code, intE x.id, .str x.text, propsE x.head.props, intE x.head.ins, intE x.head.move, delsE x.head.dels, layersE x.head.layers, itemsE x.flow, rowsE x.rows]), (3, .ptr (n + 1) 0)]) (fun _ => hset H (n + 1) (some (.cells itemZ))) (fun _ m => n + 2 = m) ?_ (fun _ m hm => ?_)
  · rw [Item.enc_eq]
    simp [go_sem, Fz.same]
    refine ⟨ptr_fz (by rw [hset_ne _ _ (by omega)]; exact ho.none (Nat.le_refl n)) (by simp [hset]), fun j y => ?_⟩
    have := ho j y; simp only [hset]; grind
  subst hm
  obtain ⟨G, hG⟩ : ∃ G : Hp, G = hset H (n + 1) (some (.cells itemZ)) := ⟨_, rfl⟩
  have hGb : ∀ j y, G j = some y → j < n + 2 := fun j y e => by
    rw [hG] at e
    by_cases e1 : j = n + 1
    · omega
    · rw [hset_ne _ _ e1] at e; have := hHb j y e; omega
  have hGp : G p = some (.list 1 es) := by rw [hG, hset_ne _ _ (by omega)]; exact hHp
  have hGn : G (n + 1) = some (.cells itemZ) := by rw [hG, hset_at]
  rw [← hG]
  have hfin : ∀ (G2 : Hp) (s2 : List ByteArray) (m : Nat), (∀ j w, hset H p (some (.list 1 (s2.map .str))) j = some w → G2 j = some w) → G2 (n + 1) = some (.cells [intE x.kind, intE x.code, intE x.id, .str x.text, propsE x.head.props, intE x.head.ins, intE x.head.move, delsE x.head.dels, layersE x.head.layers, itemsE x.flow, rowsE x.rows]) → RetS n G2 m (.tup [.agg [intE x.kind, intE x.code, intE x.id, .str x.text, propsE x.head.props, intE x.head.ins, intE x.head.move, delsE x.head.dels, layersE x.head.layers, itemsE x.flow, rowsE x.rows], .bool true]) (fun v h' n' => v = .tup [x.enc, .bool true] ∧ h' = upS (stS p) s2 H ∧ n' = n) := fun G2 s2 m h1 h2 => by
    rw [← Item.enc_eq]
    refine ret_immW (stS_old hp s2 hn ho) (by simp only [closed, closedL, Item.cl, Bool.and_true]) ?_
    rw [upS_stS]; exact h1
  by_cases hk : x.kind = 5 ∨ x.kind = 8
  · rw [if_pos hk]
    have hne : p ≠ n + 1 := by omega
    refine SP_midS 0 (α := Nat) (fun _ => [(2, .iptr [intE x.kind, intE x.code, intE x.id, .str x.text, propsE x.head.props, intE x.head.ins, intE x.head.move, delsE x.head.dels, layersE x.head.layers, itemsE x.flow, rowsE x.rows]), (3, .ptr (n + 1) 0)]) (fun q => AccH (some q) (es ++ [.str x.text]) (hset G p (some (.cells [AccV 1 (some q) (es ++ [.str x.text])])))) (fun q m => n + 2 ≤ q ∧ q < m ∧ AccI (n + 2) m 1 (some q) (es ++ [.str x.text])) ?_ (fun q m hq => ?_)
    · refine SP_mid 0 (α := Unit) (fun _ => [(1, .ptr p 0), (2, .iptr [intE x.kind, intE x.code, intE x.id, .str x.text, propsE x.head.props, intE x.head.ins, intE x.head.move, delsE x.head.dels, layersE x.head.layers, itemsE x.flow, rowsE x.rows]), (3, .ptr (n + 1) 0), (12, .bool true)]) (fun _ => G) (fun _ m => n + 2 = m) ?_ (fun _ m hm => ?_)
      · by_cases h5 : x.kind = 5
        · simp [go_sem, Fz.same, h5]
        · have h8 : x.kind = 8 := hk.resolve_left h5
          simp [go_sem, Fz.same, h8]
      subst hm
      refine SWE_cond (b := true) (by simp [go_sem]) ?_
      rw [if_pos rfl]
      refine SWE_unpW p (by rw [hes]; exact strEnc.size _) hGp fun o m hm hA hoe => ?_
      have hGb2 : ∀ v j y, hset G p v j = some y → j < n + 2 := fun v j y e => by
        by_cases e1 : j = p
        · omega
        · rw [hset_ne _ _ e1] at e; exact hGb j y e
      have hpo : ∀ v, AccH o es (hset G p (some (.cells [v]))) p = some (.cells [v]) := fun v => by
        cases o with
        | none => exact hset_at _ _ _
        | some j => have := (hA.lt j rfl).1; simp only [AccH]; rw [hset_ne _ _ (by omega)]; exact hset_at _ _ _
      obtain ⟨out, ho1, ho2, ho3, ho4, ho5, ho6⟩ := app1_out (X := hset (AccH o es (hset G p (some (.cells [AccV 1 o es])))) m (some (.cells (SV.cells (.str x.text))))) (h := hset G p (some (.cells [AccV 1 o es]))) (k := m) (p := m + 1) (t := 40) (t2 := 40) (el := 9) (z := 1) (e := .str x.text) (by simp [go_sem]) (by simp [go_sem]) (by simp [go_sem]) (by simp) (by simp [go_sem]) (by simp [go_sem]) (by simp [go_sem]) hlen hA rfl rfl (hset_at _ _ _)
        (fun j w g => by rw [hset_ne _ _ (by have := acc_lt (hGb2 _) hm hA j w g; omega)]; exact g) (hGb2 _) (by omega) (by omega)
      have hpm : p ≠ m := by omega
      have hkA : Out.app (hset (AccH o es (hset G p (some (.cells [AccV 1 o es])))) m (some (.cells (SV.cells (.str x.text))))) (m + 1) out p = some (.cells [AccV 1 o es]) := by
        rw [ho6 p (by omega) (fun g => by have := (hA.lt p g).1; omega), hset_ne _ _ hpm, hpo]
      have fin := acc_box (bn := some (.cells [AccV 1 (some (m + 1)) (es ++ [.str x.text])])) (show m + 1 ≠ p by omega) ho5
      have hvv : AccV 1 (some (m + 1)) (es ++ [.str x.text]) = .sl (m + 1) 0 1 (es.length + 1) false := by simp [AccV]
      rw [hvv] at fin
      simp only [Out.app, SV.cells] at hkA fin ho1
      refine SP_of ?_
      simp [go_sem, hpo]
      rw [ho1]
      simp [go_sem, hkA, ho2, ho3]
      exact ⟨m + 1, ⟨by omega, by omega, ho4⟩, by rw [hvv]; exact fin⟩
    · refine SWE_pckW p hq.2.2 (fun j y g => hGb j y g) (by omega) (by simp) ?_
      refine SP_of ?_
      have hn1 : n + 1 ≠ p := by omega
      simp [go_sem, hset_ne _ _ hn1, hGn, hset_at]
      refine hfin _ _ _ (fun j w e => ?_) (hset_at _ _ _)
      have hjn : j < n := by
        by_cases e1 : j = p
        · omega
        · rw [hset_ne _ _ e1] at e; exact hHb j w e
      rw [hset_ne _ _ (by omega)]
      by_cases e1 : j = p
      · subst e1; rw [hset_at] at e ⊢; rw [← e, hes]; simp
      · rw [hset_ne _ _ e1] at e ⊢
        rw [hG, hset_ne _ _ (by omega)]; exact e
  · rw [if_neg hk]
    obtain ⟨h5, h8⟩ := not_or.1 hk
    refine SP_mid 0 (α := Unit) (fun _ => [(2, .iptr [intE x.kind, intE x.code, intE x.id, .str x.text, propsE x.head.props, intE x.head.ins, intE x.head.move, delsE x.head.dels, layersE x.head.layers, itemsE x.flow, rowsE x.rows]), (3, .ptr (n + 1) 0)]) (fun _ => G) (fun _ m => n + 2 = m) ?_ (fun _ m hm => ?_)
    · simp [go_sem, Fz.same, h5, h8]
    subst hm
    refine SP_of ?_
    simp [go_sem, hGn, hset_at]
    refine hfin _ _ _ (fun j w e => ?_) (hset_at _ _ _)
    have hjn : j < n := by
      by_cases e1 : j = p
      · omega
      · rw [hset_ne _ _ e1] at e; exact hHb j w e
    rw [hset_ne _ _ (by omega), hG, hset_ne _ _ (by omega)]
    by_cases e1 : j = p
    · subst e1; rw [hset_at, ← hes] at e; rw [← hHp] at e; exact e
    · rw [hset_ne _ _ e1] at e; exact e
inductive Cps (s : ByteArray) : Nat → Nat → Prop where
  | nil (a : Nat) : Cps s a a
  | cons {a b : Nat} (h1 : a < s.size) (h2 : (cpDecode s a).2 = true) (h3 : Cps s (a + (cpDecode s a).1) b) : Cps s a b
theorem cpMore_in (s : ByteArray) (a n : Nat) : ∀ (f : Nat) (lo hi : Int) (k : Nat), (cpMore s a n f lo hi k).2 = true → (cpMore s a n f lo hi k).1 = k + f ∧
    ∀ j, k ≤ j → j < k + f → a + j < s.size ∧ (if j = k then lo else 128) ≤ byteAt s (a + j) ∧ byteAt s (a + j) ≤ if j = k then hi else 191
  | 0, _, _, k, _ => by rw [cpMore]; exact ⟨rfl, fun j h1 h2 => by omega⟩
  | f + 1, lo, hi, k, h => by
    rw [cpMore] at h ⊢
    split at h
    · cases h
    · rename_i hc
      rw [if_neg hc]
      obtain ⟨h1, h2⟩ := cpMore_in s a n f 128 191 (k + 1) h
      refine ⟨by omega, fun j j1 j2 => ?_⟩
      by_cases e : j = k
      · subst e; rw [if_pos rfl, if_pos rfl]; omega
      · have := h2 j (by omega) (by omega)
        rw [if_neg e, if_neg e]
        split at this <;> omega
theorem cpMore_same {s t : ByteArray} {a a' : Nat} (n n' : Nat) : ∀ (f : Nat) (lo hi : Int) (k : Nat), (∀ j, k ≤ j → j < k + f → byteAt t (a' + j) = byteAt s (a + j) ∧ a' + j < t.size) → (cpMore s a n f lo hi k).2 = true → cpMore t a' n' f lo hi k = cpMore s a n f lo hi k
  | 0, _, _, k, _, _ => by rw [cpMore, cpMore]
  | f + 1, lo, hi, k, h, hs => by
    rw [cpMore] at hs ⊢
    rw [cpMore.eq_2 s]
    split at hs
    · cases hs
    · rename_i hc
      obtain ⟨h1, h2⟩ := h k (Nat.le_refl _) (by omega)
      rw [if_neg hc, if_neg (by rw [h1]; omega)]
      exact cpMore_same n n' f 128 191 (k + 1) (fun j j1 j2 => h j (by omega) (by omega)) hs
theorem cpDec_in {s : ByteArray} {a : Nat} (ha : a < s.size) (h : (cpDecode s a).2 = true) : cpSize (byteAt s a) = (cpDecode s a).1 ∧ 1 ≤ (cpDecode s a).1 ∧ a + (cpDecode s a).1 ≤ s.size ∧ ∀ j, 1 ≤ j → j < (cpDecode s a).1 → 128 ≤ byteAt s (a + j) ∧ byteAt s (a + j) ≤ 191 := by
  obtain ⟨z0, z1⟩ := cpSize_le (byteAt s a)
  simp only [cpDecode] at h ⊢
  split at h
  · cases h
  · rename_i c0
    rw [if_neg c0]
    split at h
    · rename_i c1
      rw [if_pos c1]
      exact ⟨c1, Nat.le_refl _, by show a + 1 ≤ _; omega, fun j j1 j2 => by dsimp only at j2; omega⟩
    · rename_i c1
      rw [if_neg c1]
      obtain ⟨h1, h2⟩ := cpMore_in s a _ _ _ _ 1 h
      rw [h1]
      refine ⟨by omega, by omega, ?_, fun j j1 j2 => ?_⟩
      · have := h2 ((cpSize (byteAt s a)).toNat - 1) (by omega) (by omega)
        omega
      · have := h2 j j1 j2
        have l1 : 128 ≤ cpLow (byteAt s a) ∧ cpHigh (byteAt s a) ≤ 191 := by unfold cpLow cpHigh; constructor <;> (repeat' split) <;> omega
        split at this <;> omega
theorem cpDec_same {s t : ByteArray} {a a' : Nat} (ha : a < s.size) (hd : (cpDecode s a).2 = true) (h : ∀ j, j < (cpDecode s a).1 → byteAt t (a' + j) = byteAt s (a + j) ∧ a' + j < t.size) : cpDecode t a' = cpDecode s a := by
  obtain ⟨i1, i2, _, _⟩ := cpDec_in ha hd
  have h0 := (h 0 (by omega)).1
  simp only [Nat.add_zero] at h0
  have hk : ∀ j, j < (cpSize (byteAt s a)).toNat → byteAt t (a' + j) = byteAt s (a + j) ∧ a' + j < t.size := fun j hj => h j (by omega)
  clear h i1 i2
  simp only [cpDecode] at hd ⊢
  rw [h0]
  split
  · rfl
  · rename_i c0
    rw [if_neg c0] at hd
    split
    · rfl
    · rename_i c1
      rw [if_neg c1] at hd
      exact cpMore_same _ _ _ _ _ 1 (fun j j1 j2 => hk j (by omega)) hd
theorem Cps.le {s : ByteArray} {a b : Nat} (H : Cps s a b) : a ≤ b := by
  induction H with
  | nil => exact Nat.le_refl _
  | cons h1 h2 _ ih => omega
theorem Cps.trans {s : ByteArray} {a b c : Nat} (H : Cps s a b) (H2 : Cps s b c) : Cps s a c := by
  induction H with
  | nil => exact H2
  | cons h1 h2 _ ih => exact .cons h1 h2 (ih H2)
theorem Cps.map {s t : ByteArray} {a b : Nat} (H : Cps s a b) : ∀ {a' : Nat}, (∀ p, a ≤ p → p < b → byteAt t (a' + (p - a)) = byteAt s p) → a' + (b - a) ≤ t.size → Cps t a' (a' + (b - a)) := by
  induction H with
  | nil a => intro a' _ _; rw [Nat.sub_self, Nat.add_zero]; exact .nil _
  | @cons a b h1 h2 h3 ih =>
    intro a' hb hs
    have hle := h3.le
    obtain ⟨i1, i2, i3, i4⟩ := cpDec_in h1 h2
    have e := cpDec_same (t := t) (a' := a') h1 h2 fun j hj => ⟨by have := hb (a + j) (by omega) (by omega); rwa [Nat.add_sub_cancel_left] at this, by omega⟩
    refine .cons (by omega) (by rw [e]; exact h2) ?_
    rw [e]
    have := ih (a' := a' + (cpDecode s a).1) (fun p p1 p2 => by have := hb p (by omega) p2; rw [← this]; congr 1; omega) (by omega)
    rw [show a' + (cpDecode s a).1 + (b - (a + (cpDecode s a).1)) = a' + (b - a) by omega] at this
    exact this
theorem Cps.first {s : ByteArray} {a b : Nat} (H : Cps s a b) (hb : b = s.size) : cpFirst s a < 0 := by
  induction H with
  | nil a => rw [cpFirst, dif_neg (by omega)]; decide
  | cons h1 h2 _ ih => rw [cpFirst, dif_pos h1, dif_pos h2]; exact ih hb
theorem Cps.of {s : ByteArray} : ∀ (n a : Nat), s.size - a ≤ n → a ≤ s.size → cpFirst s a < 0 → Cps s a s.size
  | n, a, hn, ha, h => by
    rw [cpFirst] at h
    split at h
    · rename_i h1
      split at h
      · rename_i h2
        obtain ⟨i1, i2, i3, i4⟩ := cpDec_in h1 h2
        cases n with
        | zero => omega
        | succ n => exact .cons h1 h2 (Cps.of n _ (by omega) i3 h)
      · omega
    · have : a = s.size := by omega
      rw [this]; exact .nil _
theorem cpValid_iff {s : ByteArray} : cpValid s = true ↔ Cps s 0 s.size := by
  simp only [cpValid, decide_eq_true_eq]
  exact ⟨fun h => Cps.of _ 0 (Nat.le_refl _) (Nat.zero_le _) h, fun h => h.first rfl⟩
theorem byteAt_data (s : ByteArray) (i : Nat) : byteAt s i = match s.data[i]? with | some b => (b.toNat : Int) | none => 0 := by
  rcases Nat.lt_or_ge i s.size with h | h
  · obtain ⟨e1, e2⟩ := byteAt_lt h
    rw [e2, Array.getElem?_eq_getElem (show i < s.data.size from h)]
    rfl
  · have h1 : s.data[i]? = none := Array.getElem?_eq_none h
    rw [h1]
    unfold byteAt
    split
    · rename_i b e
      exfalso
      simp only [getElem?_def] at e
      split at e
      · rename_i h2; exact absurd h2 (by show ¬ i < s.size; omega)
      · cases e
    · rfl
theorem byteAt_app1 (s t : ByteArray) (p : Nat) (h : p < s.size) : byteAt (s ++ t) p = byteAt s p := by
  rw [byteAt_data, byteAt_data, ByteArray.data_append, Array.getElem?_append_left h]
theorem byteAt_app2 (s t : ByteArray) (p : Nat) : byteAt (s ++ t) (s.size + p) = byteAt t p := by
  rw [byteAt_data, byteAt_data, ByteArray.data_append, Array.getElem?_append_right (by show s.size ≤ s.size + p; omega)]
  rw [show s.size + p - s.data.size = p by have : s.data.size = s.size := rfl; omega]
theorem cpValid_app {s t : ByteArray} (hs : cpValid s = true) (ht : cpValid t = true) : cpValid (s ++ t) = true := by
  rw [cpValid_iff] at hs ht ⊢
  have h1 := hs.map (t := s ++ t) (a' := 0) (fun p _ hp => by rw [Nat.zero_add, Nat.sub_zero]; exact byteAt_app1 s t p hp) (by rw [ByteArray.size_append]; omega)
  have h2 := ht.map (t := s ++ t) (a' := s.size) (fun p _ hp => by rw [Nat.sub_zero]; exact byteAt_app2 s t p) (by rw [ByteArray.size_append]; omega)
  rw [Nat.sub_zero, Nat.zero_add] at h1
  rw [Nat.sub_zero, ← ByteArray.size_append] at h2
  exact h1.trans h2
inductive Rn (t : ByteArray) : Nat → List Int → Prop where
  | nil : Rn t t.size []
  | cons {o : Nat} {T : List Int} (h1 : o < t.size) (h2 : (cpDecode t o).2 = true) (h3 : Rn t (o + (cpDecode t o).1) T) : Rn t o (((Utf8.decode t o).1 : Int) :: T)
abbrev hit (U S : List Int) (k : Nat) : Prop := (U.drop k).take S.length = S
theorem mem_flL {p : Place} {f : Fl} : ∀ {l : List Item}, f ∈ Item.flL p l → ∃ x ∈ l, f ∈ Item.fl p x
  | [], h => by simp [Item.flL] at h
  | x :: l, h => by
    rw [Item.flL] at h
    rcases List.mem_append.1 h with h | h
    · exact ⟨x, by simp, h⟩
    · obtain ⟨y, h1, h2⟩ := mem_flL h; exact ⟨y, by simp [h1], h2⟩
theorem mem_rflL {p : Place} {f : Fl} : ∀ {l : List Row}, f ∈ Row.flL p l → ∃ x ∈ l, f ∈ Row.fl p x
  | [], h => by simp [Row.flL] at h
  | x :: l, h => by
    rw [Row.flL] at h
    rcases List.mem_append.1 h with h | h
    · exact ⟨x, by simp, h⟩
    · obtain ⟨y, h1, h2⟩ := mem_rflL h; exact ⟨y, by simp [h1], h2⟩
theorem mem_cflL {p : Place} {f : Fl} : ∀ {l : List Cell}, f ∈ Cell.flL p l → ∃ x ∈ l, f ∈ Cell.fl p x
  | [], h => by simp [Cell.flL] at h
  | x :: l, h => by
    rw [Cell.flL] at h
    rcases List.mem_append.1 h with h | h
    · exact ⟨x, by simp, h⟩
    · obtain ⟨y, h1, h2⟩ := mem_cflL h; exact ⟨y, by simp [h1], h2⟩
theorem flL_all {R : Nat → List Item → Prop} {Q : List Item → Prop} (h0 : ∀ l, ¬ R 0 l) (h1 : ∀ N l, R (N + 1) l → Q l ∧ ∀ x ∈ l, R N x.flow ∧ ∀ r ∈ x.rows, ∀ c ∈ r.cells, R N c.flow) :
    ∀ (N : Nat) (l : List Item) (p : Place), R N l → Q l ∧ ∀ f ∈ Item.flL p l, Q f.items
  | 0, l, _, h => absurd h (h0 l)
  | N + 1, l, p, h => by
    obtain ⟨hq, hx⟩ := h1 N l h
    refine ⟨hq, fun f hf => ?_⟩
    obtain ⟨x, hxl, hf⟩ := mem_flL hf
    obtain ⟨k1, k2⟩ := hx x hxl
    cases x with
    | mk k c i t hd fl r =>
      rw [Item.fl] at hf
      split at hf
      · have := flL_all h0 h1 N fl p.inNote k1
        rcases List.mem_cons.1 hf with rfl | hf
        · exact this.1
        · exact this.2 f hf
      · split at hf
        · obtain ⟨r', hr, hf⟩ := mem_rflL hf
          have k3 := k2 r' hr
          cases r' with
          | mk hd cs =>
            rw [Row.fl] at hf
            obtain ⟨c', hc, hf⟩ := mem_cflL hf
            have k4 := k3 c' hc
            cases c' with
            | mk i hd f' =>
              rw [Cell.fl] at hf
              have := flL_all h0 h1 N f' p.inTable k4
              rcases List.mem_cons.1 hf with rfl | hf
              · exact this.1
              · exact this.2 f hf
        · cases hf
def TxOK (l : List Item) : Prop := (∀ x ∈ l, formOK x ∧ x.text.size ≤ 1000) ∧ l.length ≤ 150
theorem flowAt_tx {d : Document} {K N : Nat} (_hl : lim Head.sized K N d.flow) (hd : okDoc N d) (hf : few N d.flow) (id : Int) : TxOK (flowAt d id) := by
  have key := flL_all (R := fun N l => few N l ∧ ∃ m, okc m N l) (Q := TxOK) (fun l h => h.1) (fun N l h => by
    obtain ⟨⟨f1, f2⟩, m, o⟩ := h
    exact ⟨⟨fun x hx => ⟨(o x hx).1, (f2 x hx).1.1⟩, f1⟩, fun x hx => ⟨⟨(f2 x hx).2.1, m, (o x hx).2.2.1⟩, fun r hr c hc => ⟨((f2 x hx).2.2 r hr).2 c hc, m, (((o x hx).2.2.2.2 r hr).2 c hc).2⟩⟩⟩) N d.flow docPlace ⟨hf, _, hd.flow⟩
  unfold flowAt
  cases hfd : docFlow d id with
  | none => exact ⟨by simp, by simp⟩
  | some f =>
    have hm : f ∈ docFlows d := List.mem_of_find?_eq_some hfd
    rcases List.mem_cons.1 hm with rfl | hm
    · exact key.1
    · exact key.2 f hm
theorem chr_valid (x : Item) : cpValid (chr x) = true ∧ (chr x).size ≤ 3 := by
  have one : ∀ s : ByteArray, (cpDecode s 0).2 = true → (cpDecode s 0).1 = s.size → 0 < s.size → cpValid s = true := fun s h1 h2 h3 =>
    cpValid_iff.2 (.cons h3 h1 (by rw [h2, Nat.zero_add]; exact .nil _))
  unfold chr
  repeat' split
  all_goals exact ⟨one _ (by kernel_rfl) (by kernel_rfl) (by decide), by decide⟩
theorem textS_cons (x : Item) (l : List Item) : textS (x :: l) = txt x ++ textS l := by
  have : (textS (x :: l)).data = (txt x ++ textS l).data := by
    rw [ByteArray.data_append]
    simp [textS, textB]
  cases h1 : textS (x :: l); cases h2 : (txt x ++ textS l); rw [h1, h2] at this; simp only at this; rw [this]
theorem textS_ok : ∀ (l : List Item), (∀ x ∈ l, formOK x ∧ x.text.size ≤ 1000) → cpValid (textS l) = true ∧ (textS l).size ≤ 1000 * l.length
  | [], _ => ⟨cpValid_iff.2 (.nil _), Nat.zero_le _⟩
  | x :: l, h => by
    obtain ⟨i1, i2⟩ := textS_ok l fun y hy => h y (by simp [hy])
    obtain ⟨f1, f2⟩ := h x (by simp)
    have ht : cpValid (txt x) = true ∧ (txt x).size ≤ 1000 := by
      unfold txt
      split
      · exact ⟨f1.2.2, f2⟩
      · have := chr_valid x; exact ⟨this.1, by omega⟩
    rw [textS_cons]
    exact ⟨cpValid_app ht.1 i1, by rw [ByteArray.size_append, List.length_cons]; omega⟩
end Go.Proofs.YthinbkgpjmjfeaaGreatDoor.Sh
