/- A part of the proof (part 11 of 11). -/
import Derived.Test.YthinbkgpjmjfeaaGreatDoorM10
import Derived.Lib.IndexMore
import GoSem.Core.Utf8
import Derived.Test.YthinbkgpjmjfeaaGreatDoorTie
import Derived.Test.YthinbkgpjmjfeaaGreatDoorCards
import Derived.Deep.DeepHandedRow
import Derived.Deep.DeepWitnessRowRef
import Derived.Lib.LaidIn
import Derived.SevenTiedAt
import Derived.Test.YthinbkgpjmjfeaaGreatDoorMF
namespace Go.Proofs.YthinbkgpjmjfeaaGreatDoor.Sh
section
variable {P : Program} {E : Env} {evs : Operand → SV} {o : Oper} {h : Hp} {n : Nat} {K : SV → Hp → Nat → Prop}
theorem sem_sliceData0 {x : Operand} {ts : Array TypeId} (ho : o.op = .call { callee := .builtin .unsafeSliceData, args := #[x], argTypes := ts }) (hx : evs x = .nils)
    (hk : K .nilp h n) : SemOp E P evs o h n K := by
  refine ⟨by rw [ho]; simp, fun c ev _ _ R F hv => ?_⟩
  have hvx := hv x
  rw [hx, V] at hvx
  refine ⟨.pointer none, .nilp, h, n, c, ?_, by rw [V], R, F, Adv.refl n c, hk⟩
  refine run_builtin (P := P) (ev := ev) ho _ _ _ fun cs => ?_
  have hr := Lib.run_unsafeSliceData_nil (P := P) c.w ts o.type 0 0
  simp only [BigFrame.builtin_unsafeSliceData, Sem.run_bind, Sem.run_pure]
  simp only [List.map_toArray, List.map_cons, List.map_nil, hvx] at hr ⊢
  rw [hr]; rfl
theorem sem_unsafeString0 {x y : Operand} {pt it : TypeId} (ho : o.op = .call { callee := .builtin .unsafeString, args := #[x, y], argTypes := #[pt, it] })
    (hx : evs x = .nilp) (hy : evs y = .int .i64 0) (hk : K (.str .empty) h n) : SemOp E P evs o h n K := by
  refine ⟨by rw [ho]; simp, fun c ev _ _ R F hv => ?_⟩
  have hvx := hv x
  rw [hx, V] at hvx
  have hvy := hv y
  rw [hy] at hvy
  have hvy := vint hvy
  refine ⟨.string .empty, .str .empty, h, n, c, ?_, by rw [V], R, F, Adv.refl n c, hk⟩
  refine run_builtin (P := P) (ev := ev) ho _ _ _ fun cs => ?_
  have hr := Lib.run_unsafeString_none (P := P) c.w pt it o.type none
  simp only [BigFrame.builtin_unsafeString, Sem.run_bind, Sem.run_pure]
  simp only [List.map_toArray, List.map_cons, List.map_nil, hvx, hvy] at hr ⊢
  rw [hr]; rfl
end
open Proofs
set_option maxRecDepth 10000
def chr (x : Item) : ByteArray :=
  if x.kind = 2 then ⟨#[10]⟩ else if x.kind = 3 then ⟨#[29]⟩ else if x.kind = 5 ∨ x.kind = 6 ∨ x.kind = 7 ∨ x.kind = 8 then ⟨#[239, 191, 188]⟩
  else if x.kind = 4 ∧ x.code = 1 then ⟨#[11]⟩ else if x.kind = 4 ∧ x.code = 2 then ⟨#[12]⟩ else if x.kind = 4 ∧ x.code = 3 then ⟨#[9]⟩ else ⟨#[239, 191, 189]⟩
def txt (x : Item) : ByteArray := if x.kind = 1 then x.text else chr x
def textB (l : List Item) : List UInt8 := l.flatMap fun x => (txt x).data.toList
set_option maxHeartbeats 2000000 in
theorem c63 (x : Item) : PC 63 [x.enc] (.str (chr x)) := by
  intro h n
  refine go Tryz.func63 rfl (by kernel_rfl) (by kernel_rfl) (by simp [go_sem]) fun ho => ?_
  have fin : ∀ (s : ByteArray) (a : Option SObj) (m : Nat), chr x = s → RetS n (hset h n a) m (.str s) (Is (.str (chr x)) h n) := fun s a m e => retIs ho (hset_old ho (Nat.le_refl _) look_same) (by rw [e]) rfl
  by_cases h2 : x.kind = 2
  · simp [go_sem, Item.enc_eq, hset_at, h2]
    exact fin _ _ _ (by simp [chr, h2])
  by_cases h3 : x.kind = 3
  · simp [go_sem, Item.enc_eq, hset_at, h3]
    exact fin _ _ _ (by simp [chr, h3])
  by_cases h5 : x.kind = 5
  · simp [go_sem, Item.enc_eq, hset_at, h5]
    exact fin _ _ _ (by simp [chr, h5])
  by_cases h6 : x.kind = 6
  · simp [go_sem, Item.enc_eq, hset_at, h6]
    exact fin _ _ _ (by simp [chr, h6])
  by_cases h7 : x.kind = 7
  · simp [go_sem, Item.enc_eq, hset_at, h7]
    exact fin _ _ _ (by simp [chr, h7])
  by_cases h8 : x.kind = 8
  · simp [go_sem, Item.enc_eq, hset_at, h8]
    exact fin _ _ _ (by simp [chr, h8])
  by_cases h4 : x.kind = 4
  · by_cases k1 : x.code = 1
    · simp [go_sem, Item.enc_eq, hset_at, h4, k1]
      exact fin _ _ _ (by simp [chr, h4, k1])
    by_cases k2 : x.code = 2
    · simp [go_sem, Item.enc_eq, hset_at, h4, k2]
      exact fin _ _ _ (by simp [chr, h4, k2])
    by_cases k3 : x.code = 3
    · simp [go_sem, Item.enc_eq, hset_at, h4, k3]
      exact fin _ _ _ (by simp [chr, h4, k3])
    simp [go_sem, Item.enc_eq, hset_at, h4, k1, k2, k3]
    exact fin _ _ _ (by simp [chr, h4, k1, k2, k3])
  simp [go_sem, Item.enc_eq, hset_at, h2, h3, h4, h5, h6, h7, h8]
  exact fin _ _ _ (by simp [chr, h2, h3, h4, h5, h6, h7, h8])
def bldV (ob : Option Nat) (bs : List UInt8) : SV := match ob with | none => .nils | some j => .sl j 0 1 bs.length false
theorem appBS {H : Hp} {p : Nat} {ob : Option Nat} {bs : List UInt8} {x : ByteArray} (h2 : ∀ j, ob = some j → H j = some (.cells (bs.map byteV) (some 5))) (h0 : ob = none → bs = []) (hroom : bs.length + x.size ≤ 1073741824) :
    builtinS Tryz.prog H p .append [119, 9] [bldV ob bs, .str x] = if x.size = 0 then some { val := bldV ob bs } else
      some { val := .sl p 0 1 (bs.length + x.size) false, upd := ob.map fun j => (j, none), new := some (.cells ((bs ++ x.data.toList).map byteV) (some 5)) } := by
  have e1 : tslice Tryz.prog 119 = some 5 := by simp [go_sem]
  have e9 : tslice Tryz.prog 9 = none := by simp [go_sem]
  have es : tstring Tryz.prog 9 = true := by simp [go_sem]
  have e2 : tsz Tryz.prog 5 = 1 := by simp [go_sem]
  have e3 : (tzero Tryz.prog 5).storable = true := by simp [go_sem]
  have e4 : (tzero Tryz.prog 5).cells.length = 1 := by simp [go_sem]
  have e5 : tbytes Tryz.prog 5 ≤ 65536 := by simp [go_sem]
  have e6 : rowT 5 = some 5 := by rfl
  have hr : roomy (bs.length + x.size) (tbytes Tryz.prog 5) = true := by simp only [roomy, Bool.and_eq_true, decide_eq_true_eq]; exact ⟨by omega, e5⟩
  have hb : bytesC x = x.data.toList.map byteV := rfl
  simp only [builtinS, e1, e9, es, Option.isSome_none, Bool.false_eq_true, if_false, if_true, appendStr, e2, e3, e4]
  cases ob with
  | none =>
    have := h0 rfl
    subst this
    by_cases hx : x.size = 0
    · simp [bldV, appC, zOk, hx, yes]
    · simp only [List.length_nil, Nat.zero_add] at hr
      simp [bldV, appC, zOk, hx, hr, e2, e6, hb]
  | some j =>
    have hj := h2 j rfl
    have hf : flat H (.sl j 0 1 bs.length false) = some (bs.map byteV) := by simp [flat, hj, takeN]; exact List.take_of_length_le (by simp)
    have ht : tyApp H 5 j 0 = some 5 := by simp [tyApp, e6, tyOf, hj]
    by_cases hx : x.size = 0
    · simp [bldV, appC, zOk, hx, yes]
    · simp [bldV, appC, zOk, hx, hf, hr, ht, e2, hb]
theorem d62 {G : Hp} {n q : Nat} {p : SV} {ob : Option Nat} {bs : List UInt8} {x : ByteArray} (hG : G q = some (.cells [p, bldV ob bs] (some 121))) (hp : p = .nilp ∨ p = .ptr q 0)
    (h0 : ob = none → bs = []) (h2 : ∀ j, ob = some j → j ≠ q ∧ G j = some (.cells (bs.map byteV) (some 5))) (hroom : bs.length + x.size ≤ 1073741824) :
    SCall Tryz.prog 62 [.ptr q 0, .str x] G n (fun _ h' n' => ∃ ob', (ob' = none → bs ++ x.data.toList = []) ∧ (∀ j, ob' = some j → j ≠ q ∧ h' j = some (.cells ((bs ++ x.data.toList).map byteV) (some 5)) ∧ (ob = some j ∨ n ≤ j ∧ x.data.toList ≠ []) ∧ j < n') ∧
      h' q = some (.cells [.ptr q 0, bldV ob' (bs ++ x.data.toList)] (some 121)) ∧ n ≤ n' ∧ ∀ o y, o ≠ q → ob ≠ some o → G o = some y → h' o = some y) := by
  refine goS Tryz.func62 rfl (by kernel_rfl) (by kernel_rfl) (by simp [go_sem]) fun ho => ?_
  have hqn : q < n := (ho q _ hG).1
  have hjn : ∀ j, ob = some j → j < n := fun j e => (ho j _ (h2 j e).2).1
  refine SP_mid 0 (α := Unit) (fun _ => [(0, .ptr q 0), (1, .str x)]) (fun _ => G) (fun _ m => n = m) ?_ (fun _ m hm => ?_)
  · simp [go_sem, Fz.same]
  subst hm
  refine SP_mid 0 (α := Unit) (fun _ => [(0, .ptr q 0), (1, .str x)]) (fun _ => hset G q (some (.cells [.ptr q 0, bldV ob bs] (some 121)))) (fun _ m => n = m) ?_ (fun _ m hm => ?_)
  · simp [go_sem]
    refine SC.use (d335b hG hp) ?_
    rintro v H' n' ⟨rfl, rfl, rfl⟩
    simp [go_sem, Fz.same]
  subst hm
  refine SP_of ?_
  have hbl : ∀ ob' bs', (match bldV ob' bs' with | .junk => false | .tup _ => false | _ => true) = true := fun ob' bs' => by cases ob' <;> rfl
  have hap := appBS (H := hset G q (some (.cells [.ptr q 0, bldV ob bs] (some 121)))) (p := n) (x := x) (fun j e => by rw [hset_ne _ _ (h2 j e).1]; exact (h2 j e).2) h0 hroom
  have hsz : x.data.toList.length = x.size := by rw [Array.length_toList]; rfl
  by_cases hx : x.size = 0
  · rw [if_pos hx] at hap
    have hxd : x.data.toList = [] := List.eq_nil_of_length_eq_zero (by omega)
    simp only [hxd, List.append_nil]
    cases ob with
    | none =>
      simp only [bldV] at hap ⊢
      simp [go_sem, hap, hset_at]
      exact .inl ⟨none, by simpa using h0, by simp, by rw [hset_at], Nat.le_refl _, fun o y h1 h3 => by rw [hset_ne _ _ h1, hset_ne _ _ h1]; exact h3⟩
    | some j =>
      simp only [bldV] at hap ⊢
      simp [go_sem, hap, hset_at]
      have hj := h2 j rfl
      exact .inl ⟨some j, by simp, fun i e => by cases e; exact ⟨hj.1, by rw [hset_ne _ _ hj.1, hset_ne _ _ hj.1]; exact hj.2, rfl, hjn j rfl⟩, by rw [hset_at], Nat.le_refl _, fun o y h1 h3 h4 => by rw [hset_ne _ _ h1, hset_ne _ _ h1]; exact h4⟩
  · rw [if_neg hx] at hap
    have hne : q ≠ n := by omega
    have hxn : x.data ≠ #[] := fun e => hx (by rw [← hsz, e]; rfl)
    cases ob with
    | none =>
      simp only [bldV] at hap ⊢
      simp [go_sem, hap, hset_at, hset_ne, hne]
      refine .inl ⟨some n, by simp, fun i e => by cases e; exact ⟨Ne.symm hne, by rw [hset_ne _ _ (Ne.symm hne), hset_at], ⟨Nat.le_refl _, hxn⟩, by omega⟩, by rw [hset_at], by omega, fun o y h1 h3 => ?_⟩
      have := (ho o y h3).1
      rw [hset_ne _ _ h1, hset_ne _ _ (by omega), hset_ne _ _ h1]; exact h3
    | some j =>
      simp only [bldV] at hap ⊢
      have hqj : q ≠ j := Ne.symm (h2 j rfl).1
      simp [go_sem, hap, hset_at, hset_ne, hne, hqj]
      refine .inl ⟨some n, by simp, fun i e => by cases e; exact ⟨Ne.symm hne, by rw [hset_ne _ _ (Ne.symm hne), hset_at], .inr ⟨Nat.le_refl _, hxn⟩, by omega⟩, by rw [hset_at], by omega, fun o y h1 h3 h4 => ?_⟩
      have := (ho o y h4).1
      rw [hset_ne _ _ h1, hset_ne _ _ (by omega), hset_ne _ _ (Ne.symm h3), hset_ne _ _ h1]; exact h4
theorem d64 {G : Hp} {n q j : Nat} {p : SV} {bs : List UInt8} (hG : G q = some (.cells [p, bldV (some j) bs] (some 121))) (hj : G j = some (.cells (bs.map byteV) (some 5))) (_hjq : j ≠ q) (hne : bs ≠ []) (hlen : bs.length ≤ 1073741824) :
    SCall Tryz.prog 64 [.ptr q 0] G n (fun v h' n' => v = .str ⟨bs.toArray⟩ ∧ h' = hset G j none ∧ n' = n) := by
  refine goS Tryz.func64 rfl (by kernel_rfl) (by kernel_rfl) (by simp [go_sem]) fun ho => ?_
  have hl0 : bs.length ≠ 0 := by simpa using hne
  refine SP_mid 0 (α := Unit) (fun _ => [(0, .ptr q 0)]) (fun _ => G) (fun _ m => n = m) ?_ (fun _ m hm => ?_)
  · simp [go_sem, Fz.same]
  subst hm
  refine SP_midS 0 (α := Unit) (fun _ => [(2, .str ⟨bs.toArray⟩)]) (fun _ => hset G j none) (fun _ m => n = m) (SP_tr trSt rfl (by kernel_rfl) (by kernel_rfl) ?_) (fun _ m hm => ?_)
  · simp only [bldV] at hG
    simp [go_sem, trSt, hG]
    have hA : ∀ {E : Env} {evs : Operand → SV} {o : Oper} {n : Nat} {K : SV → Hp → Nat → Prop} {x : Operand} {ts : Array TypeId}, o.op = .call { callee := .builtin .unsafeSliceData, args := #[x], argTypes := ts } → evs x = .sl j 0 1 bs.length false → K (.ptr j 0) G n → SemOp E Tryz.prog evs o G n K := fun e1 e2 k => sem_sliceData e1 e2 hl0 k
    have hB : ∀ {E : Env} {evs : Operand → SV} {o : Oper} {n : Nat} {K : SV → Hp → Nat → Prop} {x y : Operand} {it : TypeId}, o.op = .call { callee := .builtin .unsafeString, args := #[x, y], argTypes := #[199, it] } → evs x = .ptr j 0 → evs y = intE bs.length → K (.str ⟨bs.toArray⟩) (hset G j none) n → SemOp E Tryz.prog evs o G n K := fun e1 e2 e3 k => sem_unsafeString e1 Tryz.underlying199 cells5 e2 e3 hj hne (by omega) k
    refine ⟨⟨?_, ?_, ?_⟩, ⟨?_, ?_⟩, ?_⟩
    all_goals
      refine hA rfl rfl ?_
      simp [go_sem, hG]
      refine hB rfl rfl rfl ?_
      simp [go_sem, Fz.same]
  subst hm
  refine SP_of ?_
  simp [go_sem]
  refine .inl ⟨rfl, rfl, rfl⟩
theorem d64n {G : Hp} {n q : Nat} {p : SV} (hG : G q = some (.cells [p, .nils] (some 121))) :
    SCall Tryz.prog 64 [.ptr q 0] G n (fun v h' n' => v = .str .empty ∧ h' = G ∧ n' = n) := by
  refine goS Tryz.func64 rfl (by kernel_rfl) (by kernel_rfl) (by simp [go_sem]) fun ho => ?_
  refine SP_mid 0 (α := Unit) (fun _ => [(0, .ptr q 0)]) (fun _ => G) (fun _ m => n = m) ?_ (fun _ m hm => ?_)
  · simp [go_sem, Fz.same]
  subst hm
  refine SP_midS 0 (α := Unit) (fun _ => [(2, .str .empty)]) (fun _ => G) (fun _ m => n = m) (SP_tr trSt rfl (by kernel_rfl) (by kernel_rfl) ?_) (fun _ m hm => ?_)
  · simp [go_sem, trSt, hG]
    refine ⟨⟨?_, ?_, ?_⟩, ⟨?_, ?_⟩, ?_⟩
    all_goals
      refine sem_sliceData0 rfl rfl ?_
      simp [go_sem, hG]
      refine sem_unsafeString0 rfl rfl rfl ?_
      simp [go_sem, Fz.same]
  subst hm
  refine SP_of ?_
  simp [go_sem]
  refine .inl ⟨rfl, rfl, rfl⟩
def bldH (h : Hp) (q : Nat) (p : SV) (ob : Option Nat) (bs : List UInt8) : Hp :=
  hset (match ob with | none => h | some j => hset h j (some (.cells (bs.map byteV) (some 5)))) q (some (.cells [p, bldV ob bs] (some 121)))
theorem bldH_q {h : Hp} {q : Nat} {p : SV} {ob : Option Nat} {bs : List UInt8} : bldH h q p ob bs q = some (.cells [p, bldV ob bs] (some 121)) := hset_at _ _ _
theorem bldH_j {h : Hp} {q j : Nat} {p : SV} {bs : List UInt8} (hj : j ≠ q) : bldH h q p (some j) bs j = some (.cells (bs.map byteV) (some 5)) := by unfold bldH; rw [hset_ne _ _ hj]; exact hset_at _ _ _
theorem bldH_o {h : Hp} {q o : Nat} {p : SV} {ob : Option Nat} {bs : List UInt8} (h1 : o ≠ q) (h2 : ob ≠ some o) : bldH h q p ob bs o = h o := by
  unfold bldH
  rw [hset_ne _ _ h1]
  cases ob with
  | none => rfl
  | some j => exact hset_ne _ _ fun e => h2 (by rw [e])
structure TxS where
  k : Nat
  p : SV
  ob : Option Nat
theorem textB_take {l : List Item} {k : Nat} (h : k < l.length) : textB (l.take (k + 1)) = textB (l.take k) ++ (txt l[k]).data.toList := by
  rw [List.take_succ_eq_append_getElem h, textB, List.flatMap_append, textB]; simp
theorem textB_le (l : List Item) (k : Nat) : (textB (l.take k)).length ≤ (textB l).length := by
  have : textB l = textB (l.take k) ++ textB (l.drop k) := by rw [textB, textB, textB, ← List.flatMap_append, List.take_append_drop]
  rw [this, List.length_append]; omega
set_option maxHeartbeats 4000000 in
theorem c23 (l : List Item) (hl : l.length ≤ 1048576) (hb : (textB l).length ≤ 1073741824) : PC 23 [itemsE l] (.str ⟨(textB l).toArray⟩) := by
  intro h n
  refine go Tryz.func23 rfl (by kernel_rfl) (by kernel_rfl) (by simp [go_sem]) fun ho => ?_
  simp [go_sem]
  refine goloop 1 (α := TxS) (fun s => [(3, .ptr n 0), (6, itemsE l), (7, intE l.length), (8, intE s.k)]) (fun s => bldH h n s.p s.ob (textB (l.take s.k)))
    (fun s m => s.k ≤ l.length ∧ n + 1 ≤ m ∧ (s.p = .nilp ∨ s.p = .ptr n 0) ∧ (s.ob = none → textB (l.take s.k) = []) ∧ ∀ j, s.ob = some j → n < j ∧ j < m ∧ textB (l.take s.k) ≠ []) (fun s => l.length - s.k) ⟨0, .nilp, none⟩ ?_ ?_ ?_ ?_
  · simp [textB]
  · simp [look]
  · intro o y e
    simpa [bldH, bldV] using e
  rintro ⟨k, p, ob⟩ m ⟨hk, hm, hp, h0, h1⟩
  simp only at hk hp h0 h1
  by_cases hlt : k < l.length
  · have w1 : IntKind.i64.wrap ((k : Int) + 1) = ((k + 1 : Nat) : Int) := by rw [wr64] <;> omega
    obtain ⟨x, hx⟩ : ∃ x, l[k] = x := ⟨_, rfl⟩
    have nxt : ∀ (s : ByteArray) (G : Hp) (m' : Nat), txt x = s → m ≤ m' → (∀ o, o < m → G o = bldH h n p ob (textB (l.take k)) o) → ∀ (K : SV → Hp → Nat → Prop),
        (∀ v h' n' ob', n + 1 ≤ n' → (ob' = none → textB (l.take (k + 1)) = []) → (∀ j, ob' = some j → n < j ∧ j < n' ∧ textB (l.take (k + 1)) ≠ []) → (∀ o y, bldH h n (.ptr n 0) ob' (textB (l.take (k + 1))) o = some y → h' o = some y) → K v h' n') →
        SCallE (Env.plain.call false 0) Tryz.prog 62 [.ptr n 0, .str s] G m' K := by
      rintro s G m' rfl hmm hG K hK
      have ht := textB_take hlt
      rw [hx] at ht
      have hsz : (txt x).data.toList.length = (txt x).size := by rw [Array.length_toList]; rfl
      have hle := textB_le l (k + 1)
      rw [ht, List.length_append] at hle
      refine SC.use (d62 (p := p) (ob := ob) (bs := textB (l.take k)) (by rw [hG n (by omega), bldH_q]) hp h0 (fun j e => ?_) (by omega)) ?_
      · subst e
        have := h1 j rfl
        exact ⟨by omega, by rw [hG j this.2.1, bldH_j (by omega)]⟩
      · rintro v h' n' ⟨ob', q1, q2, q3, q4, q5⟩
        rw [← ht] at q1 q2 q3
        refine hK v h' n' ob' (by omega) q1 (fun j e => ?_) (fun o y e => ?_)
        · obtain ⟨g1, g2, g3, g4⟩ := q2 j e
          rcases g3 with g3 | ⟨g3, g5⟩
          · have := h1 j g3
            exact ⟨this.1, g4, by rw [ht]; simp [this.2.2]⟩
          · exact ⟨by omega, g4, by rw [ht]; simp; intro _; simpa using g5⟩
        · by_cases e1 : o = n
          · subst e1
            rw [bldH_q] at e; cases e; exact q3
          by_cases e2 : ob' = some o
          · subst e2
            rw [bldH_j e1] at e; cases e; exact (q2 o rfl).2.1
          · rw [bldH_o e1 e2] at e
            have ho2 := (ho o y e).1
            have e3 : ob ≠ some o := fun e3 => by have := h1 o e3; omega
            exact q5 o y e1 e3 (by rw [hG o (by omega), bldH_o e1 e3]; exact e)
    have hGm : ∀ (a b : Option SObj) (o : Nat), o < m → hset (hset (bldH h n p ob (textB (l.take k))) m a) m b o = bldH h n p ob (textB (l.take k)) o := fun a b o ho => by rw [hset_ne _ _ (by omega), hset_ne _ _ (by omega)]
    by_cases h1k : x.kind = 1
    · simp [go_sem, hlt, hx, Item.enc_eq, hset_at, h1k]
      refine nxt _ _ _ (by simp [txt, h1k]) (by omega) (hGm _ _) _ ?_
      rintro v h' n' ob' r1 r2 r3 r4
      simp [go_sem, w1, -Int.natCast_add]
      exact ⟨⟨k + 1, .ptr n 0, ob'⟩, by simp only; omega, ⟨by simp only; omega, r1, .inr rfl, r2, r3⟩, Fz.same, r4⟩
    · simp [go_sem, hlt, hx, Item.enc_eq, hset_at, h1k]
      refine PC.use (by simpa [Item.enc_eq] using c63 x) ?_
      simp [go_sem]
      refine nxt _ _ _ (by simp [txt, h1k]) (by omega) (hGm _ _) _ ?_
      rintro v h' n' ob' r1 r2 r3 r4
      simp [go_sem, w1, -Int.natCast_add]
      exact ⟨⟨k + 1, .ptr n 0, ob'⟩, by simp only; omega, ⟨by simp only; omega, r1, .inr rfl, r2, r3⟩, Fz.same, r4⟩
  · have hke : k = l.length := by omega
    subst hke
    rw [List.take_length] at h0 h1
    simp [go_sem]
    have keep : ∀ o y, h o = some y → bldH h n p ob (textB l) o = some y ∧ ∀ j, ob = some j → o ≠ j := fun o y e => by
      have ho2 := (ho o y e).1
      have e3 : ob ≠ some o := fun e3 => by have := h1 o e3; omega
      exact ⟨by rw [bldH_o (by omega) e3]; exact e, fun j ej e4 => e3 (by rw [ej, e4])⟩
    cases ob with
    | none =>
      have ht := h0 rfl
      refine SC.use (d64n (G := bldH h n p none (textB l)) bldH_q) ?_
      rintro v H' n' ⟨rfl, rfl, rfl⟩
      simp [go_sem]
      exact retIs ho (fun o y e => (keep o y e).1) (by rw [ht]; rfl) rfl
    | some j =>
      have hj := h1 j rfl
      refine SC.use (d64 (G := bldH h n p (some j) (textB l)) bldH_q (bldH_j (by omega)) (by omega) hj.2.2 hb) ?_
      rintro v H' n' ⟨rfl, rfl, rfl⟩
      simp [go_sem]
      exact retIs ho (fun o y e => by rw [hset_ne _ _ ((keep o y e).2 j rfl)]; exact (keep o y e).1) rfl rfl
def idsOf (d : Document) : List Int := (docFlows d).map Fl.id
set_option maxHeartbeats 4000000 in
theorem c39 (d : Document) (hl : d.flow.length ≤ 1048576) (hs : Item.sizedL d.flow) (hn : (docFlows d).length ≤ 1048576) : PC 39 [d.enc] (.imm 1 ((idsOf d).map intE) false) := by
  intro h n
  refine goM Tryz.func39 rfl (by kernel_rfl) (by kernel_rfl) (by simp [go_sem]) fun ho B => ?_
  simp [go_sem, Document.enc, Head.flat, Settings.flat, hset_at, hset_ne, Nat.add_assoc]
  refine PC.use (by simpa [Document.enc, Head.flat, Settings.flat] using c109 d) ?_
  simp [go_sem]
  generalize hH : hset (hset h n _) (n + 1) _ = H
  refine SWE_rangeFunc rfl rfl rfl fun E1 l R hY => ?_
  have h1 : H (n + 1) = some (.cells [.imm 0 [] true]) := by rw [← hH]; simp [hset]
  have hold : ∀ o, o < n → H o = h o := fun o g => by rw [← hH]; rw [hset_ne _ _ (by omega), hset_ne _ _ (by omega)]
  clear hH
  let ids : Nat → List Int := fun k => ((docFlows d).take k).map Fl.id
  let J : Nat → (Nat → Prop) → Hp → Nat → Prop := fun k D hh m => ∃ o : Option Nat, D = (fun j => j = n + 1 ∨ j = n + 2 ∨ o = some j) ∧ n + 2 < m ∧ hh (n + 1) = some (.cells [AccV 1 o ((ids k).map intE)]) ∧ hh (n + 2) = some (.loop (R .ready none)) ∧ AccI (n + 3) m 1 o ((ids k).map intE) ∧ ∀ j, o = some j → hh j = some (.cells ((ids k).map intE))
  have Y : YJ E1 l Fl.enc (docFlows d) J (fun _ _ _ => False) := by
    refine ⟨?_, ?_, ?_⟩
    · rintro k x D hh m hx ⟨o, hDe, g0, g1, g2, g3, g4⟩
      obtain ⟨hlt, hxx⟩ := List.getElem?_eq_some_iff.1 hx
      have hks : ids (k + 1) = ids k ++ [x.id] := by simp only [ids]; rw [List.take_succ_eq_append_getElem hlt, hxx, List.map_append]; rfl
      have hkl : (ids k).length + 1 ≤ 1048576 := by simp only [ids, List.length_map, List.length_take]; omega
      generalize ids k = ks at *
      refine hY _ _ _ _ g2 rfl (roundW_of ?_)
      have e1 : n + 1 ≠ m := by omega
      have e2 : n + 2 ≠ m := by omega
      have e4 : n ≠ m := by omega
      have hon : ∀ j, o = some j → n + 3 ≤ j ∧ j < m := fun j e => g3.lt j e
      simp [go_sem, zipSA, Fl.enc, hset_ne, g1, g2]
      rw [app_int (x := x.id) g3 (by omega) (by simp [hset]) (by
        intro j e
        have := hon j e
        have := g4 j e
        simp only [hset]
        grind)]
      have done : ∀ (H2 : Hp) (o2 : Nat), o2 = m + 1 → (∀ j, ¬ (j = n + 1 ∨ j = n + 2 ∨ o = some j) → j < m → H2 j = hh j) → H2 (n + 1) = some (.cells [.sl o2 0 1 (ks.length + 1) false]) → H2 o2 = some (.cells (ks.map intE ++ [intE x.id])) → H2 (n + 2) = some (.loop (R .busy none)) →
          ∀ sa, roundQ (n + 2) R (WalkQ (J (k + 1)) (fun _ _ _ => False) D hh m) .normal sa H2 (m + 1 + 1) := by
        rintro H2 o2 rfl k0 k1 k2 k3 sa
        subst hDe
        refine ⟨k3, by omega, fun j => j = n + 1 ∨ j = n + 2 ∨ some (m + 1) = some j, fun j g => ?_, fun j g1 g2 => ?_, .inl ⟨rfl, some (m + 1), rfl, by omega, ?_, hset_at _ _ _, ?_, fun j e => ?_⟩⟩
        · rcases g with g | g | g
          · exact .inl (.inl g)
          · exact .inl (.inr (.inl g))
          · cases g; exact .inr (by omega)
        · rw [hset_ne _ _ (fun e => g1 (.inr (.inl e)))]; exact k0 j g1 g2
        · rw [hset_ne _ _ (by omega), k1, hks]; simp [AccV]
        · rw [hks, List.map_append]; exact g3.push rfl rfl (by omega) (by omega)
        · cases e; rw [hset_ne _ _ (by omega), k2, hks, List.map_append]; rfl
      cases o with
      | none =>
        simp [go_sem, hset_ne, g1, e1, e4, AccV]
        refine done _ _ rfl (fun j h1 h2 => ?_) ?_ ?_ ?_ _
        · simp only [hset]; grind
        · simp only [hset]; grind
        · simp only [hset]; grind
        · simp only [hset]; grind
      | some j =>
        have hj := hon j rfl
        have e3 : n + 1 ≠ j := by omega
        simp [go_sem, hset_ne, g1, e1, e3, e4, AccV]
        refine done _ _ rfl (fun j h1 h2 => ?_) ?_ ?_ ?_ _
        · simp only [hset]; grind
        · simp only [hset]; grind
        · simp only [hset]; grind
        · simp only [hset]; grind
    · rintro k D hh m h' m' ⟨o, rfl, g0, g1, g2, g3, g4⟩ hm hD
      exact ⟨o, rfl, by omega, by rw [hD _ (.inl rfl)]; exact g1, by rw [hD _ (.inr (.inl rfl))]; exact g2, g3.mono hm, fun j e => by rw [hD _ (.inr (.inr e))]; exact g4 j e⟩
    · rintro k D hh m ⟨o, rfl, g0, g1, g2, g3, g4⟩ j (rfl | rfl | e)
      · omega
      · omega
      · exact (g3.lt j e).2
  refine SCallE.mono (c247 Y d.flow hl hs 0 docPlace 0 (fun j => j = n + 1 ∨ j = n + 2) _ _ ⟨none, by simp, by omega, ?_, hset_at _ _ _, by simp [ids]; exact AccI.nil _ _ _, by simp⟩ ⟨[], by simp [docFlows]⟩) ?_
  · rw [hset_ne _ _ (by omega), h1]; simp [AccV]
  rintro _ h' m' ⟨v, hm, D', hDD, hh, hv⟩
  rcases hv with ⟨rfl, o, rfl, g0, g1, g2, g3, g4⟩ | ⟨_, hf⟩
  · refine ⟨_, _, g2, by simp, ?_⟩
    have hids : ids (0 + (flowsOf 0 d.flow docPlace).length) = idsOf d := by simp only [ids, idsOf, Nat.zero_add]; rw [show (flowsOf 0 d.flow docPlace).length = (docFlows d).length from rfl, List.take_length]
    rw [hids] at g1 g3 g4
    simp [go_sem, hset_ne, g1]
    have hkeep : ∀ j y, h j = some y → hset h' (n + 2) none j = some y := fun j y e => by
      have := (ho j y e).1
      rw [hset_ne _ _ (by omega), hh j (by rintro (g | g) <;> omega) (by omega), hset_ne _ _ (by omega), hold j this, e]
    refine ret_acc (m := m') ho ⟨g3.none, fun j e => ⟨by have := (g3.lt j e).1; omega, (g3.lt j e).2⟩, g3.size⟩ (fun j y e => ?_) rfl (by simp [closed])
    cases o with
    | none => exact hkeep j y e
    | some q =>
      by_cases hjq : j = q
      · subst hjq
        have := g3.lt j rfl
        rw [show AccH (some j) ((idsOf d).map intE) h j = some (.cells (((idsOf d).map intE).flatMap SV.cells)) from hset_at _ _ _] at e
        cases e
        rw [hset_ne _ _ (by omega), g4 j rfl, flat_int]
      · rw [show AccH (some q) ((idsOf d).map intE) h j = h j from hset_ne _ _ hjq] at e
        exact hkeep j y e
  · exact hf.elim
abbrev idx (s sub : ByteArray) : Int := Lib.index s.data.toList sub.data.toList
def cutV (s sub : ByteArray) : SV := if 0 ≤ idx s sub then .tup [.str (s.extract 0 (idx s sub).toNat), .str (s.extract ((idx s sub).toNat + sub.size) s.size), .bool true] else .tup [.str s, .str .empty, .bool false]
theorem idx_le {s sub : ByteArray} (h : 0 ≤ idx s sub) : (idx s sub).toNat + sub.size ≤ s.size := by
  have := Lib.index_room s.data.toList sub.data.toList h
  have e1 : s.data.toList.length = s.size := by rw [Array.length_toList]; rfl
  have e2 : sub.data.toList.length = sub.size := by rw [Array.length_toList]; rfl
  rw [e1, e2] at this
  have h' : 0 ≤ Lib.index s.data.toList sub.data.toList := h
  unfold idx
  omega
set_option maxHeartbeats 1000000 in
theorem g100 (s sub : ByteArray) (hs : s.size < 4294967281) : GC 100 [.str s, .str sub] (cutV s sub) := by
  intro E hI h n
  refine go Tryz.func100 rfl (by kernel_rfl) (by kernel_rfl) (by simp [go_sem]) fun ho => ?_
  simp [go_sem]
  refine (g160 s sub hs).use hI ?_
  by_cases h0 : 0 ≤ idx s sub
  · have hle := idx_le h0
    obtain ⟨i, hi⟩ : ∃ i : Nat, idx s sub = i := ⟨(idx s sub).toNat, by omega⟩
    have hi' : Lib.index s.data.toList sub.data.toList = i := hi
    rw [hi] at hle
    simp only [Int.toNat_natCast] at hle
    have w1 : IntKind.i64.wrap ((i : Int) + sub.size) = ((i + sub.size : Nat) : Int) := by rw [wr64] <;> omega
    have hA : (i : Int) ≤ s.size := by omega
    have hB : ((i + sub.size : Nat) : Int) ≤ s.size := by omega
    simp [go_sem, hi', w1, hA, hB, -Int.natCast_add]
    repeat first | refine nd (by kernel_rfl) ?_ | refine sd (by kernel_rfl) ?_
    exact ret0 ho (by unfold cutV; split <;> rfl) (by simp [cutV, hi])
  · have h0' : ¬ 0 ≤ Lib.index s.data.toList sub.data.toList := h0
    simp [go_sem, h0']
    exact ret0 ho (by unfold cutV; split <;> rfl) (by simp [cutV, h0]; rfl)
theorem g40 (s sub : ByteArray) (hs : s.size < 4294967281) : GC 40 [.str s, .str sub] (cutV s sub) := by
  intro E hI h n
  refine go Tryz.func40 rfl (by kernel_rfl) (by kernel_rfl) (by simp [go_sem]) fun ho => ?_
  simp [go_sem]
  refine (g100 s sub hs).use hI ?_
  unfold cutV
  split
  · simp [go_sem]
    exact ret0 ho rfl rfl
  · simp [go_sem]
    exact ret0 ho rfl rfl
def cnt (s : ByteArray) : Int := if cpValid s then cpHeads s s.size else 0
def textS (l : List Item) : ByteArray := ⟨(textB l).toArray⟩
def findF (s : ByteArray) (id : Int) : Nat → ByteArray → Int → List Rng
  | 0, _, _ => []
  | f + 1, t, a => if 0 ≤ idx t s then ⟨id, a + cnt (t.extract 0 (idx t s).toNat), a + cnt (t.extract 0 (idx t s).toNat) + cnt s⟩ :: findF s id f (t.extract ((idx t s).toNat + s.size) t.size) (a + cnt (t.extract 0 (idx t s).toNat) + cnt s) else []
def findIn (d : Document) (s : ByteArray) (id : Int) : List Rng := findF s id ((textS (flowAt d id)).size + 1) (textS (flowAt d id)) 0
def findAll (d : Document) (s : ByteArray) : List Rng := (idsOf d).flatMap (findIn d s)
def findV (d : Document) (s : ByteArray) : SV :=
  if cpValid s = false then .tup [rngsE [], intE 12] else if s.size = 0 then .tup [rngsE [], intE 11] else if 1024 < (findAll d s).length then .tup [rngsE [], intE 9] else .tup [rngsE (findAll d s), intE 0]
theorem cnt_le (s : ByteArray) : 0 ≤ cnt s ∧ cnt s ≤ s.size := by
  have := cpHeads_le s s.size
  unfold cnt; split <;> omega
theorem Rng.st (e : SV) (h : ∃ r : Rng, r.enc = e) : e.storable = true ∧ e.cells.length = 3 := by obtain ⟨r, rfl⟩ := h; exact ⟨rfl, rfl⟩
structure FdS where
  o : Option Nat
  done : List Rng
  t : ByteArray
  a : Int
def cntE (s : ByteArray) : Int := if cpValid s then 0 else 12
theorem pCnt (s : ByteArray) (hs : s.size ≤ 1099511627776) : PC 38 [.str s] (.tup [intE (cnt s), intE (cntE s)]) := by
  have := c177 s hs
  unfold cnt cntE
  cases hv : cpValid s <;> simp only [hv, if_true, Bool.false_eq_true, if_false] at this ⊢ <;> exact this
theorem findF_stop {s t : ByteArray} {id a : Int} (f : Nat) (h : ¬ 0 ≤ idx t s) : findF s id f t a = [] := by
  cases f with
  | zero => rfl
  | succ f => simp only [findF, if_neg h]
theorem rngs_sz (l : List Rng) : ∀ e ∈ l.map Rng.enc, e.storable = true ∧ e.cells.length = 3 := fun e he => by obtain ⟨r, _, rfl⟩ := List.mem_map.1 he; exact ⟨rfl, rfl⟩
def findTo (d : Document) (s : ByteArray) (k : Nat) : List Rng := ((idsOf d).take k).flatMap (findIn d s)
theorem findTo_succ {d : Document} {s : ByteArray} {k : Nat} (h : k < (idsOf d).length) : findTo d s (k + 1) = findTo d s k ++ findIn d s (idsOf d)[k] := by
  unfold findTo; rw [List.take_succ_eq_append_getElem h, List.flatMap_append]; simp
theorem findTo_le (d : Document) (s : ByteArray) (k : Nat) : (findTo d s k).length ≤ (findAll d s).length := by
  have : findAll d s = findTo d s k ++ ((idsOf d).drop k).flatMap (findIn d s) := by unfold findAll findTo; rw [← List.flatMap_append, List.take_append_drop]
  rw [this, List.length_append]; omega
set_option maxHeartbeats 8000000 in
theorem g15 (d : Document) (s : ByteArray) (D : Dsz d) (hsz : s.size ≤ 1048576) (hn : (docFlows d).length ≤ 1048576) (ht : ∀ id, (textB (flowAt d id)).length ≤ 536870912) (hf0 : s.size ≠ 0 → (findAll d s).length ≤ 1048576) : GC 15 [d.enc, .str s] (findV d s) := by
  intro E hI h n
  refine go Tryz.func15 rfl (by kernel_rfl) (by kernel_rfl) (by simp [go_sem]) fun ho => ?_
  have keep1 : ∀ (a : Option SObj), ∀ o y, h o = some y → hset h n a o = some y := fun a => hset_old ho (Nat.le_refl _) look_same
  simp [go_sem, Document.enc, Head.flat, Settings.flat]
  refine (c116 s (by omega)).use ?_
  cases hv : cpValid s
  · simp [go_sem]
    refine retFz 2 ho (keep1 _) ?_ ?_
    · simp [findV, hv]; exact .inr ⟨imm_fz (by simp), Fz.same, trivial⟩
    · simp only [findV, hv, if_true]; rfl
  by_cases h0 : s.size = 0
  · have he : s.toList = [] := (ba_nil s).2 h0
    simp [go_sem, he]
    refine retFz 2 ho (keep1 _) ?_ ?_
    · simp [findV, hv, h0]; exact .inr ⟨imm_fz (by simp), Fz.same, trivial⟩
    · simp only [findV, hv, h0, Bool.true_eq_false, if_false, if_true]; rfl
  have he : s.toList ≠ [] := fun e => h0 ((ba_nil s).1 e)
  have hf := hf0 h0
  simp [go_sem, he]
  refine (pCnt s (by omega)).use ?_
  simp [go_sem, hset_at]
  refine PC.use (by simpa [Document.enc, Head.flat, Settings.flat] using c39 d D.hl D.hs hn) ?_
  simp [go_sem]
  have hHb : ∀ j y, h j = some y → j < n := fun j y e => (ho j y e).1
  have hlen : (idsOf d).length ≤ 1048576 := by simpa [idsOf] using hn
  refine goloop 1 (α := Nat × Option Nat) (fun a => [(1, .str s), (2, .iptr (dcs d)), (6, intE (cnt s)), (8, AccV 3 a.2 ((findTo d s a.1).map Rng.enc)), (33, .imm 1 ((idsOf d).map intE) false), (34, intE (idsOf d).length), (35, intE a.1)]) (fun a => AccH a.2 ((findTo d s a.1).map Rng.enc) h)
    (fun a m => a.1 ≤ (idsOf d).length ∧ n + 1 ≤ m ∧ AccI n m 3 a.2 ((findTo d s a.1).map Rng.enc)) (fun a => (idsOf d).length - a.1) (0, none) ?_ ?_ ?_ ?_
  · exact ⟨Nat.zero_le _, Nat.le_refl _, AccI.nil _ _ _⟩
  · intro p hp
    simp only [List.mem_cons, List.not_mem_nil, or_false] at hp
    rcases hp with rfl | rfl | rfl | rfl | rfl | rfl | rfl
    · exact Fz.same
    · exact ptr_fz (fz_none ho n (Nat.le_refl _)) (by simp [hset_at, Head.flat, Settings.flat])
    · exact Fz.same
    · exact Fz.same
    · exact Fz.same
    · simp [look, Fz.same]
    · exact Fz.same
  · exact keep1 _
  rintro ⟨k, o⟩ m ⟨hk, hm, hA⟩
  simp only at hk hm hA
  by_cases hlt : k < (idsOf d).length
  · have w1 : IntKind.i64.wrap ((k : Int) + 1) = ((k + 1 : Nat) : Int) := by rw [wr64] <;> omega
    obtain ⟨id, hid⟩ : ∃ id, (idsOf d)[k] = id := ⟨_, rfl⟩
    simp [go_sem, hlt, hid]
    refine PC.use (by simpa [Document.enc, Head.flat, Settings.flat] using cFlow D id) ?_
    simp [go_sem]
    refine (c23 (flowAt d id) (flowAt_ok D id).1 (by have := ht id; omega)).use ?_
    simp [go_sem]
    have hT : (textS (flowAt d id)).size = (textB (flowAt d id)).length := by simp [textS, ByteArray.size]
    have htid := ht id
    refine goloop 1 (α := FdS) (fun a => [(1, .str s), (2, .iptr (dcs d)), (6, intE (cnt s)), (8, AccV 3 a.o ((findTo d s k ++ a.done).map Rng.enc)), (10, intE id), (13, .str a.t), (14, intE a.a), (33, .imm 1 ((idsOf d).map intE) false), (34, intE (idsOf d).length), (35, intE k)]) (fun a => AccH a.o ((findTo d s k ++ a.done).map Rng.enc) h)
      (fun a m => n + 1 ≤ m ∧ AccI n m 3 a.o ((findTo d s k ++ a.done).map Rng.enc) ∧ 0 ≤ a.a ∧ a.a + a.t.size ≤ 536870912 ∧ ∃ f, a.t.size < f ∧ findIn d s id = a.done ++ findF s id f a.t a.a) (fun a => a.t.size) ⟨o, [], textS (flowAt d id), 0⟩ ?_ ?_ ?_ ?_
    · exact ⟨hm, by simpa using hA, Int.le_refl _, by simp only; omega, _, Nat.lt_succ_self _, rfl⟩
    · simp [look, Fz.same, textS]
    · simp
    rintro ⟨o2, dn, t, a⟩ m2 ⟨hm2, hA2, ha0, hat, f, hf1, hf2⟩
    simp only at hm2 hA2 ha0 hat hf1 hf2
    have htl : t.size < 4294967281 := by omega
    simp [go_sem]
    refine (g40 t s htl).use hI ?_
    unfold cutV
    by_cases hi : 0 ≤ idx t s
    · rw [if_pos hi]
      have hle := idx_le hi
      obtain ⟨f', rfl⟩ : ∃ f', f = f' + 1 := ⟨f - 1, by omega⟩
      rw [findF, if_pos hi] at hf2
      generalize hj : (idx t s).toNat = j at *
      have hb := cnt_le (t.extract 0 j)
      have hs2 := cnt_le s
      have hbs : (t.extract 0 j).size = j := by rw [ByteArray.size_extract]; omega
      have hts : (t.extract (j + s.size) t.size).size = t.size - (j + s.size) := by rw [ByteArray.size_extract]; omega
      rw [hbs] at hb
      simp [go_sem]
      refine (pCnt (t.extract 0 j) (by omega)).use ?_
      generalize hc : cnt (t.extract 0 j) = c at *
      have wa : IntKind.i64.wrap (a + c) = a + c := wr64 (by omega) (by omega)
      have wb : IntKind.i64.wrap (a + c + cnt s) = a + c + cnt s := wr64 (by omega) (by omega)
      simp [go_sem, wa, wb]
      have hA3 : AccI n m2 3 o2 (List.map Rng.enc (findTo d s k) ++ List.map Rng.enc dn) := by simpa using hA2
      have hroom : (findTo d s k).length + dn.length + 1 ≤ 1048576 := by
        have h1 := findTo_le d s (k + 1)
        rw [findTo_succ hlt, hid, hf2] at h1
        simp only [List.length_append, List.length_cons] at h1
        omega
      obtain ⟨r, hr⟩ : ∃ r : Rng, r = ⟨id, a + c, a + c + cnt s⟩ := ⟨_, rfl⟩
      have hre : [intE id, SV.int .i64 (a + c), SV.int .i64 (a + c + cnt s)] = r.enc.cells := by rw [hr]; rfl
      rw [hre]
      rw [app1g (es := List.map Rng.enc (findTo d s k) ++ List.map Rng.enc dn) (e := r.enc) (o := o2) (t := 39) (t2 := 39) (el := 53) (z := 3) (by simp [go_sem]) (by simp [go_sem]) (by simp [go_sem]) (by simp) (by simp [go_sem]) (by simp [go_sem]) (by simp [go_sem]) (by simp; omega) hA3 rfl ?a1 ?a2]
      case a1 => simp [hset_at]
      case a2 =>
        intro i e
        have := (hA3.lt i e).2
        rw [hset_ne _ _ (by omega)]; exact acc_at i e
      have hpush := hA3.push (j := m2 + 1) (m' := m2 + 1 + 1) (e := r.enc) rfl rfl (by omega) (by omega)
      have hlive := acc_live' (p := m2 + 1) (v := .sl (m2 + 1) 0 3 ((List.map Rng.enc (findTo d s k) ++ List.map Rng.enc dn).length + 1) false) (e := r.enc) hHb (by omega) hA3 (H := hset (AccH o2 (List.map Rng.enc (findTo d s k) ++ List.map Rng.enc dn) h) m2 (some (.cells r.enc.cells))) (set_keep (fun j z e => by have := hHb j z e; omega) (acc_old hHb hA3))
      have hvv : AccV 3 (some (m2 + 1)) (List.map Rng.enc (findTo d s k) ++ List.map Rng.enc dn ++ [r.enc]) = .sl (m2 + 1) 0 3 ((findTo d s k).length + dn.length + 1) false := by simp [AccV]; omega
      have hes : List.map Rng.enc (findTo d s k) ++ List.map Rng.enc (dn ++ [r]) = List.map Rng.enc (findTo d s k) ++ List.map Rng.enc dn ++ [r.enc] := by simp
      simp [go_sem]
      refine ⟨⟨some (m2 + 1), dn ++ [r], t.extract (j + s.size) t.size, a + c + cnt s⟩, by simp only; rw [hts]; omega, ⟨by omega, by rw [hes]; exact hpush, by simp only; omega, by simp only; rw [hts]; omega, f', by simp only; rw [hts]; omega, by rw [hf2, hr]; simp⟩, ?_, ?_⟩
      · simp only
        rw [hes, hvv]
        exact ⟨Fz.same, Fz.same, Fz.same⟩
      · simp only
        rw [hes]
        simpa [Out.app, SV.cells] using hlive
    · rw [if_neg hi]
      rw [findF_stop f hi, List.append_nil] at hf2
      simp [go_sem, w1, -Int.natCast_add]
      have hst : findTo d s (k + 1) = findTo d s k ++ dn := by rw [findTo_succ hlt, hid, hf2]
      exact ⟨k + 1, by omega, o2, ⟨by omega, hm2, by rw [hst]; exact hA2⟩, ⟨by rw [hst, List.map_append]; exact Fz.same, Fz.same⟩, by rw [hst, List.map_append]; exact look_same⟩
  · have hke : k = (idsOf d).length := by omega
    subst hke
    have hall : findTo d s (idsOf d).length = findAll d s := by unfold findTo findAll; rw [List.take_length]
    rw [hall] at hA ⊢
    have hL : lenS (AccV 3 o ((findAll d s).map Rng.enc)) = some (findAll d s).length := by
      cases o with
      | none => have := hA.none rfl; simp only [List.map_eq_nil_iff] at this; rw [this]; rfl
      | some q => simp [AccV, lenS]
    have fin : ∀ m', RetS n (AccH o ((findAll d s).map Rng.enc) h) m' (.tup [AccV 3 o ((findAll d s).map Rng.enc), intE 0]) (Is (.tup [rngsE (findAll d s), intE 0]) h n) := fun m' =>
      retFz 2 ho (AccH.old ho hA) (.inr ⟨AccV.fz ho hA look_same, Fz.same, trivial⟩) (by
        simp only [closed, closedL, Bool.and_true]
        exact closedL_iff.2 fun e he => by obtain ⟨r, _, rfl⟩ := List.mem_map.1 he; rfl)
    have fin9 : ∀ m', RetS n (AccH o ((findAll d s).map Rng.enc) h) m' (.tup [.imm 0 [] true, intE 9]) (Is (.tup [rngsE [], intE 9]) h n) := fun m' =>
      retFz 2 ho (AccH.old ho hA) (.inr ⟨imm_fz (by simp), Fz.same, trivial⟩) rfl
    have hfv : findV d s = if 1024 < (findAll d s).length then .tup [rngsE [], intE 9] else .tup [rngsE (findAll d s), intE 0] := by
      unfold findV; rw [if_neg (by simp [hv]), if_neg h0]
    rw [hfv]
    generalize hV : AccV 3 o ((findAll d s).map Rng.enc) = X at hL fin ⊢
    clear hfv
    by_cases hbig : 1024 < (findAll d s).length
    · have hbig' : (1024 : Int) < (findAll d s).length := by omega
      rw [if_pos hbig]
      cases o with
      | none =>
        simp only [AccV] at hV; subst hV
        simp only [lenS, List.length_nil, Option.some.injEq] at hL
        omega
      | some q =>
        simp only [AccV, List.length_map] at hV; subst hV
        simp [go_sem, hbig']
        exact fin9 _
    · have hbig' : ¬ (1024 : Int) < (findAll d s).length := by omega
      rw [if_neg hbig]
      cases o with
      | none =>
        simp only [AccV] at hV; subst hV
        simp [go_sem]
        exact fin _
      | some q =>
        simp only [AccV, List.length_map] at hV; subst hV
        simp [go_sem, hbig']
        exact fin _
theorem app_rngs {X : Hp} {n m : Nat} {o : Option Nat} {es : List SV} (H : AccI n m 3 o es) (hX : ∀ j, o = some j → X j = some (.cells (es.flatMap SV.cells))) (xs : List Rng) (hroom : es.length + xs.length ≤ 1073741824) (p : Nat) :
    (xs = [] ∧ builtinS Tryz.prog X p .append [39, 39] [AccV 3 o es, rngsE xs] = some { val := AccV 3 o es }) ∨
    (xs ≠ [] ∧ builtinS Tryz.prog X p .append [39, 39] [AccV 3 o es, rngsE xs] = some { val := .sl p 0 3 (es.length + xs.length) false, upd := o.map fun j => (j, none), new := some (.cells (es.flatMap SV.cells ++ (xs.map Rng.enc).flatMap SV.cells)) }) := by
  have e1 : tslice Tryz.prog 39 = some 53 := by simp [go_sem]
  have e2 : tsz Tryz.prog 53 = 3 := by simp [go_sem]
  have e3 : (tzero Tryz.prog 53).storable = true := by simp [go_sem]
  have e4 : (tzero Tryz.prog 53).cells.length = 3 := by simp [go_sem]
  have e5 : tbytes Tryz.prog 53 ≤ 65536 := by simp [go_sem]
  have e6 : rowT 53 = none := by rfl
  by_cases hx : xs = []
  · subst hx
    refine .inl ⟨rfl, ?_⟩
    simp only [builtinS, e1, Option.isSome_some, if_true, appendS, e2, e3, e4]
    cases o <;> simp [AccV, zOk, lenS, flat, yes]
  · refine .inr ⟨hx, ?_⟩
    have hxl : xs.length ≠ 0 := by cases xs <;> simp at hx ⊢
    have hr : roomy (es.length + xs.length) (tbytes Tryz.prog 53) = true := by simp only [roomy, Bool.and_eq_true, decide_eq_true_eq]; exact ⟨by omega, e5⟩
    simp only [builtinS, e1, Option.isSome_some, if_true, appendS, e2, e3, e4]
    cases o with
    | none =>
      have he := H.none rfl
      subst he
      simp only [List.length_nil, Nat.zero_add] at hr
      simp [AccV, zOk, lenS, flat, hxl, hr, e6]
    | some j =>
      have hj := hX j rfl
      have hl := flat_len H.size
      simp [AccV, zOk, lenS, flat, hj, hxl, hr, tyApp_none e6, takeN, hl]
      rw [List.take_of_length_le (by omega)]
theorem app_rngs_live {h X : Hp} {n m p : Nat} {o : Option Nat} {es : List SV} (hb : ∀ j y, h j = some y → j < n) (hnm : n ≤ m) (H : AccI n m 3 o es) (hm : m ≤ p) (hX : ∀ j y, AccH o es h j = some y → X j = some y) (xs : List Rng) (hroom : es.length + xs.length ≤ 1073741824) :
    ∃ out, builtinS Tryz.prog X p .append [39, 39] [AccV 3 o es, rngsE xs] = some out ∧ ∃ o', AccI n (if out.new.isSome = true then p + 1 else p) 3 o' (es ++ xs.map Rng.enc) ∧ out.val = AccV 3 o' (es ++ xs.map Rng.enc) ∧ (es ++ xs.map Rng.enc = [] → (es = [] → o = none) → o' = none) ∧ ∀ j y, AccH o' (es ++ xs.map Rng.enc) h j = some y → (Out.app X p out) j = some y := by
  have hX1 : ∀ j, o = some j → X j = some (.cells (es.flatMap SV.cells)) := fun j e => hX j _ (acc_at j e)
  have hX2 : ∀ j y, h j = some y → X j = some y := fun j y e => hX j y (acc_old hb H j y e)
  rcases app_rngs H hX1 xs hroom p with ⟨rfl, e⟩ | ⟨hne, e⟩
  · exact ⟨_, e, o, by simpa using H.mono hm, by simp, fun g k => k (by simpa using g), fun j y e => by simp at e; simpa [Out.app] using hX j y e⟩
  · refine ⟨_, e, some p, ⟨by simp, fun j e => by cases e; simp; omega, fun e he => ?_⟩, by simp [AccV], fun g => by simp [hne] at g, fun j y e => ?_⟩
    · rcases List.mem_append.1 he with he | he
      · exact H.size e he
      · exact rngs_sz xs e he
    · simp only [AccH, List.flatMap_append] at e
      by_cases e1 : j = p
      · subst e1
        rw [hset_at] at e
        simp only [Out.app, hset_at]; exact e
      · rw [hset_ne _ _ e1] at e
        have h1 := hb j y e
        have h2 := hX2 j y e
        cases o with
        | none => simp [Out.app, hset_ne _ _ e1, h2]
        | some q =>
          have h3 := (H.lt q rfl).1
          simp [Out.app, hset_ne _ _ e1, hset_ne _ _ (show j ≠ q by omega), h2]
set_option maxHeartbeats 8000000 in
theorem c17 (d : Document) (s : ByteArray) (F : Int → List Rng) (D : Dsz d) (hn : (docFlows d).length ≤ 1048576) (hF : ∀ id, PC 42 [itemsE (flowAt d id), intE id, .str s] (rngsE (F id))) (hf : ((idsOf d).flatMap F).length ≤ 1048576) : PC 17 [d.enc, .str s] (rngsE ((idsOf d).flatMap F)) := by
  intro h n
  refine go Tryz.func17 rfl (by kernel_rfl) (by kernel_rfl) (by simp [go_sem]) fun ho => ?_
  have keep1 : ∀ (a : Option SObj), ∀ o y, h o = some y → hset h n a o = some y := fun a => hset_old ho (Nat.le_refl _) look_same
  simp [go_sem, Document.enc, Head.flat, Settings.flat, hset_at]
  refine PC.use (by simpa [Document.enc, Head.flat, Settings.flat] using c39 d D.hl D.hs hn) ?_
  simp [go_sem]
  have hHb : ∀ j y, h j = some y → j < n := fun j y e => (ho j y e).1
  have hlen : (idsOf d).length ≤ 1048576 := by simpa [idsOf] using hn
  let R : Nat → List Rng := fun k => ((idsOf d).take k).flatMap F
  have hRs : ∀ (k : Nat) (hk : k < (idsOf d).length), R (k + 1) = R k ++ F (idsOf d)[k] := fun k hk => by
    simp only [R]; rw [List.take_succ_eq_append_getElem hk, List.flatMap_append]; simp
  have hRl : R (idsOf d).length = (idsOf d).flatMap F := by simp only [R]; rw [List.take_length]
  have hRle : ∀ k, (R k).length ≤ 1048576 := fun k => by
    have : (idsOf d).flatMap F = R k ++ ((idsOf d).drop k).flatMap F := by simp only [R]; rw [← List.flatMap_append, List.take_append_drop]
    rw [this, List.length_append] at hf; omega
  have hR0 : R 0 = [] := rfl
  clear_value R
  refine goloop 1 (α := Nat × Option Nat) (fun a => [(1, .str s), (2, .iptr (dcs d)), (5, AccV 3 a.2 ((R a.1).map Rng.enc)), (6, .imm 1 ((idsOf d).map intE) false), (7, intE a.1)]) (fun a => AccH a.2 ((R a.1).map Rng.enc) h)
    (fun a m => a.1 ≤ (idsOf d).length ∧ n + 1 ≤ m ∧ AccI n m 3 a.2 ((R a.1).map Rng.enc)) (fun a => (idsOf d).length - a.1) (0, none) ?_ ?_ ?_ ?_
  · exact ⟨Nat.zero_le _, Nat.le_refl _, by rw [hR0]; exact AccI.nil _ _ _⟩
  · intro p hp
    simp only [List.mem_cons, List.not_mem_nil, or_false] at hp
    rcases hp with rfl | rfl | rfl | rfl | rfl
    · exact Fz.same
    · exact ptr_fz (fz_none ho n (Nat.le_refl _)) (by simp [hset_at, Head.flat, Settings.flat])
    · simp only [hR0]; exact Fz.same
    · exact Fz.same
    · exact Fz.same
  · simp only [hR0]; exact keep1 _
  rintro ⟨k, o⟩ m ⟨hk, hm, hA⟩
  simp only at hk hm hA
  by_cases hlt : k < (idsOf d).length
  · have w1 : IntKind.i64.wrap ((k : Int) + 1) = ((k + 1 : Nat) : Int) := by rw [wr64] <;> omega
    obtain ⟨id, hid⟩ : ∃ id, (idsOf d)[k] = id := ⟨_, rfl⟩
    simp [go_sem, hlt, hid, Head.flat, Settings.flat]
    repeat first | refine nd (by kernel_rfl) ?_ | refine sd (by kernel_rfl) ?_
    refine CallD.pure _ _ _ _ _ _ (by simpa [Document.enc, Head.flat, Settings.flat] using cFlow D id) ?_
    simp [go_sem]
    repeat first | refine nd (by kernel_rfl) ?_ | refine sd (by kernel_rfl) ?_
    simp [go_sem, hlt, hid]
    refine (hF id).use ?_
    simp [go_sem]
    have hroom : (List.map Rng.enc (R k)).length + (F id).length ≤ 1073741824 := by
      have := hRle (k + 1)
      rw [hRs k hlt, hid, List.length_append] at this
      rw [List.length_map]; omega
    obtain ⟨out, hout, o', hA', hval, hinc⟩ := app_rngs_live (p := m) hHb (by omega) hA (Nat.le_refl _) (fun j y e => e) (F id) hroom
    have hRk : List.map Rng.enc (R k) ++ List.map Rng.enc (F id) = List.map Rng.enc (R (k + 1)) := by rw [hRs k hlt, hid, List.map_append]
    rw [hRk] at hA' hval hinc
    rw [hout]
    simp [go_sem, hval, w1, -Int.natCast_add]
    refine ⟨k + 1, by omega, o', ⟨by omega, by split <;> omega, hA'⟩, ⟨Fz.same, Fz.same⟩, ?_⟩
    simpa [Out.app] using hinc.2
  · have hke : k = (idsOf d).length := by omega
    subst hke
    rw [hRl] at hA ⊢
    simp [go_sem]
    exact ret_acc ho hA look_same rfl fun e he => by obtain ⟨r, _, rfl⟩ := List.mem_map.1 he; rfl
inductive Cps (s : ByteArray) : Nat → Nat → Prop where
  | nil (a : Nat) : Cps s a a
  | cons {a b : Nat} (h1 : a < s.size) (h2 : (cpDecode s a).2 = true) (h3 : Cps s (a + (cpDecode s a).1) b) : Cps s a b
theorem cpMore_in (s : ByteArray) (a n : Nat) : ∀ (f : Nat) (lo hi : Int) (k : Nat), (cpMore s a n f lo hi k).2 = true → (cpMore s a n f lo hi k).1 = k + f ∧
    ∀ j, k ≤ j → j < k + f → a + j < s.size ∧ (if j = k then lo else 128) ≤ byteAt s (a + j) ∧ byteAt s (a + j) ≤ if j = k then hi else 191
  | 0, _, _, k, _ => by rw [cpMore]; exact ⟨rfl, fun j h1 h2 => by omega⟩
  | f + 1, lo, hi, k, h => by
    rw [cpMore] at h ⊢
    split at h
    · cases h
    · rename_i hc
      rw [if_neg hc]
      obtain ⟨h1, h2⟩ := cpMore_in s a n f 128 191 (k + 1) h
      refine ⟨by omega, fun j j1 j2 => ?_⟩
      by_cases e : j = k
      · subst e; rw [if_pos rfl, if_pos rfl]; omega
      · have := h2 j (by omega) (by omega)
        rw [if_neg e, if_neg e]
        split at this <;> omega
theorem cpMore_same {s t : ByteArray} {a a' : Nat} (n n' : Nat) : ∀ (f : Nat) (lo hi : Int) (k : Nat), (∀ j, k ≤ j → j < k + f → byteAt t (a' + j) = byteAt s (a + j) ∧ a' + j < t.size) → (cpMore s a n f lo hi k).2 = true → cpMore t a' n' f lo hi k = cpMore s a n f lo hi k
  | 0, _, _, k, _, _ => by rw [cpMore, cpMore]
  | f + 1, lo, hi, k, h, hs => by
    rw [cpMore] at hs ⊢
    rw [cpMore.eq_2 s]
    split at hs
    · cases hs
    · rename_i hc
      obtain ⟨h1, h2⟩ := h k (Nat.le_refl _) (by omega)
      rw [if_neg hc, if_neg (by rw [h1]; omega)]
      exact cpMore_same n n' f 128 191 (k + 1) (fun j j1 j2 => h j (by omega) (by omega)) hs
theorem cpDec_in {s : ByteArray} {a : Nat} (ha : a < s.size) (h : (cpDecode s a).2 = true) : cpSize (byteAt s a) = (cpDecode s a).1 ∧ 1 ≤ (cpDecode s a).1 ∧ a + (cpDecode s a).1 ≤ s.size ∧ ∀ j, 1 ≤ j → j < (cpDecode s a).1 → 128 ≤ byteAt s (a + j) ∧ byteAt s (a + j) ≤ 191 := by
  obtain ⟨z0, z1⟩ := cpSize_le (byteAt s a)
  simp only [cpDecode] at h ⊢
  split at h
  · cases h
  · rename_i c0
    rw [if_neg c0]
    split at h
    · rename_i c1
      rw [if_pos c1]
      exact ⟨c1, Nat.le_refl _, by show a + 1 ≤ _; omega, fun j j1 j2 => by dsimp only at j2; omega⟩
    · rename_i c1
      rw [if_neg c1]
      obtain ⟨h1, h2⟩ := cpMore_in s a _ _ _ _ 1 h
      rw [h1]
      refine ⟨by omega, by omega, ?_, fun j j1 j2 => ?_⟩
      · have := h2 ((cpSize (byteAt s a)).toNat - 1) (by omega) (by omega)
        omega
      · have := h2 j j1 j2
        have l1 : 128 ≤ cpLow (byteAt s a) ∧ cpHigh (byteAt s a) ≤ 191 := by unfold cpLow cpHigh; constructor <;> (repeat' split) <;> omega
        split at this <;> omega
theorem cpDec_same {s t : ByteArray} {a a' : Nat} (ha : a < s.size) (hd : (cpDecode s a).2 = true) (h : ∀ j, j < (cpDecode s a).1 → byteAt t (a' + j) = byteAt s (a + j) ∧ a' + j < t.size) : cpDecode t a' = cpDecode s a := by
  obtain ⟨i1, i2, _, _⟩ := cpDec_in ha hd
  have h0 := (h 0 (by omega)).1
  simp only [Nat.add_zero] at h0
  have hk : ∀ j, j < (cpSize (byteAt s a)).toNat → byteAt t (a' + j) = byteAt s (a + j) ∧ a' + j < t.size := fun j hj => h j (by omega)
  clear h i1 i2
  simp only [cpDecode] at hd ⊢
  rw [h0]
  split
  · rfl
  · rename_i c0
    rw [if_neg c0] at hd
    split
    · rfl
    · rename_i c1
      rw [if_neg c1] at hd
      exact cpMore_same _ _ _ _ _ 1 (fun j j1 j2 => hk j (by omega)) hd
theorem Cps.le {s : ByteArray} {a b : Nat} (H : Cps s a b) : a ≤ b := by
  induction H with
  | nil => exact Nat.le_refl _
  | cons h1 h2 _ ih => omega
theorem Cps.trans {s : ByteArray} {a b c : Nat} (H : Cps s a b) (H2 : Cps s b c) : Cps s a c := by
  induction H with
  | nil => exact H2
  | cons h1 h2 _ ih => exact .cons h1 h2 (ih H2)
theorem Cps.map {s t : ByteArray} {a b : Nat} (H : Cps s a b) : ∀ {a' : Nat}, (∀ p, a ≤ p → p < b → byteAt t (a' + (p - a)) = byteAt s p) → a' + (b - a) ≤ t.size → Cps t a' (a' + (b - a)) := by
  induction H with
  | nil a => intro a' _ _; rw [Nat.sub_self, Nat.add_zero]; exact .nil _
  | @cons a b h1 h2 h3 ih =>
    intro a' hb hs
    have hle := h3.le
    obtain ⟨i1, i2, i3, i4⟩ := cpDec_in h1 h2
    have e := cpDec_same (t := t) (a' := a') h1 h2 fun j hj => ⟨by have := hb (a + j) (by omega) (by omega); rwa [Nat.add_sub_cancel_left] at this, by omega⟩
    refine .cons (by omega) (by rw [e]; exact h2) ?_
    rw [e]
    have := ih (a' := a' + (cpDecode s a).1) (fun p p1 p2 => by have := hb p (by omega) p2; rw [← this]; congr 1; omega) (by omega)
    rw [show a' + (cpDecode s a).1 + (b - (a + (cpDecode s a).1)) = a' + (b - a) by omega] at this
    exact this
theorem Cps.first {s : ByteArray} {a b : Nat} (H : Cps s a b) (hb : b = s.size) : cpFirst s a < 0 := by
  induction H with
  | nil a => rw [cpFirst, dif_neg (by omega)]; decide
  | cons h1 h2 _ ih => rw [cpFirst, dif_pos h1, dif_pos h2]; exact ih hb
theorem Cps.of {s : ByteArray} : ∀ (n a : Nat), s.size - a ≤ n → a ≤ s.size → cpFirst s a < 0 → Cps s a s.size
  | n, a, hn, ha, h => by
    rw [cpFirst] at h
    split at h
    · rename_i h1
      split at h
      · rename_i h2
        obtain ⟨i1, i2, i3, i4⟩ := cpDec_in h1 h2
        cases n with
        | zero => omega
        | succ n => exact .cons h1 h2 (Cps.of n _ (by omega) i3 h)
      · omega
    · have : a = s.size := by omega
      rw [this]; exact .nil _
theorem cpValid_iff {s : ByteArray} : cpValid s = true ↔ Cps s 0 s.size := by
  simp only [cpValid, decide_eq_true_eq]
  exact ⟨fun h => Cps.of _ 0 (Nat.le_refl _) (Nat.zero_le _) h, fun h => h.first rfl⟩
theorem head_tab : (List.range 256).all (fun b => if 128 ≤ b ∧ b ≤ 191 then !cpHead b else (cpSize b == 0 || cpHead b)) = true := by kernel_rfl
theorem byteAt_range (s : ByteArray) (i : Nat) : 0 ≤ byteAt s i ∧ byteAt s i < 256 := by
  unfold byteAt
  split
  · rename_i b _; have := b.toNat_lt; omega
  · omega
theorem head_of (b : Int) (h0 : 0 ≤ b) (h1 : b < 256) : if 128 ≤ b ∧ b ≤ 191 then cpHead b = false else (cpSize b ≠ 0 → cpHead b = true) := by
  have := List.all_eq_true.1 head_tab b.toNat (by rw [List.mem_range]; omega)
  have e : ((b.toNat : Nat) : Int) = b := by omega
  rw [e] at this
  by_cases c : 128 ≤ b ∧ b ≤ 191
  · rw [if_pos c]
    rw [if_pos (by omega)] at this
    simpa using this
  · rw [if_neg c]
    rw [if_neg (by omega)] at this
    simp only [Bool.or_eq_true, beq_iff_eq] at this
    exact fun hz => this.resolve_left hz
def cpBound (s : ByteArray) (o : Nat) : Prop := o = s.size ∨ cpHead (byteAt s o) = true
theorem Cps.cut {s : ByteArray} {a b : Nat} (H : Cps s a b) (hb : b = s.size) : ∀ o, a ≤ o → o ≤ b → cpBound s o → Cps s a o ∧ Cps s o b := by
  induction H with
  | nil a => intro o h1 h2 _; have : o = a := by omega
             rw [this]; exact ⟨.nil _, .nil _⟩
  | @cons a b h1 h2 h3 ih =>
    intro o o1 o2 ho
    by_cases e : o = a
    · rw [e]; exact ⟨.nil _, .cons h1 h2 h3⟩
    obtain ⟨i1, i2, i3, i4⟩ := cpDec_in h1 h2
    have : a + (cpDecode s a).1 ≤ o := by
      rcases Nat.lt_or_ge o (a + (cpDecode s a).1) with hlt | hge
      · exfalso
        have hc := i4 (o - a) (by omega) (by omega)
        rw [show a + (o - a) = o by omega] at hc
        obtain ⟨r1, r2⟩ := byteAt_range s o
        have hh := head_of _ r1 r2
        rw [if_pos hc] at hh
        rcases ho with ho | ho
        · omega
        · rw [hh] at ho; cases ho
      · exact hge
    obtain ⟨k1, k2⟩ := ih hb o this o2 ho
    exact ⟨.cons h1 h2 k1, k2⟩
theorem byteAt_data (s : ByteArray) (i : Nat) : byteAt s i = match s.data[i]? with | some b => (b.toNat : Int) | none => 0 := by
  rcases Nat.lt_or_ge i s.size with h | h
  · obtain ⟨e1, e2⟩ := byteAt_lt h
    rw [e2, Array.getElem?_eq_getElem (show i < s.data.size from h)]
    rfl
  · have h1 : s.data[i]? = none := Array.getElem?_eq_none h
    rw [h1]
    unfold byteAt
    split
    · rename_i b e
      exfalso
      simp only [getElem?_def] at e
      split at e
      · rename_i h2; exact absurd h2 (by show ¬ i < s.size; omega)
      · cases e
    · rfl
theorem byteAt_extract (s : ByteArray) (i j p : Nat) (h1 : p < j - i) (h2 : j ≤ s.size) : byteAt (s.extract i j) p = byteAt s (i + p) := by
  rw [byteAt_data, byteAt_data, ByteArray.data_extract, Array.getElem?_extract_of_lt (by show p < min j s.data.size - i; have : s.data.size = s.size := rfl; omega), Array.getElem?_eq_getElem (show i + p < s.data.size by have : s.data.size = s.size := rfl; omega)]
theorem size_extract (s : ByteArray) (i j : Nat) (h2 : j ≤ s.size) : (s.extract i j).size = j - i := by
  rw [ByteArray.size_extract]; omega
theorem byteAt_app1 (s t : ByteArray) (p : Nat) (h : p < s.size) : byteAt (s ++ t) p = byteAt s p := by
  rw [byteAt_data, byteAt_data, ByteArray.data_append, Array.getElem?_append_left h]
theorem byteAt_app2 (s t : ByteArray) (p : Nat) : byteAt (s ++ t) (s.size + p) = byteAt t p := by
  rw [byteAt_data, byteAt_data, ByteArray.data_append, Array.getElem?_append_right (by show s.size ≤ s.size + p; omega)]
  rw [show s.size + p - s.data.size = p by have : s.data.size = s.size := rfl; omega]
theorem cpHeads_same (s t : ByteArray) (i : Nat) : ∀ k, (∀ p, p < k → byteAt t p = byteAt s (i + p)) → cpHeads s (i + k) = cpHeads s i + cpHeads t k
  | 0, _ => by simp [cpHeads]
  | k + 1, h => by
    rw [← Nat.add_assoc, cpHeads, cpHeads, cpHeads_same s t i k fun p hp => h p (by omega), h k (by omega)]
    omega
theorem cpValid_app {s t : ByteArray} (hs : cpValid s = true) (ht : cpValid t = true) : cpValid (s ++ t) = true := by
  rw [cpValid_iff] at hs ht ⊢
  have h1 := hs.map (t := s ++ t) (a' := 0) (fun p _ hp => by rw [Nat.zero_add, Nat.sub_zero]; exact byteAt_app1 s t p hp) (by rw [ByteArray.size_append]; omega)
  have h2 := ht.map (t := s ++ t) (a' := s.size) (fun p _ hp => by rw [Nat.sub_zero]; exact byteAt_app2 s t p) (by rw [ByteArray.size_append]; omega)
  rw [Nat.sub_zero, Nat.zero_add] at h1
  rw [Nat.sub_zero, ← ByteArray.size_append] at h2
  exact h1.trans h2
theorem get_byte {s : ByteArray} {i : Nat} (h : i < s.size) : ((s.get! i).toNat : Int) = byteAt s i := by
  obtain ⟨_, e⟩ := byteAt_lt h
  rw [e]
  have : s.get! i = s[i] := by
    show s.data[i]! = s.data[i]
    rw [getElem!_pos s.data i h]
  rw [this]
def decN (s : ByteArray) (a : Nat) : Nat → Nat
  | 1 => (byteAt s a).toNat
  | 2 => ((byteAt s a).toNat % 32) * 64 + (byteAt s (a + 1)).toNat % 64
  | 3 => ((byteAt s a).toNat % 16) * 4096 + ((byteAt s (a + 1)).toNat % 64) * 64 + (byteAt s (a + 2)).toNat % 64
  | _ => ((byteAt s a).toNat % 8) * 262144 + ((byteAt s (a + 1)).toNat % 64) * 4096 + ((byteAt s (a + 2)).toNat % 64) * 64 + (byteAt s (a + 3)).toNat % 64
theorem cpDec_lo {s : ByteArray} {a : Nat} (h : (cpDecode s a).2 = true) (hw : 2 ≤ (cpDecode s a).1) : cpLow (byteAt s a) ≤ byteAt s (a + 1) ∧ byteAt s (a + 1) ≤ cpHigh (byteAt s a) := by
  obtain ⟨z0, z1⟩ := cpSize_le (byteAt s a)
  simp only [cpDecode] at h hw
  split at h
  · cases h
  · rename_i c0
    rw [if_neg c0] at hw
    split at h
    · rename_i c1
      rw [if_pos c1] at hw; omega
    · rename_i c1
      rw [if_neg c1] at hw
      obtain ⟨h1, h2⟩ := cpMore_in s a _ _ _ _ 1 h
      have := h2 1 (Nat.le_refl _) (by omega)
      simpa using this.2
theorem dec_valid {s : ByteArray} {a : Nat} (ha : a < s.size) (h : (cpDecode s a).2 = true) : Utf8.decode s a = (decN s a (cpDecode s a).1, (cpDecode s a).1) := by
  obtain ⟨z, w1, w2, w3⟩ := cpDec_in ha h
  have hlo := cpDec_lo h
  have hle := cpDecode_le s a
  generalize (cpDecode s a).1 = w at *
  have gb : ∀ k, k < w → (s.get! (a + k)).toNat = (byteAt s (a + k)).toNat := fun k hk => by
    have := get_byte (s := s) (i := a + k) (by omega)
    omega
  have r0 := byteAt_range s a
  have g0 := gb 0 (by omega)
  simp only [Nat.add_zero] at g0
  obtain ⟨b0, hb0⟩ : ∃ b : Nat, byteAt s a = b := ⟨(byteAt s a).toNat, by omega⟩
  have hcase : w = 1 ∨ w = 2 ∨ w = 3 ∨ w = 4 := by omega
  rcases hcase with rfl | rfl | rfl | rfl
  · have : b0 < 128 := by rw [hb0] at z; unfold cpSize at z; repeat' split at z <;> omega
    simp [Utf8.decode, g0, hb0, this, decN]
  · have g1 := gb 1 (by omega)
    obtain ⟨b1, hb1⟩ : ∃ b : Nat, byteAt s (a + 1) = b := ⟨(byteAt s (a + 1)).toNat, by have := byteAt_range s (a + 1); omega⟩
    have c1 := w3 1 (by omega) (by omega)
    rw [hb1] at c1
    have : 194 ≤ b0 ∧ b0 < 224 := by rw [hb0] at z; unfold cpSize at z; repeat' split at z <;> omega
    simp [Utf8.decode, g0, g1, hb0, hb1, decN, show ¬ b0 < 128 by omega, show b0 / 32 = 6 by omega, show b1 / 64 = 2 by omega, show a + 1 < s.size by omega]
    omega
  · have g1 := gb 1 (by omega)
    have g2 := gb 2 (by omega)
    obtain ⟨b1, hb1⟩ : ∃ b : Nat, byteAt s (a + 1) = b := ⟨(byteAt s (a + 1)).toNat, by have := byteAt_range s (a + 1); omega⟩
    obtain ⟨b2, hb2⟩ : ∃ b : Nat, byteAt s (a + 2) = b := ⟨(byteAt s (a + 2)).toNat, by have := byteAt_range s (a + 2); omega⟩
    have c1 := w3 1 (by omega) (by omega)
    have c2 := w3 2 (by omega) (by omega)
    have lo := hlo (by omega)
    rw [hb1] at c1
    rw [hb2] at c2
    rw [hb0, hb1] at lo
    have hr : 224 ≤ b0 ∧ b0 < 240 := by rw [hb0] at z; unfold cpSize at z; repeat' split at z <;> omega
    have l1 : b0 = 224 → 160 ≤ b1 := fun e => by subst e; simp [cpLow] at lo; omega
    have l2 : b0 = 237 → b1 ≤ 159 := fun e => by subst e; simp [cpHigh] at lo; omega
    have hv : Utf8.valid (((b0 % 16) * 4096 + (b1 % 64) * 64 + b2 % 64 : Nat) : Int) = true := by
      simp only [Utf8.valid, Bool.or_eq_true, Bool.and_eq_true, decide_eq_true_eq]
      omega
    have hge : 2048 ≤ (b0 % 16) * 4096 + (b1 % 64) * 64 + b2 % 64 := by omega
    simp only [Utf8.decode, Nat.add_zero, g0, g1, g2, hb0, hb1, hb2, decN, Int.toNat_natCast]
    rw [if_neg (by omega), if_neg (by simp; omega), if_pos (by simp; omega), if_pos (by rw [hv]; simpa using hge)]
  · have g1 := gb 1 (by omega)
    have g2 := gb 2 (by omega)
    have g3 := gb 3 (by omega)
    obtain ⟨b1, hb1⟩ : ∃ b : Nat, byteAt s (a + 1) = b := ⟨(byteAt s (a + 1)).toNat, by have := byteAt_range s (a + 1); omega⟩
    obtain ⟨b2, hb2⟩ : ∃ b : Nat, byteAt s (a + 2) = b := ⟨(byteAt s (a + 2)).toNat, by have := byteAt_range s (a + 2); omega⟩
    obtain ⟨b3, hb3⟩ : ∃ b : Nat, byteAt s (a + 3) = b := ⟨(byteAt s (a + 3)).toNat, by have := byteAt_range s (a + 3); omega⟩
    have c1 := w3 1 (by omega) (by omega)
    have c2 := w3 2 (by omega) (by omega)
    have c3 := w3 3 (by omega) (by omega)
    have lo := hlo (by omega)
    rw [hb1] at c1
    rw [hb2] at c2
    rw [hb3] at c3
    rw [hb0, hb1] at lo
    have hr : 240 ≤ b0 ∧ b0 ≤ 244 := by rw [hb0] at z; unfold cpSize at z; repeat' split at z <;> omega
    have l1 : b0 = 240 → 144 ≤ b1 := fun e => by subst e; simp [cpLow] at lo; omega
    have l2 : b0 = 244 → b1 ≤ 143 := fun e => by subst e; simp [cpHigh] at lo; omega
    have hv : Utf8.valid (((b0 % 8) * 262144 + (b1 % 64) * 4096 + (b2 % 64) * 64 + b3 % 64 : Nat) : Int) = true := by
      simp only [Utf8.valid, Bool.or_eq_true, Bool.and_eq_true, decide_eq_true_eq]
      omega
    have hge : 65536 ≤ (b0 % 8) * 262144 + (b1 % 64) * 4096 + (b2 % 64) * 64 + b3 % 64 := by omega
    simp only [Utf8.decode, Nat.add_zero, g0, g1, g2, g3, hb0, hb1, hb2, hb3, decN, Int.toNat_natCast]
    rw [if_neg (by omega), if_neg (by simp; omega), if_neg (by simp; omega), if_pos (by simp; omega), if_pos (by rw [hv]; simpa using hge)]
theorem dec_parts {s : ByteArray} {a : Nat} (ha : a < s.size) (h : (cpDecode s a).2 = true) :
    ((cpDecode s a).1 = 1 ∧ 0 ≤ byteAt s a ∧ byteAt s a < 128 ∧ ((Utf8.decode s a).1 : Int) = byteAt s a) ∨
    ((cpDecode s a).1 = 2 ∧ 194 ≤ byteAt s a ∧ byteAt s a < 224 ∧ 128 ≤ byteAt s (a + 1) ∧ byteAt s (a + 1) ≤ 191 ∧ ((Utf8.decode s a).1 : Int) = (byteAt s a - 192) * 64 + (byteAt s (a + 1) - 128)) ∨
    ((cpDecode s a).1 = 3 ∧ 224 ≤ byteAt s a ∧ byteAt s a < 240 ∧ 128 ≤ byteAt s (a + 1) ∧ byteAt s (a + 1) ≤ 191 ∧ 128 ≤ byteAt s (a + 2) ∧ byteAt s (a + 2) ≤ 191 ∧ (byteAt s a = 224 → 160 ≤ byteAt s (a + 1)) ∧ ((Utf8.decode s a).1 : Int) = (byteAt s a - 224) * 4096 + (byteAt s (a + 1) - 128) * 64 + (byteAt s (a + 2) - 128)) ∨
    ((cpDecode s a).1 = 4 ∧ 240 ≤ byteAt s a ∧ byteAt s a ≤ 244 ∧ 128 ≤ byteAt s (a + 1) ∧ byteAt s (a + 1) ≤ 191 ∧ 128 ≤ byteAt s (a + 2) ∧ byteAt s (a + 2) ≤ 191 ∧ 128 ≤ byteAt s (a + 3) ∧ byteAt s (a + 3) ≤ 191 ∧ (byteAt s a = 240 → 144 ≤ byteAt s (a + 1)) ∧ ((Utf8.decode s a).1 : Int) = (byteAt s a - 240) * 262144 + (byteAt s (a + 1) - 128) * 4096 + (byteAt s (a + 2) - 128) * 64 + (byteAt s (a + 3) - 128)) := by
  rw [dec_valid ha h]
  obtain ⟨z, w1, w2, w3⟩ := cpDec_in ha h
  have hlo := cpDec_lo h
  have hle := cpDecode_le s a
  generalize (cpDecode s a).1 = w at *
  have r0 := byteAt_range s a
  have hcase : w = 1 ∨ w = 2 ∨ w = 3 ∨ w = 4 := by omega
  rcases hcase with rfl | rfl | rfl | rfl
  · have : byteAt s a < 128 := by unfold cpSize at z; repeat' split at z <;> omega
    exact .inl ⟨rfl, r0.1, this, by simp only [decN]; omega⟩
  · have hr : 194 ≤ byteAt s a ∧ byteAt s a < 224 := by unfold cpSize at z; repeat' split at z <;> omega
    have c1 := w3 1 (by omega) (by omega)
    exact .inr (.inl ⟨rfl, hr.1, hr.2, c1.1, c1.2, by simp only [decN]; omega⟩)
  · have hr : 224 ≤ byteAt s a ∧ byteAt s a < 240 := by unfold cpSize at z; repeat' split at z <;> omega
    have c1 := w3 1 (by omega) (by omega)
    have c2 := w3 2 (by omega) (by omega)
    exact .inr (.inr (.inl ⟨rfl, hr.1, hr.2, c1.1, c1.2, c2.1, c2.2, fun e => by have := (hlo (by omega)).1; rw [e] at this; simpa [cpLow] using this, by simp only [decN]; omega⟩))
  · have hr : 240 ≤ byteAt s a ∧ byteAt s a ≤ 244 := by unfold cpSize at z; repeat' split at z <;> omega
    have c1 := w3 1 (by omega) (by omega)
    have c2 := w3 2 (by omega) (by omega)
    have c3 := w3 3 (by omega) (by omega)
    exact .inr (.inr (.inr ⟨rfl, hr.1, hr.2, c1.1, c1.2, c2.1, c2.2, c3.1, c3.2, fun e => by have := (hlo (by omega)).1; rw [e] at this; simpa [cpLow] using this, by simp only [decN]; omega⟩))
theorem dec_inj {s t : ByteArray} {a b : Nat} (ha : a < s.size) (hs : (cpDecode s a).2 = true) (hb : b < t.size) (ht : (cpDecode t b).2 = true) (e : (Utf8.decode s a).1 = (Utf8.decode t b).1) :
    (cpDecode s a).1 = (cpDecode t b).1 ∧ ∀ j, j < (cpDecode s a).1 → byteAt s (a + j) = byteAt t (b + j) := by
  have e' : ((Utf8.decode s a).1 : Int) = (Utf8.decode t b).1 := by rw [e]
  have j4 : ∀ {w j : Nat}, j < w → w ≤ 4 → (0 < w → byteAt s (a + 0) = byteAt t (b + 0)) → (1 < w → byteAt s (a + 1) = byteAt t (b + 1)) → (2 < w → byteAt s (a + 2) = byteAt t (b + 2)) → (3 < w → byteAt s (a + 3) = byteAt t (b + 3)) → byteAt s (a + j) = byteAt t (b + j) := fun {w j} h h4 k0 k1 k2 k3 => by
    have : j = 0 ∨ j = 1 ∨ j = 2 ∨ j = 3 := by omega
    rcases this with rfl | rfl | rfl | rfl
    · exact k0 h
    · exact k1 h
    · exact k2 h
    · exact k3 h
  rcases dec_parts ha hs with h | h | h | h <;> rcases dec_parts hb ht with g | g | g | g <;> first | (exfalso; omega) | skip
  all_goals
    refine ⟨h.1.trans g.1.symm, fun j hj => j4 hj (by omega) (fun _ => ?_) (fun _ => ?_) (fun _ => ?_) (fun _ => ?_)⟩
  all_goals first | omega | (simp only [Nat.add_zero]; omega)
def runesF (t : ByteArray) : Nat → Nat → List Int
  | 0, _ => []
  | f + 1, p => if p < t.size then ((Utf8.decode t p).1 : Int) :: runesF t f (p + (Utf8.decode t p).2) else []
def runes (t : ByteArray) : List Int := runesF t (t.size + 1) 0
def occF (T S : List Int) (id : Int) : Nat → Nat → List Rng
  | 0, _ => []
  | f + 1, a => if a + S.length ≤ T.length then if (T.drop a).take S.length = S then ⟨id, a, ((a + S.length : Nat) : Int)⟩ :: occF T S id f (a + S.length) else occF T S id f (a + 1) else []
inductive Rn (t : ByteArray) : Nat → List Int → Prop where
  | nil : Rn t t.size []
  | cons {o : Nat} {T : List Int} (h1 : o < t.size) (h2 : (cpDecode t o).2 = true) (h3 : Rn t (o + (cpDecode t o).1) T) : Rn t o (((Utf8.decode t o).1 : Int) :: T)
theorem Rn.le {t : ByteArray} {o : Nat} {T : List Int} (H : Rn t o T) : o ≤ t.size := by
  cases H with
  | nil => exact Nat.le_refl _
  | cons h1 h2 h3 => omega
theorem Rn.of {t : ByteArray} {o e : Nat} (H : Cps t o e) (he : e = t.size) : ∃ T, Rn t o T := by
  induction H with
  | nil a => subst he; exact ⟨[], .nil⟩
  | cons h1 h2 _ ih => obtain ⟨T, h⟩ := ih he; exact ⟨_, .cons h1 h2 h⟩
theorem Rn.runes {t : ByteArray} {o : Nat} {T : List Int} (H : Rn t o T) : ∀ f, t.size - o < f → runesF t f o = T := by
  induction H with
  | nil => intro f hf; cases f with
    | zero => omega
    | succ f => rw [runesF, if_neg (by omega)]
  | @cons o T h1 h2 h3 ih =>
    intro f hf
    cases f with
    | zero => omega
    | succ f =>
      have hp := cpDecode_pos h2
      rw [runesF, if_pos h1, dec_valid h1 h2]
      rw [ih f (by omega)]
theorem rn_of_valid {t : ByteArray} (hv : cpValid t = true) : Rn t 0 (Sh.runes t) := by
  obtain ⟨T, h⟩ := Rn.of (cpValid_iff.1 hv) rfl
  have := h.runes (t.size + 1) (by omega)
  unfold Sh.runes; rw [this]; exact h
theorem Rn.fwd {s : ByteArray} {a : Nat} {S : List Int} (G : Rn s a S) : ∀ {t : ByteArray} {o : Nat} {T : List Int}, Rn t o T → o + (s.size - a) ≤ t.size → (∀ j, j < s.size - a → byteAt t (o + j) = byteAt s (a + j)) → T.take S.length = S ∧ Rn t (o + (s.size - a)) (T.drop S.length) := by
  induction G with
  | nil => intro t o T H _ _; simpa using H
  | @cons a S h1 h2 h3 ih =>
    intro t o T H hle hb
    obtain ⟨i1, i2, i3, _⟩ := cpDec_in h1 h2
    have hot : o < t.size := by omega
    have e := cpDec_same (t := t) (a' := o) h1 h2 fun j hj => ⟨hb j (by omega), by omega⟩
    cases H with
    | nil => omega
    | @cons _ T g1 g2 g3 =>
      rw [e] at g3
      have hd : (Utf8.decode t o).1 = (Utf8.decode s a).1 := by
        rw [dec_valid g1 g2, dec_valid h1 h2, e]
        simp only
        have h4 := cpDecode_le s a
        generalize (cpDecode s a).1 = w at *
        have b0 := hb 0 (by omega)
        simp only [Nat.add_zero] at b0
        have hc : w = 1 ∨ w = 2 ∨ w = 3 ∨ w = 4 := by omega
        rcases hc with rfl | rfl | rfl | rfl
        · simp only [decN, b0]
        · simp only [decN, b0, hb 1 (by omega)]
        · simp only [decN, b0, hb 1 (by omega), hb 2 (by omega)]
        · simp only [decN, b0, hb 1 (by omega), hb 2 (by omega), hb 3 (by omega)]
      have := ih g3 (by omega) fun j hj => by
        have := hb ((cpDecode s a).1 + j) (by omega)
        rw [← Nat.add_assoc, ← Nat.add_assoc] at this; exact this
      rw [show o + (cpDecode s a).1 + (s.size - (a + (cpDecode s a).1)) = o + (s.size - a) by omega] at this
      simp only [List.length_cons, List.take_succ_cons, List.drop_succ_cons, hd]
      exact ⟨by rw [this.1], this.2⟩
theorem Rn.bwd {s : ByteArray} {a : Nat} {S : List Int} (G : Rn s a S) : ∀ {t : ByteArray} {o : Nat} {T : List Int}, Rn t o T → T.take S.length = S → o + (s.size - a) ≤ t.size ∧ (∀ j, j < s.size - a → byteAt t (o + j) = byteAt s (a + j)) := by
  induction G with
  | nil => intro t o T H _; exact ⟨by have := H.le; omega, fun j hj => by omega⟩
  | @cons a S h1 h2 h3 ih =>
    intro t o T H hT
    cases H with
    | nil => simp at hT
    | @cons _ T g1 g2 g3 =>
      simp only [List.length_cons, List.take_succ_cons, List.cons.injEq] at hT
      obtain ⟨e1, e2⟩ := dec_inj g1 g2 h1 h2 (by exact_mod_cast hT.1)
      obtain ⟨i1, i2, i3, _⟩ := cpDec_in h1 h2
      have := ih g3 hT.2
      rw [e1] at this e2
      refine ⟨by omega, fun j hj => ?_⟩
      by_cases hj2 : j < (cpDecode s a).1
      · exact e2 j hj2
      · have := this.2 (j - (cpDecode s a).1) (by omega)
        rw [show o + (cpDecode s a).1 + (j - (cpDecode s a).1) = o + j by omega, show a + (cpDecode s a).1 + (j - (cpDecode s a).1) = a + j by omega] at this
        exact this
theorem Rn.at {t : ByteArray} {o : Nat} {T : List Int} (H : Rn t o T) : ∀ {i : Nat}, o ≤ i → i < t.size → ¬ (128 ≤ byteAt t i ∧ byteAt t i ≤ 191) → ∃ k, k < T.length ∧ Rn t i (T.drop k) := by
  induction H with
  | nil => intro i h1 h2; omega
  | @cons o T h1 h2 h3 ih =>
    intro i hi hit hb
    obtain ⟨i1, i2, i3, i4⟩ := cpDec_in h1 h2
    by_cases e : i = o
    · subst e; exact ⟨0, by simp, .cons h1 h2 h3⟩
    by_cases e2 : i < o + (cpDecode t o).1
    · have := i4 (i - o) (by omega) (by omega)
      rw [show o + (i - o) = i by omega] at this
      exact absurd this hb
    · obtain ⟨k, k1, k2⟩ := ih (by omega) hit hb
      exact ⟨k + 1, by simp; omega, by simpa using k2⟩
section
variable {P : Program} {E : Env} {evs : Operand → SV} {o : Oper} {h : Hp} {n : Nat} {K : SV → Hp → Nat → Prop}
theorem sem_rangeS {t : TypeId} {x : Operand} {s : ByteArray} (ho : o.op = .range t x) (ht : tstring P t = true) (hx : evs x = .str s)
    (hk : K (.ptr n 0) (hset h n (some (.sit s 0))) (n + 1)) : SemOp E P evs o h n K := by
  refine ⟨by rw [ho]; simp, fun c ev _ _ R F hv => ?_⟩
  have hvx := hv x
  rw [hx] at hvx
  have hvx := vstr hvx
  have hu := tstring_some ht
  have hrun : (execOp ev o).run P c.w = .ok (.value (.pointer (some ⟨c.w.heap.size, 0, none⟩))) (c.w.alloc (.stringIter s 0)) := by
    simp [execOp, ho, Instr.range, run_underlying' hu, hvx]
  have hn1 : c.ρ n = none := F n (Nat.le_refl _)
  have X2 := c.alloc_ext n (.stringIter s 0) hn1
  have R2 := R.alloc hn1 (x := .sit s 0) (b := .stringIter s 0) ⟨c.w.heap.size, by simp [Cx.alloc], by simp [Cx.alloc, heap_alloc]⟩
  refine ⟨_, .ptr n 0, _, n + 1, c.alloc n (.stringIter s 0), by rw [hrun]; rfl, ?_, R2, fun j hj => ?_, ⟨X2, Nat.le_succ n, fun j hj => ?_⟩, hk⟩
  · rw [V]; exact ⟨c.w.heap.size, 0, by simp [Cx.alloc], rfl⟩
  · simp only [Cx.alloc]
    rw [if_neg (by omega)]; exact F j (by omega)
  · simp only [Cx.alloc]
    rw [if_neg (by omega)]
theorem sem_nextS {x : Operand} {q : Nat} {s : ByteArray} {pos : Nat} (ho : o.op = .next x true) (hx : evs x = .ptr q 0) (hq : h q = some (.sit s pos))
    (h1 : pos < s.size → K (.tup [.bool true, .int .i64 pos, .int .i32 (Utf8.decode s pos).1]) (hset h q (some (.sit s (pos + (Utf8.decode s pos).2)))) n) (h0 : ¬ pos < s.size → K (.tup [.bool false]) h n) : SemOp E P evs o h n K := by
  refine ⟨by rw [ho]; simp, fun c ev _ _ R F hv => ?_⟩
  have hvx := hv x
  rw [hx, V] at hvx
  obtain ⟨b, st, hρ, hev⟩ := hvx
  obtain ⟨b', g1, g2⟩ := R.obj _ _ hq
  rw [hρ] at g1; cases g1
  have hgo : (getObj b).run P c.w = .ok (.stringIter s pos) c.w := by simp [getObj, Sem.run, g2]
  by_cases hlt : pos < s.size
  · have hblt : b < c.w.heap.size := (Array.getElem?_eq_some_iff.1 g2).1
    obtain ⟨R2, X2⟩ := R.write (w' := { c.w with heap := c.w.heap.setIfInBounds b (.stringIter s (pos + (Utf8.decode s pos).2)) }) (y := .sit s (pos + (Utf8.decode s pos).2)) hq hρ (by simp)
      (fun b' hb' => by simp [Array.getElem?_setIfInBounds_ne (Ne.symm hb')]) (by simp [rm, g2]) rfl rfl (fun X => ⟨b, hρ, by simp [hblt]⟩)
    refine ⟨.tuple #[.bool true, .int .i64 pos, .int .i32 (Utf8.decode s pos).1], .tup [.bool true, .int .i64 pos, .int .i32 (Utf8.decode s pos).1], _, n, { c with w := { c.w with heap := c.w.heap.setIfInBounds b (.stringIter s (pos + (Utf8.decode s pos).2)) } }, ?_, by simp [V, VL], R2, F, ⟨X2, Nat.le_refl _, fun _ _ => rfl⟩, h1 hlt⟩
    have hset' : ∀ ob : Obj, (setObj b ob).run P c.w = .ok () { c.w with heap := c.w.heap.setIfInBounds b ob } := fun ob => by simp [setObj, Sem.run, g2]
    simp [execOp, ho, Instr.next, hev, hgo, hlt, hset', goInt]
  · refine ⟨.tuple #[.bool false], .tup [.bool false], h, n, c, ?_, by simp only [V, VL]; exact ⟨_, rfl, _, _, rfl, by simp [], rfl⟩, R, F, Adv.refl n c, h0 hlt⟩
    simp [execOp, ho, Instr.next, hev, hgo, hlt]
end
theorem dec_pos (t : ByteArray) (p : Nat) : 1 ≤ (Utf8.decode t p).2 ∧ (Utf8.decode t p).1 < 2147483648 := by
  have hb : ∀ i, (t.get! i).toNat < 256 := fun i => (t.get! i).toNat_lt
  have h0 := hb (p + 0)
  have h1 := hb (p + 1)
  have h2 := hb (p + 2)
  have h3 := hb (p + 3)
  unfold Utf8.decode
  simp only [Utf8.runeError]
  repeat' split
  all_goals (refine ⟨?_, ?_⟩ <;> simp only <;> omega)
theorem runesF_fuel (t : ByteArray) : ∀ (f g p : Nat), t.size - p < f → t.size - p < g → runesF t f p = runesF t g p
  | 0, _, _, h, _ => by omega
  | _, 0, _, _, h => by omega
  | f + 1, g + 1, p, h1, h2 => by
    have := (dec_pos t p).1
    rw [runesF, runesF]
    split
    · rw [runesF_fuel t f g (p + (Utf8.decode t p).2) (by omega) (by omega)]
    · rfl
def rF (t : ByteArray) (p : Nat) : List Int := runesF t (t.size - p + 1) p
theorem rF_step {t : ByteArray} {p : Nat} (h : p < t.size) : rF t p = ((Utf8.decode t p).1 : Int) :: rF t (p + (Utf8.decode t p).2) := by
  have := (dec_pos t p).1
  unfold rF
  rw [runesF, if_pos h, runesF_fuel t _ (t.size - (p + (Utf8.decode t p).2) + 1) _ (by omega) (by omega)]
theorem rF_end {t : ByteArray} {p : Nat} (h : ¬ p < t.size) : rF t p = [] := by unfold rF; rw [runesF, if_neg h]
theorem rF_len (t : ByteArray) : ∀ (f p : Nat), (runesF t f p).length ≤ t.size - p
  | 0, _ => by simp [runesF]
  | f + 1, p => by
    have := (dec_pos t p).1
    have ih := rF_len t f (p + (Utf8.decode t p).2)
    rw [runesF]
    split
    · rw [List.length_cons]; omega
    · simp
structure OcS where
  p : Nat
  o : Option Nat
  acc : List Int
theorem rF_lenle (t : ByteArray) (p : Nat) : (rF t p).length ≤ t.size - p := rF_len t _ p
theorem runes_rF (t : ByteArray) : runes t = rF t 0 := by unfold runes rF; rw [Nat.sub_zero]
structure OcR where
  a : Nat
  o : Option Nat
  done : List Rng
structure OcB where
  j : Nat
  b : Bool
theorem occF_end {T S : List Int} {id : Int} {g a : Nat} (h : ¬ a + S.length ≤ T.length) : occF T S id g a = [] := by
  cases g with
  | zero => rfl
  | succ g => rw [occF, if_neg h]
theorem occF_le {T S : List Int} (hS : S ≠ []) (id : Int) : ∀ (g a : Nat), (occF T S id g a).length ≤ T.length - a
  | 0, _ => Nat.zero_le _
  | g + 1, a => by
    have hp : 0 < S.length := List.length_pos_iff.2 hS
    have h1 := occF_le (T := T) hS id g (a + S.length)
    have h2 := occF_le (T := T) hS id g (a + 1)
    rw [occF]
    split
    · split
      · rw [List.length_cons]; omega
      · omega
    · simp
theorem take_step {T S : List Int} {a j : Nat} (hj : j < S.length) (h2 : a + j < T.length) : ((T.drop a).take (j + 1) = S.take (j + 1)) ↔ ((T.drop a).take j = S.take j ∧ T[a + j] = S[j]) := by
  have h1 : j < (T.drop a).length := by rw [List.length_drop]; omega
  rw [List.take_succ_eq_append_getElem h1, List.take_succ_eq_append_getElem hj, List.getElem_drop]
  exact ⟨fun h => ⟨(List.append_inj' h rfl).1, by have := (List.append_inj' h rfl).2; simpa using this⟩, fun ⟨x, y⟩ => by rw [x, y]⟩
theorem accfz {h2 h' : Hp} {n m z k : Nat} {o : Option Nat} {es : List SV} (H : AccI n m z o es) (hn : ∀ j, n ≤ j → j < m → h2 j = none) (hh : ∀ j, o = some j → h' j = some (.cells (es.flatMap SV.cells))) : Fz h' h2 (k + 1) (AccV z o es) (.imm z es false) := by
  cases o with
  | none => rw [H.none rfl]; exact .inr ⟨by simp, .inl rfl, trivial, by simp⟩
  | some j =>
    have hj := hh j rfl
    refine .inr ⟨hn j (H.lt j rfl).1 (H.lt j rfl).2, by simp, rfl, rfl, _, _, hj, by simp [takeN, flat_len H.size]; rfl, H.size, ?_⟩
    have : ∀ l : List SV, All2 (Fz h' h2 k) l l := by
      intro l; induction l with
      | nil => trivial
      | cons a l ih => exact ⟨Fz.same, ih⟩
    simp only [← flat_len H.size, List.take_length]
    exact this _
theorem acc_at' {o : Option Nat} {j : Nat} (e : o = some j) (es : List SV) (h : Hp) : AccH o es h j = some (.cells (es.flatMap SV.cells)) := by subst e; exact hset_at _ _ _
theorem rune_wrap (t : ByteArray) (p : Nat) : IntKind.i64.wrap ((Utf8.decode t p).1 : Int) = (Utf8.decode t p).1 := by
  have := (dec_pos t p).2
  rw [wr64] <;> omega
set_option maxHeartbeats 16000000 in
theorem c42 (l : List Item) (id : Int) (s : ByteArray) (hl : l.length ≤ 1048576) (ht : (textB l).length ≤ 1048576) (hs : s.size ≤ 1048576) (hne : runes s ≠ []) :
    PC 42 [itemsE l, intE id, .str s] (rngsE (occF (runes (textS l)) (runes s) id ((runes (textS l)).length + 1) 0)) := by
  intro h n
  refine go Tryz.func42 rfl (by kernel_rfl) (by kernel_rfl) (by simp [go_sem]) fun ho => ?_
  have hHb : ∀ j y, h j = some y → j < n := fun j y e => (ho j y e).1
  have hn0 : ∀ j, n ≤ j → h j = none := fun j hj => ho.none hj
  simp [go_sem]
  refine (c23 l hl (by omega)).use ?_
  have hts : (textS l).size ≤ 1048576 := by
    have : (textS l).size = (textB l).length := by simp [textS, ByteArray.size]
    omega
  rw [show (⟨(textB l).toArray⟩ : ByteArray) = textS l from rfl]
  generalize textS l = t at *
  simp [go_sem]
  refine sem_rangeS (s := t) rfl (by simp [go_sem]) (by simp [go_sem]) ?_
  simp [go_sem]
  refine goloop 1 (α := OcS) (fun a => [(1, intE id), (2, .str s), (7, AccV 1 a.o (a.acc.map intE)), (19, .ptr n 0)]) (fun a => hset (AccH a.o (a.acc.map intE) h) n (some (.sit t a.p)))
    (fun a m => n + 1 ≤ m ∧ AccI (n + 1) m 1 a.o (a.acc.map intE) ∧ a.acc ++ rF t a.p = runes t) (fun a => t.size - a.p) ⟨0, none, []⟩ ?_ ?_ ?_ ?_
  · exact ⟨Nat.le_refl _, AccI.nil _ _ _, by rw [List.nil_append, runes_rF]⟩
  · simp [look, AccV, Fz.same]
  · exact look_same
  · rintro ⟨p, o, acc⟩ m ⟨hm, hA, hrun⟩
    simp only at hm hA hrun
    simp [go_sem]
    refine sem_nextS (q := n) (s := t) (pos := p) rfl (by simp [go_sem]) (hset_at _ _ _) (fun hp => ?_) fun hp => ?_
    · have hd := (dec_pos t p).1
      rw [rF_step hp] at hrun
      have hw := rune_wrap t p
      have hal : acc.length + 1 ≤ 1048576 := by
        have h1 := congrArg List.length hrun
        have h2 := rF_lenle t 0
        rw [← runes_rF] at h2
        simp only [List.length_append, List.length_cons] at h1
        omega
      generalize hx : Utf8.decode t p = x at *
      obtain ⟨x, d⟩ := x
      simp only at hd hw hrun
      have hon : ∀ j, o = some j → n + 1 ≤ j ∧ j < m := fun j e => hA.lt j e
      simp [go_sem, hset_two, hw]
      rw [app_int (x := (x : Int)) hA (by omega) (by simp [hset_at]) (by
        intro j e
        have := hon j e
        subst e
        simp only [AccH_int, hset]
        grind)]
      simp [go_sem]
      refine ⟨⟨p + d, some (m + 1), acc ++ [(x : Int)]⟩, by simp only; omega, ⟨by omega, ?_, by simp only [List.append_assoc, List.singleton_append]; exact hrun⟩, ?_, ?_⟩
      · simp only [List.map_append]; exact hA.push rfl rfl (by omega) (by omega)
      · simp [AccV, Fz.same]
      · intro j y; have := hHb j y; have := hon j
        simp only [AccH_int]; simp only [hset, List.map_append, List.map_cons, List.map_nil]
        cases o <;> simp only [Option.map_none, Option.map_some, hset] <;> grind
    rw [rF_end hp, List.append_nil] at hrun
    subst hrun
    simp [go_sem]
    refine sem_rangeS (s := s) rfl (by simp [go_sem]) (by simp [go_sem]) ?_
    simp [go_sem]
    have hTl : (runes t).length ≤ 1048576 := by have h2 := rF_lenle t 0; rw [← runes_rF] at h2; omega
    have hSl : (runes s).length ≤ 1048576 := by have h2 := rF_lenle s 0; rw [← runes_rF] at h2; omega
    generalize runes t = T at *
    refine goloop 1 (α := OcS) (fun a => [(1, intE id), (7, .imm 1 (T.map intE) false), (10, AccV 1 a.o (a.acc.map intE)), (29, .ptr m 0)]) (fun a => hset (AccH a.o (a.acc.map intE) h) m (some (.sit s a.p)))
      (fun a m' => m + 1 ≤ m' ∧ AccI (m + 1) m' 1 a.o (a.acc.map intE) ∧ a.acc ++ rF s a.p = runes s) (fun a => s.size - a.p) ⟨0, none, []⟩ ?_ ?_ ?_ ?_
    · exact ⟨Nat.le_refl _, AccI.nil _ _ _, by rw [List.nil_append, runes_rF]⟩
    · have hfz : Fz (hset (hset (AccH o (T.map intE) h) n (some (.sit t p))) m (some (.sit s 0))) (hset h m (some (.sit s 0))) 1 (AccV 1 o (T.map intE)) (.imm 1 (T.map intE) false) :=
        accfz hA (fun j h1 h2 => by rw [hset_ne _ _ (by omega)]; exact hn0 j (by omega)) fun j e => by
          have := hA.lt j e
          rw [hset_ne _ _ (by omega), hset_ne _ _ (by omega)]; exact acc_at' e _ _
      intro q hq
      simp only [List.mem_cons, List.not_mem_nil, or_false] at hq
      rcases hq with rfl | rfl | rfl | rfl
      · exact Fz.same
      · exact hfz
      · exact Fz.same
      · exact Fz.same
    · intro j y e
      have := hHb j y
      by_cases e1 : j = m
      · subst e1; simpa [hset_at] using e
      · simp only [AccH] at e
        rw [hset_ne _ _ e1] at e ⊢
        have h1 := this e
        rw [hset_ne _ _ (by omega)]
        cases o with
        | none => exact e
        | some k => have := (hA.lt k rfl).1; simp only [AccH]; rw [hset_ne _ _ (by omega)]; exact e
    · rintro ⟨p2, o2, acc⟩ m2 ⟨hm2, hA2, hrun⟩
      simp only at hm2 hA2 hrun
      simp [go_sem]
      refine sem_nextS (q := m) (s := s) (pos := p2) rfl (by simp [go_sem]) (hset_at _ _ _) (fun hp => ?_) fun hp => ?_
      · have hd := (dec_pos s p2).1
        rw [rF_step hp] at hrun
        have hw := rune_wrap s p2
        have hal : acc.length + 1 ≤ 1048576 := by
          have h1 := congrArg List.length hrun
          simp only [List.length_append, List.length_cons] at h1
          omega
        generalize hx : Utf8.decode s p2 = x at *
        obtain ⟨x, d⟩ := x
        simp only at hd hw hrun
        have hon : ∀ j, o2 = some j → m + 1 ≤ j ∧ j < m2 := fun j e => hA2.lt j e
        simp [go_sem, hset_two, hw]
        rw [app_int (x := (x : Int)) hA2 (by omega) (by simp [hset_at]) (by
          intro j e
          have := hon j e
          subst e
          simp only [AccH_int, hset]
          grind)]
        simp [go_sem]
        refine ⟨⟨p2 + d, some (m2 + 1), acc ++ [(x : Int)]⟩, by simp only; omega, ⟨by omega, ?_, by simp only [List.append_assoc, List.singleton_append]; exact hrun⟩, ?_, ?_⟩
        · simp only [List.map_append]; exact hA2.push rfl rfl (by omega) (by omega)
        · simp [AccV, Fz.same]
        · intro j y; have := hHb j y; have := hon j
          simp only [AccH_int]; simp only [hset, List.map_append, List.map_cons, List.map_nil]
          cases o2 <;> simp only [Option.map_none, Option.map_some, hset] <;> grind
      rw [rF_end hp, List.append_nil] at hrun
      subst hrun
      simp [go_sem]
      have hSp : 0 < (runes s).length := List.length_pos_iff.2 hne
      generalize runes s = S at *
      have hocc := occF_le hne id (T.length + 1) 0 (T := T)
      generalize hFF : occF T S id (T.length + 1) 0 = FF at hocc ⊢
      refine goloop 1 (α := OcR) (fun a => [(1, intE id), (7, .imm 1 (T.map intE) false), (10, .imm 1 (S.map intE) false), (13, AccV 3 a.o (a.done.map Rng.enc)), (14, intE a.a)]) (fun a => AccH a.o (a.done.map Rng.enc) h)
        (fun a m' => m + 1 ≤ m' ∧ AccI n m' 3 a.o (a.done.map Rng.enc) ∧ a.a ≤ T.length ∧ ∃ g, T.length - a.a < g ∧ FF = a.done ++ occF T S id g a.a) (fun a => T.length - a.a) ⟨0, none, []⟩ ?_ ?_ ?_ ?_
      · exact ⟨by omega, AccI.nil _ _ _, Nat.zero_le _, T.length + 1, by simp only; omega, by rw [← hFF]; rfl⟩
      · intro q hq
        simp only [List.mem_cons, List.not_mem_nil, or_false] at hq
        rcases hq with rfl | rfl | rfl | rfl | rfl
        · exact Fz.same
        · exact Fz.same
        · exact accfz hA2 (fun j h1 h2 => hn0 j (by omega)) fun j e => by
            have := hA2.lt j e
            rw [hset_ne _ _ (by omega)]; exact acc_at' e _ _
        · exact Fz.same
        · exact Fz.same
      · intro j y e
        have h1 := hHb j y e
        simp only [AccH] at e ⊢
        rw [hset_ne _ _ (by omega)]
        cases o2 with
        | none => exact e
        | some k => have := (hA2.lt k rfl).1; simp only []; rw [hset_ne _ _ (by omega)]; exact e
      have hnm : n + 1 ≤ m := hm
      clear hA hA2 hm2 hm hp
      rintro ⟨a, o3, dn⟩ m3 ⟨hm3, hA, hat, g, hg, hoc⟩
      simp only at hm3 hA hat hg hoc
      have w0 : IntKind.i64.wrap ((a : Int) + S.length) = ((a + S.length : Nat) : Int) := by rw [wr64] <;> omega
      by_cases hc : a + S.length ≤ T.length
      · have hc' : ((a + S.length : Nat) : Int) ≤ T.length := by omega
        obtain ⟨g, rfl⟩ : ∃ g', g = g' + 1 := ⟨g - 1, by omega⟩
        rw [occF, if_pos hc] at hoc
        have hroom : dn.length ≤ 1048576 := by
          have := congrArg List.length hoc
          rw [List.length_append] at this
          omega
        simp [go_sem, w0, hc', -Int.natCast_add]
        have hXb : ∀ j y, AccH o3 (dn.map Rng.enc) h j = some y → j < m3 := acc_lt hHb (by omega) hA
        refine goloop 0 (α := OcB) (fun q => [(1, intE id), (7, .imm 1 (T.map intE) false), (10, .imm 1 (S.map intE) false), (13, AccV 3 o3 (dn.map Rng.enc)), (14, intE a), (15, .bool q.b), (16, intE q.j)]) (fun _ => AccH o3 (dn.map Rng.enc) h)
          (fun q m' => q.j ≤ S.length ∧ m3 ≤ m' ∧ q.b = decide ((T.drop a).take q.j = S.take q.j)) (fun q => S.length - q.j) ⟨0, true⟩ ?_ ?_ look_same ?_
        · exact ⟨Nat.zero_le _, Nat.le_refl _, by simp⟩
        · simp [look, Fz.same]
        rintro ⟨j, b⟩ m4 ⟨hj, hm4, hb⟩
        simp only at hj hm4 hb
        by_cases hlt : j < S.length
        · have w1 : IntKind.i64.wrap ((j : Int) + 1) = ((j + 1 : Nat) : Int) := by rw [wr64] <;> omega
          have w2 : IntKind.i64.wrap ((a : Int) + j) = ((a + j : Nat) : Int) := by rw [wr64] <;> omega
          have haj : a + j < T.length := by omega
          have hst := take_step (T := T) (S := S) hlt haj
          cases b with
          | false =>
            have hb' : ¬ ((T.drop a).take j = S.take j) := by simpa using hb.symm
            simp [go_sem, hlt, w1, -Int.natCast_add]
            repeat first | refine nd (by kernel_rfl) ?_ | refine sd (by kernel_rfl) ?_
            try simp [go_sem, w1, -Int.natCast_add]
            refine ⟨⟨j + 1, false⟩, by simp only; omega, ⟨by simp only; omega, by omega, ?_⟩, ?_⟩
            · simp only; rw [eq_comm, decide_eq_false_iff_not, hst]; exact fun e => hb' e.1
            · exact ⟨rfl, rfl⟩
          | true =>
            have hb' : (T.drop a).take j = S.take j := by simpa using hb.symm
            obtain ⟨u, hu⟩ : ∃ u, T[a + j] = u := ⟨_, rfl⟩
            obtain ⟨v, hv⟩ : ∃ v, S[j] = v := ⟨_, rfl⟩
            rw [hu, hv] at hst
            simp [go_sem, hlt, w1, w2, haj, hu, hv, -Int.natCast_add]
            repeat first | refine nd (by kernel_rfl) ?_ | refine sd (by kernel_rfl) ?_
            try simp [go_sem, w1, -Int.natCast_add]
            refine ⟨⟨j + 1, decide (u = v)⟩, by simp only; omega, ⟨by simp only; omega, by omega, ?_⟩, ?_⟩
            · simp only; rw [decide_eq_decide, hst]; exact ⟨fun e => ⟨hb', e⟩, fun e => e.2⟩
            · exact ⟨rfl, rfl⟩
        · have hje : j = S.length := by omega
          subst hje
          rw [List.take_length] at hb
          cases b with
          | false =>
            have hb' : ¬ ((T.drop a).take S.length = S) := by simpa using hb.symm
            have w1 : IntKind.i64.wrap ((a : Int) + 1) = ((a + 1 : Nat) : Int) := by rw [wr64] <;> omega
            rw [if_neg hb'] at hoc
            simp [go_sem, w1, -Int.natCast_add]
            refine ⟨⟨a + 1, o3, dn⟩, by simp only; omega, ⟨by omega, hA.mono hm4, by simp only; omega, g, by simp only; omega, hoc⟩, ?_, look_same⟩
            exact ⟨Fz.same, Fz.same⟩
          | true =>
            have hb' : (T.drop a).take S.length = S := by simpa using hb.symm
            rw [if_pos hb'] at hoc
            have hA3 : AccI n m4 3 o3 (List.map Rng.enc dn) := hA.mono hm4
            obtain ⟨r, hr⟩ : ∃ r : Rng, r = ⟨id, (a : Int), ((a + S.length : Nat) : Int)⟩ := ⟨_, rfl⟩
            have hre : [intE id, SV.int .i64 (a : Int), SV.int .i64 ((a + S.length : Nat) : Int)] = r.enc.cells := by rw [hr]; rfl
            rw [← hr] at hoc
            simp [go_sem, w0, -Int.natCast_add]
            rw [hre]
            rw [app1g (es := List.map Rng.enc dn) (e := r.enc) (o := o3) (t := 39) (t2 := 39) (el := 53) (z := 3) (by simp [go_sem]) (by simp [go_sem]) (by simp [go_sem]) (by simp) (by simp [go_sem]) (by simp [go_sem]) (by simp [go_sem]) (by simp; omega) hA3 rfl ?a1 ?a2]
            case a1 => simp [hset_at]
            case a2 =>
              intro i e
              have := (hA3.lt i e).2
              rw [hset_ne _ _ (by omega)]; exact acc_at i e
            have hpush := hA3.push (j := m4 + 1) (m' := m4 + 1 + 1) (e := r.enc) rfl rfl (by omega) (by omega)
            have hlive := acc_live' (p := m4 + 1) (v := .sl (m4 + 1) 0 3 ((List.map Rng.enc dn).length + 1) false) (e := r.enc) hHb (by omega) hA3 (H := hset (AccH o3 (List.map Rng.enc dn) h) m4 (some (.cells r.enc.cells))) (set_keep (fun j z e => by have := hHb j z e; omega) (acc_old hHb hA3))
            simp [go_sem, -Int.natCast_add]
            refine ⟨⟨a + S.length, some (m4 + 1), dn ++ [r]⟩, by simp only; omega, ⟨by omega, by simp only [List.map_append]; exact hpush, by simp only; omega, g, by simp only; omega, by rw [hoc]; simp⟩, ?_, ?_⟩
            · simp only [List.map_append]
              simp [AccV, Fz.same]
            · simp only [List.map_append]
              simpa [Out.app, SV.cells] using hlive
      · have hc' : ¬ ((a + S.length : Nat) : Int) ≤ T.length := by omega
        simp [go_sem, w0, hc', -Int.natCast_add]
        rw [occF_end hc, List.append_nil] at hoc
        rw [hoc]
        exact ret_acc ho hA look_same rfl fun e he => by obtain ⟨r, _, rfl⟩ := List.mem_map.1 he; rfl
theorem heads_step {t : ByteArray} {o : Nat} (h1 : o < t.size) (h2 : (cpDecode t o).2 = true) : cpHeads t (o + (cpDecode t o).1) = cpHeads t o + 1 := by
  obtain ⟨z, i2, i3, i4⟩ := cpDec_in h1 h2
  have hr := fun i => byteAt_range t i
  have hd0 : cpHead (byteAt t o) = true := by
    have := head_of (byteAt t o) (hr o).1 (hr o).2
    rcases dec_parts h1 h2 with g | g | g | g <;> (rw [if_neg (by omega)] at this; exact this (by omega))
  have hd : ∀ j, 1 ≤ j → j < (cpDecode t o).1 → cpHead (byteAt t (o + j)) = false := fun j j1 j2 => by
    have := head_of (byteAt t (o + j)) (hr _).1 (hr _).2
    rwa [if_pos (i4 j j1 j2)] at this
  have key : ∀ j, 1 ≤ j → j ≤ (cpDecode t o).1 → cpHeads t (o + j) = cpHeads t o + 1 := by
    intro j
    induction j with
    | zero => intro h; omega
    | succ j ih =>
      intro _ hj
      rw [← Nat.add_assoc, cpHeads]
      by_cases e : j = 0
      · subst e; rw [Nat.add_zero, hd0]; rfl
      · rw [ih (by omega) (by omega), hd j (by omega) (by omega)]; rfl
  exact key _ i2 (Nat.le_refl _)
theorem Rn.atN {t : ByteArray} {o : Nat} {T : List Int} (H : Rn t o T) : ∀ {i : Nat}, o ≤ i → i < t.size → ¬ (128 ≤ byteAt t i ∧ byteAt t i ≤ 191) → ∃ k, k < T.length ∧ Rn t i (T.drop k) ∧ Cps t o i ∧ cpHeads t i = cpHeads t o + k := by
  induction H with
  | nil => intro i h1 h2; omega
  | @cons o T h1 h2 h3 ih =>
    intro i hi hit hb
    obtain ⟨i1, i2, i3, i4⟩ := cpDec_in h1 h2
    by_cases e : i = o
    · subst e; exact ⟨0, by simp, .cons h1 h2 h3, .nil _, rfl⟩
    by_cases e2 : i < o + (cpDecode t o).1
    · have := i4 (i - o) (by omega) (by omega)
      rw [show o + (i - o) = i by omega] at this
      exact absurd this hb
    · obtain ⟨k, k1, k2, k3, k4⟩ := ih (by omega) hit hb
      exact ⟨k + 1, by simp; omega, by simpa using k2, .cons h1 h2 k3, by rw [k4, heads_step h1 h2]; omega⟩
theorem cnt_at {t : ByteArray} {i k : Nat} (hi : i ≤ t.size) (H : Cps t 0 i) (hk : cpHeads t i = cpHeads t 0 + k) : cnt (t.extract 0 i) = k := by
  have hz := size_extract t 0 i hi
  have hv : cpValid (t.extract 0 i) = true := by
    rw [cpValid_iff, hz]
    have := H.map (t := t.extract 0 i) (a' := 0) (fun p _ hp => by rw [Nat.zero_add, Nat.sub_zero, byteAt_extract t 0 i p (by omega) hi, Nat.zero_add]) (by omega)
    rw [Nat.zero_add] at this; exact this
  have := cpHeads_same t (t.extract 0 i) 0 i fun p hp => byteAt_extract t 0 i p (by omega) hi
  rw [Nat.zero_add] at this
  unfold cnt
  rw [if_pos hv, hz, Nat.sub_zero]
  omega
theorem Rn.cut {t : ByteArray} {o : Nat} {T : List Int} (H : Rn t o T) : ∀ {t' : ByteArray} {p : Nat}, p ≤ o → t'.size = t.size - p → (∀ j, p ≤ j → j < t.size → byteAt t' (j - p) = byteAt t j) → Rn t' (o - p) T := by
  induction H with
  | nil => intro t' p hp hz _; rw [← hz]; exact .nil
  | @cons o T h1 h2 h3 ih =>
    intro t' p hp hz hb
    obtain ⟨i1, i2, i3, i4⟩ := cpDec_in h1 h2
    have e := cpDec_same (t := t') (a' := o - p) h1 h2 fun j hj => ⟨by have := hb (o + j) (by omega) (by omega); rw [← this]; congr 1; omega, by omega⟩
    have g2 : (cpDecode t' (o - p)).2 = true := by rw [e]; exact h2
    have := ih (t' := t') (p := p) (by omega) hz hb
    rw [show o + (cpDecode t o).1 - p = o - p + (cpDecode t' (o - p)).1 by rw [e]; omega] at this
    have hd : (Utf8.decode t o).1 = (Utf8.decode t' (o - p)).1 := by
      rw [dec_valid h1 h2, dec_valid (by omega) g2, e]
      simp only
      have h4 := cpDecode_le t o
      have hbb : ∀ j, j < (cpDecode t o).1 → byteAt t' (o - p + j) = byteAt t (o + j) := fun j hj => by have := hb (o + j) (by omega) (by omega); rw [← this]; congr 1; omega
      clear e g2 this
      generalize (cpDecode t o).1 = w at *
      have b0 := hbb 0 (by omega)
      simp only [Nat.add_zero] at b0
      have hc : w = 1 ∨ w = 2 ∨ w = 3 ∨ w = 4 := by omega
      rcases hc with rfl | rfl | rfl | rfl
      · simp only [decN, b0]
      · simp only [decN, b0, hbb 1 (by omega)]
      · simp only [decN, b0, hbb 1 (by omega), hbb 2 (by omega)]
      · simp only [decN, b0, hbb 1 (by omega), hbb 2 (by omega), hbb 3 (by omega)]
    rw [hd]
    exact .cons (by omega) g2 this
theorem Rn.rest {t : ByteArray} {p : Nat} {T : List Int} (H : Rn t p T) : Rn (t.extract p t.size) 0 T := by
  have := H.cut (t' := t.extract p t.size) (Nat.le_refl p) (size_extract _ _ _ (Nat.le_refl _)) fun j h1 h2 => by rw [byteAt_extract t p t.size (j - p) (by omega) (Nat.le_refl _)]; congr 1; omega
  rwa [Nat.sub_self] at this
theorem occ_iff {t s : ByteArray} {i : Nat} (hs : 0 < s.size) : Lib.occAt t.data.toList s.data.toList i = true ↔ (i + s.size ≤ t.size ∧ ∀ j, j < s.size → byteAt t (i + j) = byteAt s j) := by
  have e1 : t.data.toList.length = t.size := by rw [Array.length_toList]; rfl
  have e2 : s.data.toList.length = s.size := by rw [Array.length_toList]; rfl
  have hb : ∀ (u : ByteArray) (i : Nat), i < u.size → u.data.toList[i]? = some (UInt8.ofNat (byteAt u i).toNat) := fun u i hi => by
    obtain ⟨_, e⟩ := byteAt_lt hi
    rw [e, Array.getElem?_toList, Array.getElem?_eq_getElem (show i < u.data.size from hi)]
    simp; rfl
  have hinj : ∀ (u v : ByteArray) (i j : Nat), UInt8.ofNat (byteAt u i).toNat = UInt8.ofNat (byteAt v j).toNat → byteAt u i = byteAt v j := fun u v i j e => by
    have h1 := byteAt_range u i
    have h2 := byteAt_range v j
    have := congrArg UInt8.toNat e
    simp only [UInt8.toNat_ofNat'] at this
    omega
  constructor
  · intro h
    have hr := Lib.occAt_room h
    rw [e1, e2] at hr
    have hr : i + s.size ≤ t.size := by
      rcases hr with hr | hr
      · exact hr
      · rw [hr] at e2; simp only [List.length_nil] at e2; omega
    rw [Lib.occAt_iff_take _ _ _ (by rw [e1, e2]; exact hr), beq_iff_eq] at h
    refine ⟨hr, fun j hj => ?_⟩
    have := congrArg (fun l => l[j]?) h
    simp only [List.getElem?_take, e2, if_pos hj, List.getElem?_drop] at this
    rw [hb t (i + j) (by omega), hb s j hj, Option.some.injEq] at this
    exact hinj _ _ _ _ this
  · rintro ⟨hr, h⟩
    rw [Lib.occAt_iff_take _ _ _ (by rw [e1, e2]; exact hr), beq_iff_eq]
    refine List.ext_getElem? fun j => ?_
    simp only [List.getElem?_take, e2, List.getElem?_drop]
    by_cases hj : j < s.size
    · rw [if_pos hj, hb t (i + j) (by omega), hb s j hj, h j hj]
    · rw [if_neg hj, List.getElem?_eq_none (by omega)]
abbrev hit (U S : List Int) (k : Nat) : Prop := (U.drop k).take S.length = S
theorem hit_room {U S : List Int} {k : Nat} (hS : S ≠ []) (h : hit U S k) : k + S.length ≤ U.length := by
  have := congrArg List.length h
  simp only [List.length_take, List.length_drop] at this
  have : S.length ≠ 0 := fun e => hS (List.eq_nil_of_length_eq_zero e)
  omega
theorem occF_skip {U S : List Int} {id : Int} : ∀ (k a g : Nat), (∀ j, j < k → ¬ hit U S (a + j)) → a + k + S.length ≤ U.length → k ≤ g → occF U S id g a = occF U S id (g - k) (a + k)
  | 0, a, g, _, _, _ => rfl
  | k + 1, a, g, h, hr, hg => by
    obtain ⟨g', rfl⟩ : ∃ g', g = g' + 1 := ⟨g - 1, by omega⟩
    rw [occF, if_pos (by omega), if_neg (by have := h 0 (by omega); rwa [Nat.add_zero] at this)]
    rw [occF_skip k (a + 1) g' (fun j hj => by have := h (j + 1) (by omega); rw [show a + 1 + j = a + (j + 1) by omega]; exact this) (by omega) (by omega)]
    rw [show g' + 1 - (k + 1) = g' - k by omega, show a + 1 + k = a + (k + 1) by omega]
theorem occF_none {U S : List Int} {id : Int} : ∀ (g a : Nat), (∀ k, a ≤ k → ¬ hit U S k) → occF U S id g a = []
  | 0, _, _ => rfl
  | g + 1, a, h => by
    rw [occF]
    split
    · rw [if_neg (h a (Nat.le_refl _))]
      exact occF_none g (a + 1) fun k hk => h k (by omega)
    · rfl
theorem Rn.head {t : ByteArray} {o : Nat} {T : List Int} (H : Rn t o T) (h : o < t.size) : T ≠ [] ∧ ¬ (128 ≤ byteAt t o ∧ byteAt t o ≤ 191) := by
  cases H with
  | nil => omega
  | cons h1 h2 h3 => exact ⟨by simp, by rcases dec_parts h1 h2 with g | g | g | g <;> omega⟩
theorem Rn.count {t : ByteArray} {o : Nat} {T : List Int} (H : Rn t o T) : Cps t o t.size ∧ cpHeads t t.size = cpHeads t o + T.length := by
  induction H with
  | nil => exact ⟨.nil _, rfl⟩
  | cons h1 h2 h3 ih => exact ⟨.cons h1 h2 ih.1, by rw [ih.2, heads_step h1 h2]; simp; omega⟩
theorem Rn.nth {t : ByteArray} {o : Nat} {T : List Int} (H : Rn t o T) : ∀ {k : Nat}, k ≤ T.length → ∃ p, Rn t p (T.drop k) ∧ cpHeads t p = cpHeads t o + k := by
  induction H with
  | nil => intro k hk; obtain rfl : k = 0 := by simpa using hk
           exact ⟨_, .nil, rfl⟩
  | @cons o T h1 h2 h3 ih =>
    intro k hk
    cases k with
    | zero => exact ⟨o, .cons h1 h2 h3, rfl⟩
    | succ k =>
      obtain ⟨p, p1, p2⟩ := ih (k := k) (by simpa using hk)
      exact ⟨p, by simpa using p1, by rw [p2, heads_step h1 h2]; omega⟩
theorem heads_up (s : ByteArray) {a : Nat} : ∀ {b : Nat}, a ≤ b → cpHeads s a ≤ cpHeads s b
  | 0, h => by obtain rfl : a = 0 := by omega
               exact Nat.le_refl _
  | b + 1, h => by
    by_cases e : a = b + 1
    · subst e; exact Nat.le_refl _
    · have := heads_up s (a := a) (b := b) (by omega)
      rw [cpHeads]; omega
theorem Rn.cnt {t : ByteArray} {T : List Int} (H : Rn t 0 T) : Sh.cnt t = T.length := by
  obtain ⟨h1, h2⟩ := H.count
  unfold Sh.cnt
  rw [if_pos (cpValid_iff.2 h1), h2]
  simp [cpHeads]
theorem find_occ {s : ByteArray} {S : List Int} (G : Rn s 0 S) (hs : 0 < s.size) (id : Int) : ∀ (f : Nat) (t : ByteArray) (T U : List Int) (a g : Nat), Rn t 0 T → t.size < f → U.drop a = T → a ≤ U.length → U.length - a < g → findF s id f t a = occF U S id g a
  | 0, t, T, U, a, g, _, hf, _, _, _ => by omega
  | f + 1, t, T, U, a, g, H, hf, hU, ha, hg => by
    obtain ⟨hSne, hbyte⟩ := G.head hs
    have hS1 : 1 ≤ S.length := by cases S with | nil => exact absurd rfl hSne | cons x l => simp
    have hSl : cnt s = S.length := G.cnt
    have conv : ∀ i, Lib.occAt t.data.toList s.data.toList i = true → ∃ k, k + S.length ≤ T.length ∧ (T.drop k).take S.length = S ∧ cnt (t.extract 0 i) = k ∧ i + s.size ≤ t.size ∧ Rn t (i + s.size) (T.drop (k + S.length)) ∧ cpHeads t i = cpHeads t 0 + k := fun i hi => by
      obtain ⟨hr, hb⟩ := (occ_iff hs).1 hi
      have h0 := hb 0 hs
      rw [Nat.add_zero] at h0
      obtain ⟨k, k1, k2, k3, k4⟩ := H.atN (Nat.zero_le i) (by omega) (by rw [h0]; exact hbyte)
      obtain ⟨m1, m2⟩ := G.fwd k2 (by omega) fun j hj => by rw [Nat.zero_add]; exact hb j (by omega)
      rw [Nat.sub_zero, List.drop_drop] at m2
      have hm : hit T S k := m1
      exact ⟨k, hit_room hSne hm, m1, cnt_at (by omega) k3 k4, hr, m2, k4⟩
    have back : ∀ k, hit T S k → ∃ p, Lib.occAt t.data.toList s.data.toList p = true ∧ cpHeads t p = cpHeads t 0 + k ∧ p ≤ t.size := fun k hk => by
      have := hit_room hSne hk
      obtain ⟨p, p1, p2⟩ := H.nth (k := k) (by omega)
      obtain ⟨b1, b2⟩ := G.bwd p1 hk
      exact ⟨p, (occ_iff hs).2 ⟨by omega, fun j hj => by have := b2 j (by omega); rwa [Nat.zero_add] at this⟩, p2, p1.le⟩
    have hTU : ∀ k, hit U S (a + k) ↔ hit T S k := fun k => by unfold hit; rw [← hU, List.drop_drop]
    have hlen : T.length = U.length - a := by rw [← hU, List.length_drop]
    have e1 : t.data.toList.length = t.size := by rw [Array.length_toList]; rfl
    rcases Lib.index_spec t.data.toList s.data.toList with ⟨hi, hno⟩ | ⟨i, hi, hle, hocc, hno⟩
    · have hx : ¬ 0 ≤ idx t s := by unfold idx; omega
      rw [findF_stop _ hx, occF_none]
      intro k hk hh
      obtain ⟨p, p1, _, p3⟩ := back (k - a) ((hTU (k - a)).1 (by rw [show a + (k - a) = k by omega]; exact hh))
      rw [hno p (by omega)] at p1; cases p1
    · have hx : idx t s = i := hi
      obtain ⟨k, k1, k2, k3, k4, k5, k6⟩ := conv i hocc
      have hfirst : ∀ j, j < k → ¬ hit U S (a + j) := fun j hj hh => by
        obtain ⟨p, p1, p2, p3⟩ := back j ((hTU j).1 hh)
        by_cases hpi : p < i
        · rw [hno p hpi] at p1; cases p1
        · have := heads_up t (a := i) (b := p) (by omega)
          omega
      rw [findF, if_pos (by rw [hx]; omega)]
      rw [hx, Int.toNat_natCast, k3, hSl]
      rw [occF_skip k a g hfirst (by omega) (by omega)]
      obtain ⟨g', hg'⟩ : ∃ g', g - k = g' + 1 := ⟨g - k - 1, by omega⟩
      rw [hg', occF, if_pos (by omega), if_pos ((hTU k).2 k2)]
      have ez : (t.extract (i + s.size) t.size).size = t.size - (i + s.size) := size_extract _ _ _ (Nat.le_refl _)
      have hrec := find_occ G hs id f (t.extract (i + s.size) t.size) (T.drop (k + S.length)) U (a + k + S.length) g' k5.rest (by omega) (by rw [← hU, List.drop_drop]; congr 1; omega) (by omega) (by omega)
      rw [show ((a : Int) + k + S.length) = ((a + k + S.length : Nat) : Int) by omega, hrec]
      congr 1
theorem mem_flL {p : Place} {f : Fl} : ∀ {l : List Item}, f ∈ Item.flL p l → ∃ x ∈ l, f ∈ Item.fl p x
  | [], h => by simp [Item.flL] at h
  | x :: l, h => by
    rw [Item.flL] at h
    rcases List.mem_append.1 h with h | h
    · exact ⟨x, by simp, h⟩
    · obtain ⟨y, h1, h2⟩ := mem_flL h; exact ⟨y, by simp [h1], h2⟩
theorem mem_rflL {p : Place} {f : Fl} : ∀ {l : List Row}, f ∈ Row.flL p l → ∃ x ∈ l, f ∈ Row.fl p x
  | [], h => by simp [Row.flL] at h
  | x :: l, h => by
    rw [Row.flL] at h
    rcases List.mem_append.1 h with h | h
    · exact ⟨x, by simp, h⟩
    · obtain ⟨y, h1, h2⟩ := mem_rflL h; exact ⟨y, by simp [h1], h2⟩
theorem mem_cflL {p : Place} {f : Fl} : ∀ {l : List Cell}, f ∈ Cell.flL p l → ∃ x ∈ l, f ∈ Cell.fl p x
  | [], h => by simp [Cell.flL] at h
  | x :: l, h => by
    rw [Cell.flL] at h
    rcases List.mem_append.1 h with h | h
    · exact ⟨x, by simp, h⟩
    · obtain ⟨y, h1, h2⟩ := mem_cflL h; exact ⟨y, by simp [h1], h2⟩
theorem flL_all {R : Nat → List Item → Prop} {Q : List Item → Prop} (h0 : ∀ l, ¬ R 0 l) (h1 : ∀ N l, R (N + 1) l → Q l ∧ ∀ x ∈ l, R N x.flow ∧ ∀ r ∈ x.rows, ∀ c ∈ r.cells, R N c.flow) :
    ∀ (N : Nat) (l : List Item) (p : Place), R N l → Q l ∧ ∀ f ∈ Item.flL p l, Q f.items
  | 0, l, _, h => absurd h (h0 l)
  | N + 1, l, p, h => by
    obtain ⟨hq, hx⟩ := h1 N l h
    refine ⟨hq, fun f hf => ?_⟩
    obtain ⟨x, hxl, hf⟩ := mem_flL hf
    obtain ⟨k1, k2⟩ := hx x hxl
    cases x with
    | mk k c i t hd fl r =>
      rw [Item.fl] at hf
      split at hf
      · have := flL_all h0 h1 N fl p.inNote k1
        rcases List.mem_cons.1 hf with rfl | hf
        · exact this.1
        · exact this.2 f hf
      · split at hf
        · obtain ⟨r', hr, hf⟩ := mem_rflL hf
          have k3 := k2 r' hr
          cases r' with
          | mk hd cs =>
            rw [Row.fl] at hf
            obtain ⟨c', hc, hf⟩ := mem_cflL hf
            have k4 := k3 c' hc
            cases c' with
            | mk i hd f' =>
              rw [Cell.fl] at hf
              have := flL_all h0 h1 N f' p.inTable k4
              rcases List.mem_cons.1 hf with rfl | hf
              · exact this.1
              · exact this.2 f hf
        · cases hf
def TxOK (l : List Item) : Prop := (∀ x ∈ l, formOK x ∧ x.text.size ≤ 1000) ∧ l.length ≤ 150
theorem flowAt_tx {d : Document} {K N : Nat} (_hl : lim Head.sized K N d.flow) (hd : okDoc N d) (hf : few N d.flow) (id : Int) : TxOK (flowAt d id) := by
  have key := flL_all (R := fun N l => few N l ∧ ∃ m, okc m N l) (Q := TxOK) (fun l h => h.1) (fun N l h => by
    obtain ⟨⟨f1, f2⟩, m, o⟩ := h
    exact ⟨⟨fun x hx => ⟨(o x hx).1, (f2 x hx).1.1⟩, f1⟩, fun x hx => ⟨⟨(f2 x hx).2.1, m, (o x hx).2.2.1⟩, fun r hr c hc => ⟨((f2 x hx).2.2 r hr).2 c hc, m, (((o x hx).2.2.2.2 r hr).2 c hc).2⟩⟩⟩) N d.flow docPlace ⟨hf, _, hd.flow⟩
  unfold flowAt
  cases hfd : docFlow d id with
  | none => exact ⟨by simp, by simp⟩
  | some f =>
    have hm : f ∈ docFlows d := List.mem_of_find?_eq_some hfd
    rcases List.mem_cons.1 hm with rfl | hm
    · exact key.1
    · exact key.2 f hm
theorem chr_valid (x : Item) : cpValid (chr x) = true ∧ (chr x).size ≤ 3 := by
  have one : ∀ s : ByteArray, (cpDecode s 0).2 = true → (cpDecode s 0).1 = s.size → 0 < s.size → cpValid s = true := fun s h1 h2 h3 =>
    cpValid_iff.2 (.cons h3 h1 (by rw [h2, Nat.zero_add]; exact .nil _))
  unfold chr
  repeat' split
  all_goals exact ⟨one _ (by kernel_rfl) (by kernel_rfl) (by decide), by decide⟩
theorem textS_cons (x : Item) (l : List Item) : textS (x :: l) = txt x ++ textS l := by
  have : (textS (x :: l)).data = (txt x ++ textS l).data := by
    rw [ByteArray.data_append]
    simp [textS, textB]
  cases h1 : textS (x :: l); cases h2 : (txt x ++ textS l); rw [h1, h2] at this; simp only at this; rw [this]
theorem textS_ok : ∀ (l : List Item), (∀ x ∈ l, formOK x ∧ x.text.size ≤ 1000) → cpValid (textS l) = true ∧ (textS l).size ≤ 1000 * l.length
  | [], _ => ⟨cpValid_iff.2 (.nil _), Nat.zero_le _⟩
  | x :: l, h => by
    obtain ⟨i1, i2⟩ := textS_ok l fun y hy => h y (by simp [hy])
    obtain ⟨f1, f2⟩ := h x (by simp)
    have ht : cpValid (txt x) = true ∧ (txt x).size ≤ 1000 := by
      unfold txt
      split
      · exact ⟨f1.2.2, f2⟩
      · have := chr_valid x; exact ⟨this.1, by omega⟩
    rw [textS_cons]
    exact ⟨cpValid_app ht.1 i1, by rw [ByteArray.size_append, List.length_cons]; omega⟩
def sumW (W : Fl → Nat) (l : List Fl) : Nat := (l.map W).sum
theorem sumW_append (W : Fl → Nat) (a b : List Fl) : sumW W (a ++ b) = sumW W a + sumW W b := by simp [sumW]
theorem sumW_fm {α : Type} (W : Fl → Nat) (g : α → List Fl) : ∀ l : List α, sumW W (l.flatMap g) = (l.map fun x => sumW W (g x)).sum
  | [] => rfl
  | x :: l => by rw [List.flatMap_cons, sumW_append, sumW_fm W g l]; simp
theorem sum_le' {α : Type} {f g : α → Nat} : ∀ {l : List α}, (∀ x ∈ l, f x ≤ g x) → (l.map f).sum ≤ (l.map g).sum
  | [], _ => Nat.le_refl _
  | x :: l, h => by
    have h1 := h x (by simp)
    have h2 := sum_le' (l := l) fun y hy => h y (by simp [hy])
    simp only [List.map_cons, List.sum_cons]; omega
theorem sum_one {α : Type} (f : α → Nat) : ∀ l : List α, (l.map fun x => 1 + f x).sum = l.length + (l.map f).sum
  | [] => rfl
  | x :: l => by simp only [List.map_cons, List.sum_cons, List.length_cons, sum_one f l]; omega
def lenW (f : Fl) : Nat := f.items.length
def oneW (_ : Fl) : Nat := 1
theorem flL_sum {hp : Head → Prop} {K : Nat} : ∀ (N : Nat) (l : List Item) (p : Place), lim hp K N l → l.length + sumW lenW (Item.flL p l) ≤ tot N l ∧ sumW oneW (Item.flL p l) ≤ tot N l
  | 0, _, _, h => h.elim
  | N + 1, l, p, H => by
    have hx : ∀ x ∈ l, sumW lenW (Item.fl p x) ≤ tot N x.flow + (x.rows.map fun r => (r.cells.map fun c => 1 + tot N c.flow).sum).sum ∧ sumW oneW (Item.fl p x) ≤ 1 + tot N x.flow + (x.rows.map fun r => (r.cells.map fun c => 1 + tot N c.flow).sum).sum := fun x hx => by
      obtain ⟨_, a, _, b⟩ := H.2.2 x hx
      cases x with
      | mk k c i t hd f r =>
        have a' : lim hp K N f := a
        have b' : ∀ q ∈ r, hp q.head ∧ q.cells.length ≤ K ∧ ∀ c ∈ q.cells, hp c.head ∧ lim hp K N c.flow := b
        rw [Item.fl]
        show _ ≤ tot N f + (r.map _).sum ∧ _ ≤ 1 + tot N f + (r.map _).sum
        by_cases k6 : k = 6
        · rw [if_pos k6]
          obtain ⟨i1, i2⟩ := flL_sum N f p.inNote a'
          simp only [sumW, List.map_cons, List.sum_cons, lenW, oneW] at i1 i2 ⊢
          omega
        · rw [if_neg k6]
          by_cases k7 : k = 7
          · rw [if_pos k7, flLR_fm, sumW_fm, sumW_fm]
            have key : ∀ q ∈ r, sumW lenW (Row.fl p.inTable q) ≤ (q.cells.map fun c => 1 + tot N c.flow).sum ∧ sumW oneW (Row.fl p.inTable q) ≤ (q.cells.map fun c => 1 + tot N c.flow).sum := fun q hq => by
              have := (b' q hq).2.2
              cases q with
              | mk hd cs =>
                rw [Row.fl, flLC_fm, sumW_fm, sumW_fm]
                have kc : ∀ c ∈ cs, sumW lenW (Cell.fl p.inTable c) ≤ 1 + tot N c.flow ∧ sumW oneW (Cell.fl p.inTable c) ≤ 1 + tot N c.flow := fun c hc => by
                  have hcl := (this c hc).2
                  cases c with
                  | mk i hd f' =>
                    obtain ⟨i1, i2⟩ := flL_sum N f' p.inTable hcl
                    rw [Cell.fl]
                    simp only [sumW, List.map_cons, List.sum_cons, lenW, oneW, Cell.flow] at i1 i2 ⊢
                    omega
                exact ⟨sum_le' fun c hc => (kc c hc).1, sum_le' fun c hc => (kc c hc).2⟩
            have k1 := sum_le' (l := r) fun q hq => (key q hq).1
            have k2 := sum_le' (l := r) fun q hq => (key q hq).2
            omega
          · rw [if_neg k7]; simp [sumW]
    rw [flL_fm, sumW_fm, sumW_fm]
    constructor
    · rw [← sum_one]
      exact sum_le' fun x hxl => by have := (hx x hxl).1; omega
    · exact sum_le' fun x hxl => (hx x hxl).2
theorem findF_le {s : ByteArray} (hs : 0 < s.size) (id : Int) : ∀ (f : Nat) (t : ByteArray) (a : Int), (findF s id f t a).length ≤ t.size
  | 0, _, _ => Nat.zero_le _
  | f + 1, t, a => by
    rw [findF]
    split
    · rename_i h
      have hle := idx_le h
      have := findF_le hs id f (t.extract ((idx t s).toNat + s.size) t.size) (a + cnt (t.extract 0 (idx t s).toNat) + cnt s)
      rw [size_extract _ _ _ (Nat.le_refl _)] at this
      rw [List.length_cons]; omega
    · exact Nat.zero_le _
theorem docIds {d : Document} {K N : Nat} (hl : lim Head.sized K N d.flow) (hd : okDoc N d) : ((docFlows d).map Fl.id).Nodup := by
  have h1 := fl_ids docPlace hl
  rw [docFlows, flowsOf, List.map_cons, List.nodup_cons]
  refine ⟨fun h => ?_, hd.nodup.sublist h1⟩
  have h2 : 1 ≤ (0 : Int) := (hd.ids _ (h1.subset h)).1
  omega
theorem flowAt_of {d : Document} {K N : Nat} (hl : lim Head.sized K N d.flow) (hd : okDoc N d) : ∀ f ∈ docFlows d, flowAt d f.id = f.items := fun f hf => by
  unfold flowAt
  cases h : docFlow d f.id with
  | none => exact absurd (List.find?_eq_none.1 h f hf) (by simp)
  | some g =>
    have hg : g ∈ docFlows d := List.mem_of_find?_eq_some h
    have he : g.id = f.id := by have := List.find?_some h; simpa using this
    rw [nodup_one (docIds hl hd) g hg f hf he]; rfl
theorem docFlows_sum {d : Document} {K N : Nat} (hl : lim Head.sized K N d.flow) (ht : tot N d.flow ≤ 150) : (docFlows d).length ≤ 151 ∧ ((docFlows d).map lenW).sum ≤ 150 := by
  obtain ⟨h1, h2⟩ := flL_sum N d.flow docPlace hl
  have e1 : sumW oneW (Item.flL docPlace d.flow) = (Item.flL docPlace d.flow).length := by
    unfold sumW oneW; induction Item.flL docPlace d.flow with
    | nil => rfl
    | cons x l ih => simp only [List.map_cons, List.sum_cons, List.length_cons, ih]; omega
  rw [e1] at h2
  simp only [docFlows, flowsOf, List.length_cons, List.map_cons, List.sum_cons]
  refine ⟨by omega, ?_⟩
  unfold sumW at h1
  simp only [lenW] at h1 ⊢
  omega
theorem findAll_le {d : Document} {K N : Nat} (hl : lim Head.sized K N d.flow) (hd : okDoc N d) (hf : few N d.flow) (ht : tot N d.flow ≤ 150) {s : ByteArray} (hs : 0 < s.size) : (findAll d s).length ≤ 150000 := by
  have h1 : (findAll d s).length = ((docFlows d).map fun f => (findIn d s f.id).length).sum := by
    unfold findAll idsOf
    rw [List.length_flatMap, List.map_map]; rfl
  have h2 : ((docFlows d).map fun f => (findIn d s f.id).length).sum ≤ ((docFlows d).map fun f => 1000 * lenW f).sum := sum_le' fun f hfm => by
    have hx := flowAt_of hl hd f hfm
    have htx := flowAt_tx hl hd hf f.id
    have := textS_ok _ htx.1
    unfold findIn
    have h3 := findF_le hs f.id ((textS (flowAt d f.id)).size + 1) (textS (flowAt d f.id)) 0
    rw [hx] at h3 this ⊢
    unfold lenW
    omega
  have h3 : ((docFlows d).map fun f => 1000 * lenW f).sum = 1000 * ((docFlows d).map lenW).sum := by
    induction docFlows d with
    | nil => rfl
    | cons x l ih => simp only [List.map_cons, List.sum_cons, ih]; omega
  have := (docFlows_sum hl ht).2
  omega
theorem occ_find {d : Document} {K N : Nat} (hl : lim Head.sized K N d.flow) (hd : okDoc N d) (hf : few N d.flow) {s : ByteArray} (hv : cpValid s = true) (hs : 0 < s.size) (id : Int) :
    occF (runes (textS (flowAt d id))) (runes s) id ((runes (textS (flowAt d id))).length + 1) 0 = findIn d s id := by
  have htx := flowAt_tx hl hd hf id
  have ht := rn_of_valid (textS_ok _ htx.1).1
  have := find_occ (rn_of_valid hv) hs id ((textS (flowAt d id)).size + 1) (textS (flowAt d id)) _ (runes (textS (flowAt d id))) 0 ((runes (textS (flowAt d id))).length + 1) ht (Nat.lt_succ_self _) rfl (Nat.zero_le _) (by omega)
  unfold findIn
  rw [← this]; rfl
theorem t12X (d : Document) (r : Rules) {B N : Nat} (hB : B ≤ 1048576) (hd : d.sizedT B N) (R : Rsz r) : TC 12 [d.enc, r.enc] (smallX N d) := by
  intro h n
  refine go Tryz.func12 rfl (by kernel_rfl) (by kernel_rfl) (by simp [go_sem]) fun ho => ?_
  have kp : ∀ (a b : Option SObj), ∀ o z, h o = some z → hset (hset h n a) (n + 1) b o = some z := fun a b => keep2 ho
  have fin : ∀ (b : Bool) (a c : Option SObj) (m : Nat), (b = true → okDoc N d ∧ few N d.flow ∧ tot N d.flow ≤ 150) → RetS n (hset (hset h n a) (n + 1) c) m (.bool b) (fun v h' n' => (smallX N d) v ∧ h' = h ∧ n' = n) := fun b a c m hb => retT ho (kp _ _) (by simp [closed]) ⟨b, rfl, hb⟩
  have fin0 : ∀ (b : Bool) (m : Nat), (b = true → okDoc N d ∧ few N d.flow ∧ tot N d.flow ≤ 150) → RetS n h m (.bool b) (fun v h' n' => (smallX N d) v ∧ h' = h ∧ n' = n) := fun b m hb => retT ho look_same (by simp [closed]) ⟨b, rfl, hb⟩
  have hvl := R.hv
  by_cases h1 : (30 : Int) < r.ranges.length
  · simp [go_sem, Rules.enc, Document.enc, Head.flat, Settings.flat, hset_at, Nat.add_assoc, h1]
    exact fin _ _ _ _ (by simp)
  by_cases h2 : (30 : Int) < r.vars.length
  · simp [go_sem, Rules.enc, Document.enc, Head.flat, Settings.flat, hset_at, Nat.add_assoc, h1, h2]
    exact fin _ _ _ _ (by simp)
  by_cases h3 : (200 : Int) < r.marker.size
  · simp [go_sem, Rules.enc, Document.enc, Head.flat, Settings.flat, hset_at, Nat.add_assoc, h1, h2, h3]
    exact fin _ _ _ _ (by simp)
  simp [go_sem, Rules.enc, Document.enc, Head.flat, Settings.flat, hset_at, Nat.add_assoc, h1, h2, h3]
  refine goloop 1 (α := Nat) (fun k => [(2, .iptr (dcs d)), (3, .iptr (rcs r)), (5, intE k)]) (fun _ => h) (fun k m => k ≤ r.vars.length ∧ n ≤ m) (fun k => r.vars.length - k) 0 ?_ ?_ (keep2 ho) ?_
  · simp
  · intro p hp
    simp only [List.mem_cons, List.not_mem_nil, or_false] at hp
    rcases hp with rfl | rfl | rfl
    · exact ptr_fz (fz_none ho n (Nat.le_refl _)) (by simp [hset_at, hset_ne, Head.flat, Settings.flat])
    · exact ptr_fz (fz_none ho (n + 1) (by omega)) (by simp [hset_at])
    · exact Fz.same
  rintro k m ⟨hk, hnm⟩
  by_cases hlt : k < r.vars.length
  · have w1 : IntKind.i64.wrap ((k : Int) + 1) = ((k + 1 : Nat) : Int) := by rw [wr64] <;> omega
    by_cases h4 : (200 : Int) < (r.vars[k]).size
    · simp [go_sem, hlt, h4]
      exact fin0 _ _ (by simp)
    · simp [go_sem, hlt, h4, w1, -Int.natCast_add]
      exact ⟨k + 1, by omega, ⟨by omega, hnm⟩, Fz.same⟩
  · simp [go_sem, hlt, Head.flat, Settings.flat]
    refine TC.use (by simpa [Document.enc, Head.flat, Settings.flat] using t12x_s d hB hd) ?_
    rintro v ⟨b, rfl, hb⟩
    simp [go_sem]
    exact fin0 _ _ hb
theorem TC.wk {f : FuncId} {us bs : List SV} {T : SV → Prop} (k : Nat) (H : TC f bs T) (hw : All2 (Fz (fun _ => none) (fun _ => none) k) us bs) : TC f us T := fun h n =>
  SCallE.fz k (fun _ _ e => e) (hw.mono fun _ _ => Fz.any k) (H h n)
theorem fo53 : (fieldsOfT Tryz.prog 53).map (fun f => (f.name == "_", f.type, f.offset)) = [(false, 3, 0), (false, 3, 1), (false, 3, 2)] := by kernel_rfl
theorem eq53s (x : Rng) : fieldsEq Tryz.prog [intE x.flow, intE x.a, intE x.b] [intE x.flow, intE x.a, intE x.b] (fieldsOfT Tryz.prog 53) = some true := by
  rw [fieldsEq_map, fo53]
  cases x; simp [fieldsEq', cellEq, go_sem]
def zeroR : Rules := ⟨[], .empty, false, false, false, false, []⟩
theorem t12Z (d : Document) {B N : Nat} (hB : B ≤ 1048576) (hd : d.sizedT B N) : TC 12 [d.enc, .agg [.imm 0 [] true, .str .empty, .bool false, .bool false, .bool false, .bool false, .imm 0 [] true]] (smallX N d) :=
  (t12X d zeroR hB hd ⟨by simp [zeroR], by simp [zeroR], by simp [zeroR]⟩).wk 2 ⟨Fz.same, .inr ⟨.inr ⟨by simp, .inl rfl, trivial, by simp [zeroR]⟩, Fz.same, Fz.same, Fz.same, Fz.same, Fz.same, .inr ⟨by simp, .inl rfl, trivial, by simp [zeroR]⟩, trivial⟩, trivial⟩
set_option maxHeartbeats 8000000 in
theorem g4 (g11 : GC 11 [] (.bool true)) (h42 : ∀ (l : List Item) (id : Int) (s : ByteArray), l.length ≤ 1048576 → (textB l).length ≤ 1048576 → s.size ≤ 1048576 → runes s ≠ [] → PC 42 [itemsE l, intE id, .str s] (rngsE (occF (runes (textS l)) (runes s) id ((runes (textS l)).length + 1) 0)))
    (d : Document) (s0 : ByteArray) (hs0 : s0.size ≤ 1048576) {B N : Nat} (hB : B ≤ 1048576) (hd : d.sizedT B N) (D : Dsz d) : GC 4 [d.enc, .str s0] (.bool true) := by
  intro E hI h n
  refine go Tryz.func4 rfl (by kernel_rfl) (by kernel_rfl) (by simp [go_sem]) fun ho => ?_
  have keep1 : ∀ (a : Option SObj), ∀ o y, h o = some y → hset h n a o = some y := fun a => hset_old ho (Nat.le_refl _) look_same
  obtain ⟨k, hk⟩ : ∃ k, k = min s0.size 100 := ⟨_, rfl⟩
  have hmin : (if (100 : Int) < (s0.size : Int) then (100 : Int) else (s0.size : Int)) = (k : Int) := by split <;> omega
  have hk1 : (k : Int) ≤ s0.size := by omega
  simp [go_sem, Document.enc, Head.flat, Settings.flat, hmin, hk1]
  have hks : (s0.extract 0 k).size ≤ 100 := by rw [ByteArray.size_extract]; omega
  generalize s0.extract 0 k = s at *
  refine g11.use hI ?_
  simp [go_sem, hset_at]
  refine TC.use (by simpa [Document.enc, Head.flat, Settings.flat] using t12Z d hB hd) ?_
  rintro v ⟨b, rfl, hb⟩
  cases b
  · simp [go_sem]
    refine g11.use hI ?_
    simp [go_sem]
    exact retIs ho (keep1 _) rfl rfl
  obtain ⟨hok, hfw, htt⟩ := hb rfl
  have hn := docFlows_sum hd.flow htt
  have htx := fun id => flowAt_tx hd.flow hok hfw id
  have htz : ∀ id, (textB (flowAt d id)).length ≤ 150000 := fun id => by
    have h1 := (textS_ok _ (htx id).1).2
    have h2 := (htx id).2
    have h3 : (textS (flowAt d id)).size = (textB (flowAt d id)).length := by simp [textS, ByteArray.size]
    omega
  have hfa : s.size ≠ 0 → (findAll d s).length ≤ 1048576 := fun h0 => by have := findAll_le hd.flow hok hfw htt (s := s) (by omega); omega
  simp [go_sem, hset_at]
  refine GC.use (by simpa [Document.enc, Head.flat, Settings.flat] using g15 d s D (by omega) (by omega) (fun id => by have := htz id; omega) hfa) hI ?_
  unfold findV
  cases hv : cpValid s
  · simp [go_sem]
    refine (c116 s (by omega)).use ?_
    simp [go_sem, hv]
    exact retIs ho (keep1 _) rfl rfl
  by_cases h0 : s.size = 0
  · have he : s.toList = [] := (ba_nil s).2 h0
    simp [go_sem, h0]
    refine (c116 s (by omega)).use ?_
    simp [go_sem, hv, he]
    exact retIs ho (keep1 _) rfl rfl
  have he : s.toList ≠ [] := fun e => h0 ((ba_nil s).1 e)
  have hrn : runes s ≠ [] := (rn_of_valid hv).head (by omega) |>.1
  have h17 : PC 17 [d.enc, .str s] (rngsE (findAll d s)) := by
    have := c17 d s (findIn d s) D (by omega) (fun id => by
      have := h42 (flowAt d id) id s (flowAt_ok D id).1 (by have := htz id; omega) (by omega) hrn
      rwa [occ_find hd.flow hok hfw hv (by omega)] at this) (hfa h0)
    exact this
  by_cases hbig : 1024 < (findAll d s).length
  · have hbig' : (1024 : Int) < (findAll d s).length := by omega
    simp [go_sem, h0, hbig]
    refine (c116 s (by omega)).use ?_
    simp [go_sem, hv, he, hset_at]
    refine PC.use (by simpa [Document.enc, Head.flat, Settings.flat] using h17) ?_
    simp [go_sem, hbig']
    exact retIs ho (keep1 _) rfl rfl
  · have hbig' : ¬ (1024 : Int) < (findAll d s).length := by omega
    simp [go_sem, h0, hbig]
    refine (c116 s (by omega)).use ?_
    simp [go_sem, hv, he, hset_at]
    refine PC.use (by simpa [Document.enc, Head.flat, Settings.flat] using h17) ?_
    simp [go_sem, hbig', hset_at]
    refine PC.use (by simpa [Document.enc, Head.flat, Settings.flat] using h17) ?_
    simp [go_sem]
    have hlen : (findAll d s).length ≤ 1024 := by omega
    generalize findAll d s = fa at *
    refine goloop 1 (α := Nat) (fun k => [(5, rngsE fa), (8, rngsE fa), (9, intE k)]) (fun _ => h) (fun k m => k ≤ fa.length ∧ n ≤ m) (fun k => fa.length - k) 0 ?_ ?_ (keep1 _) ?_
    · exact ⟨Nat.zero_le _, by omega⟩
    · simp [look]
    rintro k m ⟨hk1, hnm⟩
    by_cases hlt : k < fa.length
    · have w1 : IntKind.i64.wrap ((k : Int) + 1) = ((k + 1 : Nat) : Int) := by rw [wr64] <;> omega
      obtain ⟨x, hx⟩ : ∃ x, fa[k] = x := ⟨_, rfl⟩
      simp [go_sem, hlt, hx, Rng.enc]
      repeat first | refine nd (by kernel_rfl) ?_ | refine sd (by kernel_rfl) ?_
      refine ⟨_, sem_structEq rfl (.inr rfl) (by kernel_rfl) (by kernel_rfl) (by kernel_rfl) rfl rfl (eq53s x), ?_⟩
      repeat first | refine nd (by kernel_rfl) ?_ | refine sd (by kernel_rfl) ?_
      simp [w1, -Int.natCast_add]
      exact ⟨k + 1, by omega, ⟨by omega, hnm⟩, Fz.same⟩
    · simp [go_sem, hlt]
      exact ret0 ho rfl rfl
end Go.Proofs.YthinbkgpjmjfeaaGreatDoor.Sh
namespace Go.Proofs.YthinbkgpjmjfeaaGreatDoor.redactFinds
open Go.ChangeShapes Go.WideShapes Go.ChangeAt Go.RowKit
open Go.Proofs.YthinbkgpjmjfeaaGreatDoor.Sh
set_option maxRecDepth 10000
theorem own : ownKnob Tryz.prog.godebug = none := by kernel_rfl
theorem contract (H : Type) (enc : TypeId × Value → H) (W : World) (base : Nat) (args : Array Value) (ds gs : List (DataW H)) (before : List MemPlace)
    (hval : ∀ (j : Nat) t v, Tryz.f4.params[j]? = some t → args[j]? = some v → Value.okWide Tryz.prog W .any base t v)
    (hW : DataW.Whole enc Tryz.prog Tryz.f4.params.toList Rows.redactFindsSpec.vars false W args.toList ds gs before) (hk : Rows.uptoSmall H (ds ++ gs) = true) (hsh : W.ShapedOpen Tryz.prog) :
    Calls Tryz.prog 4 args W fun e W' => ∃ v, e = .returned v ∧ Rows.redactFindsSpec.post enc Tryz.prog Tryz.f4 false true false false W args v W' := by
  have hW' := hW
  obtain ⟨p, q, hA, hV, rfl, hfz, hnd⟩ := hW
  rw [Tryz.params4] at hA hval
  obtain ⟨v0, vs0, d0, ds0, p0, q0, hargs, rfl, rfl, ⟨n0, h0⟩, r0⟩ := trodAll_cons hA
  obtain ⟨v1, vs1, d1, ds1, p1, q1, rfl, rfl, rfl, ⟨n1, h1⟩, r1⟩ := trodAll_cons r0
  obtain ⟨rfl, rfl, rfl⟩ := trodAll_nil r1
  obtain rfl : args = #[v0, v1] := by cases args; simp_all
  obtain ⟨rfl, rfl⟩ := trodVars_none hV
  rw [List.append_nil] at hk
  have hb : Rows.uptoBulkAll [d0, d1] ≤ 1048576 := of_decide_eq_true hk
  simp only [Rows.uptoBulkAll] at hb
  obtain ⟨d, a1, a2⟩ := (rDocument n0).arg Tryz.underlying38 (hval 0 38 v0 rfl rfl) h0 (by unfold BB; dsimp only; omega)
  obtain ⟨s, rfl, rfl, rfl, ws⟩ := Go.ChangeMaps.open_string Tryz.underlying9 (hval 1 9 v1 rfl rfl) ⟨n1, h1⟩
  have hss : s.size ≤ 1048576 := by
    have e : s.data.toList.length = s.size := by rw [Array.length_toList]; rfl
    simp only [Rows.uptoBulk] at hb
    omega
  have hBB : BB ≤ 1048576 := by unfold BB; exact Nat.le_refl _
  have hl := a2.flow.sized (fun _ h => h) hBB
  have g := Sh.g4 g11 c42 d s hss hBB a2 ⟨hl.1, hl.2, a2.settings.vars⟩
  have hc := (g EI (fun _ i => i) (fun _ => none) 0).2 (cx0 W) [v0, .string s] ⟨Tryz.sIdx.s1_3 W hsh, fun h => h⟩ (rel0 W) (fun _ _ => rfl) ⟨a1, by show V _ _ _; rw [V], trivial⟩
  refine Calls.mono hc ?_
  rintro e W' ⟨u, v', h', n', c', rfl, ⟨rfl, _⟩, rfl, hV, _, _, hA⟩
  have hE := hA.ext
  have hu : u = .bool true := by rw [V] at hV; exact hV
  subst hu
  refine ⟨_, rfl, post_still (x := .lit (.bool true)) hW' rfl (by rw [Tryz.params4]; exact of_decide_eq_true (by kernel_rfl)) hE.os hE.out (fun b hb => ext_block hE hb) rfl (fun _ _ _ => trodAll_cons_mk (shut_bool Tryz.underlying4 _) trodAll_mk0) (ok_one (by kernel_rfl) rfl (okWide_bool_mk Tryz.underlying4 _))⟩
def zi : Value := .int .i64 0
def zl : Value := .slice none 0 0
def witD : Value := .agg #[zl, zl, zi, zi, zl, zl, zl, zl, zl, zl, zl]
def wit : Array Value := #[witD, .string .empty]
def li {H : Type} : DataW H := .lit (.int .i64 0)
def litV : DataW Unit → Value
  | .lit (.int k n) => .int k n
  | _ => .bool false
def aggV : DataW Unit → Array Value
  | .agg l => (l.map litV).toArray
  | _ => #[]
noncomputable def laidWorld (os : Os) : World :=
  let w0 := World.holding Tryz.prog os ⟨#[], #[], []⟩
  let put (h : Array Obj) (g : Nat) (cs : Array Value) : Array Obj := h.modify g fun
    | .cells _ t frozen => .cells cs t frozen
    | o => o
  { w0 with heap := put (put (put w0.heap 1 (aggV Rows.laid_internal_strconv_uint64pow10)) 2 (aggV Rows.laid_math_bits_deBruijn32tab)) 3 (aggV Rows.laid_math_bits_deBruijn64tab) }
theorem laid_met (os : Os) : laidMet Tryz.prog Rows.redactFindsUptoRow.laid ((laidWorld os).forCall (fun _ _ => 0) ⟨#[], wit, []⟩).memory :=
  (LaidIn.of_run (l := [("math/bits.deBruijn32tab", Rows.laid_math_bits_deBruijn32tab), ("math/bits.deBruijn64tab", Rows.laid_math_bits_deBruijn64tab), ("internal/strconv.uint64pow10", Rows.laid_internal_strconv_uint64pow10)]) [1, 2, 3] 8 (by kernel_rfl) (by kernel_rfl) (by kernel_rfl) (by kernel_rfl)).met
theorem witness_row (os : Os) {H : Type} (enc : TypeId × Value → H) :
    (Rows.OpenSpec.upto Rows.redactFindsSpec).preRow enc Tryz.prog Tryz.f4 Rows.redactFindsUptoRow.domain false Rows.redactFindsUptoRow.laid ((laidWorld os).forCall (fun _ _ => 0) ⟨#[], wit, []⟩).memory wit := by
  have hw : (DataW.whole enc Tryz.prog ((laidWorld os).forCall (fun _ _ => 0) ⟨#[], wit, []⟩).memory Tryz.f4.params.toList (Rows.OpenSpec.upto Rows.redactFindsSpec).vars false wit.toList 12).map (fun x => (x.1, x.2.1)) =
      some ([.agg [.nil, .agg [.nil, .agg [li, li, .nil, .nil]], .nil, .agg [.nil, .nil, .nil, .nil]], .lit (.string [])], []) := by kernel_rfl
  obtain ⟨⟨x1, x2, x3⟩, hx, hx1⟩ := Option.map_eq_some_iff.1 hw
  simp only [Prod.mk.injEq] at hx1
  obtain ⟨rfl, rfl⟩ := hx1
  exact OpenSpec.preRow_of_cond 12 hx (by kernel_rfl) (fun k hk => by cases hk; kernel_rfl) (by kernel_rfl) (laid_met os)
set_option maxRecDepth 100000 in
theorem lifted (os : Os) (started : os.Started) (H : Type) (enc : TypeId × Value → H) (F : Stop.Interp) :
    ReturnsInHanded {} Tryz.checked os 4 .any ((Rows.OpenSpec.upto Rows.redactFindsSpec).preRow enc Tryz.prog Tryz.f4 Rows.redactFindsUptoRow.domain false Rows.redactFindsUptoRow.laid) (((Rows.OpenSpec.upto Rows.redactFindsSpec).at F).post enc Tryz.prog Tryz.f4 false true false false) := by
  refine returnsInHanded_of_row (C := Tryz.checked) (s := Rows.OpenSpec.upto Rows.redactFindsSpec) own started (by kernel_rfl) Tryz.func4
    (witness_row_atRef (enc := enc) (C := Tryz.checked) false (laidWorld os) wit rfl (by kernel_rfl) (by kernel_rfl) (by kernel_rfl) (witness_row os enc)) ?_
  intro W base args ds gs before hval hW _ hk _ _ hsh _
  exact contract H enc W base args ds gs before hval hW (hk _ rfl) hsh
theorem named : Tryz.checked.prog.funcNamed Rows.redactFindsUptoRow.func = some 4 := by kernel_rfl
theorem inst : Tryz.f4.isInstance Tryz.checked.prog Rows.redactFindsUptoRow.origin Rows.redactFindsUptoRow.targs := of_decide_eq_true (by kernel_rfl)
theorem wrap : Tryz.f4.isWrapper Tryz.checked.prog Rows.redactFindsUptoRow.wrapper Rows.redactFindsUptoRow.mainSum := by unfold Func.isWrapper; first | (rw [if_pos (by decide +kernel)]; kernel_rfl) | (rw [if_neg (by decide +kernel)]; exact ⟨rfl, rfl⟩)
theorem holds : Rows.RedactFindsUptoSaid :=
  OpenClaim.holds_of_cond 4 Tryz.f4 rfl rfl rfl rfl rfl rfl rfl ⟨rfl, rfl, rfl, rfl, rfl⟩ rfl rfl rfl rfl rfl named Tryz.func4 facts inst wrap
    (fun os started H enc _ F => by rw [OpenClaim.pre_eq_preRow]; exact lifted os started H enc F)
theorem looks : false = Tryz.prog.looks [] := by kernel_rfl
theorem proved : Rows.RedactFindsUptoCardSaid :=
  Claim7.holds_tied_plain_at .later [] [.data, .data, .data] true (true, "ef56d7b56468dc3211ac09fe492ba78587841a53dc1d8aea719d901f9a3fe7d6") false
    holds (fun _ h => by cases h) (by kernel_rfl) (fun _ h => by cases h) redactFindsUpto_row_tie rfl ⟨rfl, rfl⟩ (by kernel_rfl) rfl
    (fun f fn hf hfn => by
      obtain rfl : f = 4 := Option.some.inj (named.symm.trans hf) |>.symm
      obtain rfl : fn = Tryz.f4 := (Option.some.inj (Tryz.func4.symm.trans hfn)).symm
      exact ⟨looks, fun j t ht => by
        rw [Tryz.params4] at ht
        have h3 : t = 38 ∨ t = 9 := by
          rcases j with _ | _ | j
          · exact .inl (by simpa using ht.symm)
          · exact .inr (by simpa using ht.symm)
          · simp at ht
        rcases h3 with rfl | rfl
        · exact (show Tryz.prog.wantsStandIn 38 = false by kernel_rfl)
        · exact (show Tryz.prog.wantsStandIn 9 = false by kernel_rfl)⟩)
    (by kernel_rfl)
#print axioms proved
end Go.Proofs.YthinbkgpjmjfeaaGreatDoor.redactFinds
