/- A part of the proof (part 7 of 13). -/
import Derived.Test.YthinbkgpjmjfeaaGreatDoorN6
import Derived.Lib.ConvBytes
import Derived.Lib.UnsafeStr
import Derived.Lib.Builder
import Derived.Laws.Externs
import Derived.BigFrame
import Derived.WalkKit
import Derived.Lib.Overlaps
import Derived.Lib.AppendZerosOnto
namespace Go.Proofs.YthinbkgpjmjfeaaGreatDoor.Sh
open Proofs
set_option maxRecDepth 10000
theorem t150 (N : Nat) (hN : N ≤ 1048576) (g : FuncId) (a b : List SV) (hF : ∀ j, j < N → TC g (a ++ [intE j] ++ b) anyE) : TC 143 [intE N, .fn (.func g) a b] anyE := by
  intro h n
  refine go Tryz.func143 rfl (by kernel_rfl) (by kernel_rfl) (by simp [go_sem]) fun ho => ?_
  simp [go_sem]
  refine goloop 0 (α := Nat) (fun k => [(1, .fn (.func g) a b), (7, intE N), (8, intE k)]) (fun _ => h) (fun k m => k ≤ N ∧ n ≤ m) (fun k => N - k) 0 ⟨Nat.zero_le _, Nat.le_refl _⟩ ?_ look_same ?_
  · simp [look, Fz]
  rintro k m ⟨hk, hnm⟩
  by_cases hlt : k < N
  · have w1 : IntKind.i64.wrap ((k : Int) + 1) = ((k + 1 : Nat) : Int) := by rw [wr64] <;> omega
    have F0 := hF k hlt
    simp only [List.append_assoc, List.singleton_append] at F0
    simp [go_sem, hlt]
    refine F0.use ?_
    rintro v ⟨e, rfl⟩
    by_cases h0 : e = 0
    · simp [go_sem, h0, w1, -Int.natCast_add]
      exact ⟨k + 1, by omega, ⟨by omega, hnm⟩, rfl⟩
    · simp [go_sem, h0]
      exact retT ho look_same (by simp [closed]) ⟨e, rfl⟩
  · simp [go_sem, hlt]
    exact retT ho look_same (by simp [closed]) ⟨0, rfl⟩
def trQ : Tr := .pure 0 <| .pure 1 <| .pure 2 <| .pure 4 <| .pure 5 <| .pure 6 <| .pure 7 <| .one 3 <| .one 8 <| .one 9 <| .one 10 <| .one 11 .nil
theorem t147 (l : List Lst) (hl : l.length ≤ 1048576) (hc : ∀ i, i < l.length → TC 189 [intE i, .iptr [listsE l]] anyE) : TC 140 [listsE l] anyE := by
  intro h n
  refine goS Tryz.func140 rfl (by kernel_rfl) (by kernel_rfl) (by simp [go_sem]) fun ho => ?_
  have hHb : ∀ j y, h j = some y → j < n := fun j y e => (ho j y e).1
  refine SP_mid 1 (α := Unit) (fun _ => [(1, .iptr [listsE l])]) (fun _ => h) (fun _ m => n ≤ m) ?_ (fun _ m hm => ?_)
  · simp [go_sem]
    exact ⟨ptr_fz (lt_none hHb (Nat.le_refl _)) (hset_at _ _ _), set_keep hHb look_same⟩
  refine SP_midS 0 (α := Int) (fun e => [(2, intE e)]) (fun _ => h) (fun _ m => n ≤ m) (SP_tr trQ rfl (by kernel_rfl) (by kernel_rfl) ?_) (fun e m hm => ?_)
  · have hHm : ∀ j y, h j = some y → j < m := fun j y e => by have := hHb j y e; omega
    have hN : (if (64 : Int) < l.length then (64 : Int) else l.length) = ((min l.length 64 : Nat) : Int) := by split <;> omega
    simp [go_sem, trQ]
    refine (c87 _ _).use ?_
    simp [go_sem, hN]
    refine (t150 (min l.length 64) (by omega) 189 [] [.iptr [listsE l]] (fun j hj => hc j (by omega))).use ?_
    rintro v ⟨e2, rfl⟩
    simp [go_sem]
    generalize (if 64 < (l.length : Int) then (9 : Int) else 0) = e1
    refine SCallE.fz (bs := [.imm 1 ([e1, e2].map intE) false]) (h2 := h) 1 (set_keep hHm look_same) ⟨?_, trivial⟩ ?_
    · exact sl_fz (es := [intE e1, intE e2]) (lt_none hHm (Nat.le_refl _)) (by simp) (by rw [hset_at]; simp [SV.cells]) (by simp [SV.storable, SV.cells])
    refine (c82 _ (by simp)).use ?_
    simp [go_sem]
    exact ⟨by omega, _, Fz.same⟩
  · refine SP_of ?_
    simp [go_sem]
    exact retT ho look_same (by simp [closed]) ⟨e, rfl⟩
theorem t148 (l : List Comment) (hl : l.length ≤ 1048576) (hc : ∀ i, i < l.length → TC 192 [intE i, .iptr [commentsE l]] anyE) : TC 141 [commentsE l] anyE := by
  intro h n
  refine goS Tryz.func141 rfl (by kernel_rfl) (by kernel_rfl) (by simp [go_sem]) fun ho => ?_
  have hHb : ∀ j y, h j = some y → j < n := fun j y e => (ho j y e).1
  refine SP_mid 1 (α := Unit) (fun _ => [(1, .iptr [commentsE l])]) (fun _ => h) (fun _ m => n ≤ m) ?_ (fun _ m hm => ?_)
  · simp [go_sem]
    exact ⟨ptr_fz (lt_none hHb (Nat.le_refl _)) (hset_at _ _ _), set_keep hHb look_same⟩
  refine SP_midS 0 (α := Int) (fun e => [(2, intE e)]) (fun _ => h) (fun _ m => n ≤ m) (SP_tr trQ rfl (by kernel_rfl) (by kernel_rfl) ?_) (fun e m hm => ?_)
  · have hHm : ∀ j y, h j = some y → j < m := fun j y e => by have := hHb j y e; omega
    have hN : (if (1024 : Int) < l.length then (1024 : Int) else l.length) = ((min l.length 1024 : Nat) : Int) := by split <;> omega
    simp [go_sem, trQ]
    refine (c87 _ _).use ?_
    simp [go_sem, hN]
    refine (t150 (min l.length 1024) (by omega) 192 [] [.iptr [commentsE l]] (fun j hj => hc j (by omega))).use ?_
    rintro v ⟨e2, rfl⟩
    simp [go_sem]
    generalize (if 1024 < (l.length : Int) then (9 : Int) else 0) = e1
    refine SCallE.fz (bs := [.imm 1 ([e1, e2].map intE) false]) (h2 := h) 1 (set_keep hHm look_same) ⟨?_, trivial⟩ ?_
    · exact sl_fz (es := [intE e1, intE e2]) (lt_none hHm (Nat.le_refl _)) (by simp) (by rw [hset_at]; simp [SV.cells]) (by simp [SV.storable, SV.cells])
    refine (c82 _ (by simp)).use ?_
    simp [go_sem]
    exact ⟨by omega, _, Fz.same⟩
  · refine SP_of ?_
    simp [go_sem]
    exact retT ho look_same (by simp [closed]) ⟨e, rfl⟩
theorem t149 (l : List Var) (hl : l.length ≤ 1048576) (hc : ∀ i, i < l.length → TC 197 [intE i, .iptr [varsE l]] anyE) : TC 142 [varsE l] anyE := by
  intro h n
  refine goS Tryz.func142 rfl (by kernel_rfl) (by kernel_rfl) (by simp [go_sem]) fun ho => ?_
  have hHb : ∀ j y, h j = some y → j < n := fun j y e => (ho j y e).1
  refine SP_mid 1 (α := Unit) (fun _ => [(1, .iptr [varsE l])]) (fun _ => h) (fun _ m => n ≤ m) ?_ (fun _ m hm => ?_)
  · simp [go_sem]
    exact ⟨ptr_fz (lt_none hHb (Nat.le_refl _)) (hset_at _ _ _), set_keep hHb look_same⟩
  refine SP_midS 0 (α := Int) (fun e => [(2, intE e)]) (fun _ => h) (fun _ m => n ≤ m) (SP_tr trQ rfl (by kernel_rfl) (by kernel_rfl) ?_) (fun e m hm => ?_)
  · have hHm : ∀ j y, h j = some y → j < m := fun j y e => by have := hHb j y e; omega
    have hN : (if (128 : Int) < l.length then (128 : Int) else l.length) = ((min l.length 128 : Nat) : Int) := by split <;> omega
    simp [go_sem, trQ]
    refine (c87 _ _).use ?_
    simp [go_sem, hN]
    refine (t150 (min l.length 128) (by omega) 197 [] [.iptr [varsE l]] (fun j hj => hc j (by omega))).use ?_
    rintro v ⟨e2, rfl⟩
    simp [go_sem]
    generalize (if 128 < (l.length : Int) then (9 : Int) else 0) = e1
    refine SCallE.fz (bs := [.imm 1 ([e1, e2].map intE) false]) (h2 := h) 1 (set_keep hHm look_same) ⟨?_, trivial⟩ ?_
    · exact sl_fz (es := [intE e1, intE e2]) (lt_none hHm (Nat.le_refl _)) (by simp) (by rw [hset_at]; simp [SV.cells]) (by simp [SV.storable, SV.cells])
    refine (c82 _ (by simp)).use ?_
    simp [go_sem]
    exact ⟨by omega, _, Fz.same⟩
  · refine SP_of ?_
    simp [go_sem]
    exact retT ho look_same (by simp [closed]) ⟨e, rfl⟩
theorem c211 (l : List Lst) (i : Nat) (hi : i < l.length) : PC 190 [intE i, .iptr [listsE l]] (intE (l[i]).id) := by
  intro h n
  refine go Tryz.func190 rfl (by kernel_rfl) (by kernel_rfl) (by simp [go_sem]) fun ho => ?_
  simp [go_sem, hi, Lst.enc]
  exact ret0 ho rfl rfl
def trO : Tr := .pure 0 <| .pure 1 <| .pure 3 <| .pure 4 <| .pure 5 <| .pure 6 <| .pure 7 <| .one 2 <| .one 8 <| .one 9 <| .one 10 <| .one 11 .nil
theorem t210 (l : List Lst) (hl : l.length ≤ 1048576) (i : Nat) (hi : i < l.length) (hc : TC 191 [levelsE (l[i]).levels] anyE) : TC 189 [intE i, .iptr [listsE l]] anyE := by
  intro h n
  refine goS Tryz.func189 rfl (by kernel_rfl) (by kernel_rfl) (by simp [go_sem]) fun ho => ?_
  have hHb : ∀ j y, h j = some y → j < n := fun j y e => (ho j y e).1
  obtain ⟨x, hx⟩ : ∃ x, l[i] = x := ⟨_, rfl⟩
  rw [hx] at hc
  refine SP_mid 0 (α := Unit) (fun _ => [(0, intE i), (1, .iptr [listsE l])]) (fun _ => h) (fun _ m => n ≤ m) ?_ (fun _ m hm => ?_)
  · simp [go_sem, Fz.same]
  refine SP_midS 0 (α := Int) (fun e => [(3, intE e)]) (fun _ => h) (fun _ m => n ≤ m) (SP_tr trO rfl (by kernel_rfl) (by kernel_rfl) ?_) (fun e m hm => ?_)
  · have hHm : ∀ j y, h j = some y → j < m := fun j y e => by have := hHb j y e; omega
    simp [go_sem, trO, hi, hx, Lst.enc]
    have hF : ∀ j, j ≤ i → PC 190 ([] ++ [intE j] ++ [.iptr [listsE l]]) (intE (match l[j]? with | some r => r.id | none => 0)) := fun j hj => by
      have hj2 : j < l.length := by omega
      simpa [hj2] using c211 l j hj2
    refine (c152 i (by omega) 190 [] [.iptr [listsE l]] (fun j => match l[j]? with | some r => r.id | none => 0) hF).use ?_
    generalize incrE (fun j => match l[j]? with | some r => r.id | none => 0) i = e1
    simp [go_sem]
    refine hc.use ?_
    rintro v ⟨e2, rfl⟩
    simp [go_sem]
    refine SCallE.fz (bs := [.imm 1 ([e1, e2].map intE) false]) (h2 := h) 1 (set_keep hHm look_same) ⟨?_, trivial⟩ ?_
    · exact sl_fz (es := [intE e1, intE e2]) (lt_none hHm (Nat.le_refl _)) (by simp) (by rw [hset_at]; simp [SV.cells]) (by simp [SV.storable, SV.cells])
    refine (c82 _ (by simp)).use ?_
    simp [go_sem]
    exact ⟨by omega, _, Fz.same⟩
  · refine SP_of ?_
    simp [go_sem]
    exact retT ho look_same (by simp [closed]) ⟨e, rfl⟩
theorem t212 (l : List Level) (hl : l.length ≤ 1048576) (hc : ∀ x ∈ l, ∀ k : Int, TC 249 [.str x.template, intE k] anyE) : TC 191 [levelsE l] anyE := by
  intro h n
  refine goS Tryz.func191 rfl (by kernel_rfl) (by kernel_rfl) (by simp [go_sem]) fun ho => ?_
  have hHb : ∀ j y, h j = some y → j < n := fun j y e => (ho j y e).1
  have out : ∀ (e : Int) (m : Nat), RetS n h m (intE e) (fun v h' n' => anyE v ∧ h' = h ∧ n' = n) := fun e m => retT ho look_same (by simp [closed]) ⟨e, rfl⟩
  refine SP_mid 0 (α := Unit) (fun _ => [(0, levelsE l)]) (fun _ => h) (fun _ m => n ≤ m) ?_ (fun _ m hm => ?_)
  · simp [go_sem, Fz.same]
  refine SP_midS 0 (α := Unit) (fun _ => [(0, levelsE l)]) (fun _ => h) (fun _ m => n ≤ m) (SP_of ?_) (fun _ m hm => ?_)
  · by_cases c : l = []
    · simp [go_sem, c]; exact out _ _
    · by_cases c2 : (9 : Int) < l.length
      · simp [go_sem, c, c2]; exact out _ _
      · simp [go_sem, c, c2, Fz.same, hm]
  refine SP_midS 0 (α := Unit) (fun _ => []) (fun _ => h) (fun _ m => n ≤ m) ?_ (fun _ m hm => ?_)
  · refine SP_mid 0 (α := Unit) (fun _ => [(14, levelsE l), (15, intE l.length), (16, intE 0)]) (fun _ => h) (fun _ m => n ≤ m) ?_ (fun _ m hm => ?_)
    · simp [go_sem, Fz.same, hm]
    refine SP_block (goloopS 0 (α := Nat) (fun i => [(14, levelsE l), (15, intE l.length), (16, intE i)]) (fun _ => h) (fun i m => i ≤ l.length ∧ n ≤ m) (fun i => l.length - i) 0 ⟨Nat.zero_le _, hm⟩ ?_ look_same ?_)
    · simp [go_sem, look, Fz.same]
    rintro i m ⟨hi, hm⟩
    by_cases hlt : i < l.length
    · obtain ⟨x, hx⟩ : ∃ x, l[i] = x := ⟨_, rfl⟩
      have hxm : x ∈ l := by rw [← hx]; exact List.getElem_mem hlt
      have w1 : IntKind.i64.wrap ((i : Int) + 1) = ((i + 1 : Nat) : Int) := by rw [wr64] <;> omega
      refine SP_mid 0 (α := Unit) (fun _ => [(14, levelsE l), (15, intE l.length), (16, intE i), (17, .bool true)]) (fun _ => h) (fun _ m => n ≤ m) ?_ (fun _ m hm => ?_)
      · simp [go_sem, Fz.same, hm, hlt]
      refine SP_mid 0 (α := Unit) (fun _ => [(14, levelsE l), (15, intE l.length), (16, intE i)]) (fun _ => h) (fun _ m => n ≤ m) ?_ (fun _ m hm => ?_)
      · simp [go_sem, Fz.same, hm]
      refine SP_midS 0 (α := Unit) (fun _ => [(14, levelsE l), (15, intE l.length), (16, intE i)]) (fun _ => h) (fun _ m => n ≤ m) ?_ (fun _ m hm => ?_)
      · refine SP_block ?_
        refine SP_mid 1 (α := Unit) (fun _ => [(14, levelsE l), (15, intE l.length), (16, intE i), (3, intE i), (4, .iptr [intE x.format, intE x.start, .str x.template, intE x.restart])]) (fun _ => h) (fun _ m => n ≤ m) ?_ (fun _ m hm => ?_)
        · have hHm : ∀ j y, h j = some y → j < m := fun j y e => by have := hHb j y e; omega
          simp [go_sem, Fz.same, hlt, hx, Level.enc, hset_at]
          exact ⟨by omega, ptr_fz (lt_none hHm (Nat.le_refl _)) (hset_at _ _ _), set_keep hHm (set_keep hHm look_same)⟩
        refine SP_midS 0 (α := Unit) (fun _ => [(14, levelsE l), (15, intE l.length), (16, intE i), (3, intE i), (4, .iptr [intE x.format, intE x.start, .str x.template, intE x.restart])]) (fun _ => h) (fun _ m => n ≤ m) (SP_block (SP_of ?_)) (fun _ m hm => ?_)
        · by_cases a1 : x.format < 1
          · simp [go_sem, a1]; exact out _ _
          by_cases a2 : 7 < x.format
          · simp [go_sem, a1, a2]; exact out _ _
          by_cases a3 : x.start < 0
          · simp [go_sem, a1, a2, a3]; exact out _ _
          by_cases a4 : 32767 < x.start
          · simp [go_sem, a1, a2, a3, a4]; exact out _ _
          simp [go_sem, a1, a2, a3, a4, Fz.same, hm]
        refine SP_midS 0 (α := Unit) (fun _ => [(14, levelsE l), (15, intE l.length), (16, intE i), (3, intE i), (4, .iptr [intE x.format, intE x.start, .str x.template, intE x.restart])]) (fun _ => h) (fun _ m => n ≤ m) (SP_of ?_) (fun _ m hm => ?_)
        · simp [go_sem, w1, -Int.natCast_add]
          refine (hc x hxm _).use ?_
          rintro v ⟨e, rfl⟩
          by_cases e0 : e = 0
          · simp [go_sem, e0, Fz.same, hm]
          · simp [go_sem, e0]; exact out _ _
        refine SP_of ?_
        by_cases a1 : x.restart < 0
        · simp [go_sem, a1]; exact out _ _
        by_cases a2 : (i : Int) < x.restart
        · simp [go_sem, a1, a2]; exact out _ _
        simp [go_sem, a1, a2, Fz.same, hm]
      · refine SP_of ?_
        simp [go_sem, w1, Fz.same, -Int.natCast_add]
        exact ⟨i + 1, by omega, ⟨by omega, hm⟩, rfl⟩
    · refine SP_of ?_
      simp [go_sem, hlt, hm]
  · refine SP_of ?_
    simp [go_sem]
    exact out _ _
theorem c216 (l : List Comment) (i : Nat) (hi : i < l.length) : PC 195 [intE i, .iptr [commentsE l]] (intE (l[i]).id) := by
  intro h n
  refine go Tryz.func195 rfl (by kernel_rfl) (by kernel_rfl) (by simp [go_sem]) fun ho => ?_
  simp [go_sem, hi, Comment.enc]
  exact ret0 ho rfl rfl
theorem c215 (x y : Comment) : PC 194 [y.enc, .iptr [intE x.id, intE x.parent, .str x.author, intE x.time, .str x.text, .bool x.done]] (.bool (decide (y.id = x.parent))) := by
  intro h n
  refine go Tryz.func194 rfl (by kernel_rfl) (by kernel_rfl) (by simp [go_sem]) fun ho => ?_
  simp [go_sem, Comment.enc, hset_at]
  exact retIs ho (hset_old ho (Nat.le_refl _) look_same) (by by_cases h : y.id = x.parent <;> simp [h]) rfl
def trT : Tr := .pure 0 <| .pure 1 <| .pure 3 <| .pure 4 <| .pure 6 <| .pure 7 <| .pure 11 <| .pure 12 <| .pure 16 <| .pure 17 <| .one 2 <| .one 5 <| .one 8 <| .one 9 <| .one 10 <| .one 13 <| .one 14 <| .one 15 <| .one 18 <| .one 19 <| .one 20 <| .one 21 .nil
theorem t213 (l : List Comment) (hl : l.length ≤ 1048576) (hs : ∀ x ∈ l, x.author.size ≤ 1048576 ∧ x.text.size ≤ 1048576) (i : Nat) (hi : i < l.length) : TC 192 [intE i, .iptr [commentsE l]] anyE := by
  intro h n
  refine goS Tryz.func192 rfl (by kernel_rfl) (by kernel_rfl) (by simp [go_sem]) fun ho => ?_
  have hHb : ∀ j y, h j = some y → j < n := fun j y e => (ho j y e).1
  obtain ⟨x, hx⟩ : ∃ x, l[i] = x := ⟨_, rfl⟩
  have hxs := hs x (by rw [← hx]; exact List.getElem_mem hi)
  obtain ⟨X, hX⟩ : ∃ X : SV, X = .iptr [intE x.id, intE x.parent, .str x.author, intE x.time, .str x.text, .bool x.done] := ⟨_, rfl⟩
  refine SP_mid 0 (α := Unit) (fun _ => [(0, intE i), (1, .iptr [commentsE l])]) (fun _ => h) (fun _ m => n = m) ?_ (fun _ m hm => ?_)
  · simp [go_sem, Fz.same]
  subst hm
  refine SP_mid 1 (α := Unit) (fun _ => [(0, intE i), (1, .iptr [commentsE l]), (4, X)]) (fun _ => h) (fun _ m => n ≤ m) ?_ (fun _ m hm => ?_)
  · rw [hX]
    simp [go_sem, Fz.same, hi, hx, Comment.enc, hset_at]
    exact ⟨ptr_fz (lt_none hHb (Nat.le_refl _)) (hset_at _ _ _), set_keep hHb (set_keep hHb look_same)⟩
  refine SP_mid 0 (α := Bx) (fun b => [(0, intE i), (1, .iptr [commentsE l]), (4, X), (5, .bool b.b)]) (fun _ => h) (fun _ m => n ≤ m) ?_ (fun b m hm => ?_)
  · rw [hX]
    by_cases p0 : x.parent = 0
    · simp [go_sem, p0, Fz.same, hm]; exact ⟨⟨_⟩, rfl⟩
    · have hle : i ≤ l.length := by omega
      have hc := c214 (l.take i) (by simp; omega) 194 [] [.iptr [intE x.id, intE x.parent, .str x.author, intE x.time, .str x.text, .bool x.done]] (fun j => match (l.take i)[j]? with | some y => decide (y.id = x.parent) | none => false) (fun j hj => by rw [List.getElem?_eq_getElem hj]; exact c215 x _)
      generalize anyI (fun j => match (l.take i)[j]? with | some y => decide (y.id = x.parent) | none => false) (l.take i).length = ba at hc
      rw [List.map_take] at hc
      simp [go_sem, p0, hle, -List.map_take]
      refine PC.use hc ?_
      simp [go_sem, Fz.same, hm, p0]; exact ⟨⟨ba⟩, Fz.same⟩
  obtain ⟨b⟩ := b
  dsimp only
  refine SP_midS 0 (α := Int) (fun e => [(3, intE e)]) (fun _ => h) (fun _ m => n ≤ m) (SP_tr trT rfl (by kernel_rfl) (by kernel_rfl) ?_) (fun e m hm => ?_)
  · have hHm : ∀ j y, h j = some y → j < m := fun j y e => by have := hHb j y e; omega
    rw [hX]
    simp [go_sem, trT]
    have hF : ∀ j, j ≤ i → PC 195 ([] ++ [intE j] ++ [.iptr [commentsE l]]) (intE (match l[j]? with | some r => r.id | none => 0)) := fun j hj => by
      have hj2 : j < l.length := by omega
      simpa [hj2] using c216 l j hj2
    refine (c152 i (by omega) 195 [] [.iptr [commentsE l]] (fun j => match l[j]? with | some r => r.id | none => 0) hF).use ?_
    generalize incrE (fun j => match l[j]? with | some r => r.id | none => 0) i = e1
    simp [go_sem]
    refine (c87 _ _).use ?_
    simp [go_sem]
    refine (c154 x.author (by omega)).use ?_
    simp [go_sem]
    refine (c87 _ _).use ?_
    simp [go_sem]
    refine (c155 _ _ _).use ?_
    simp [go_sem]
    refine (c87 _ _).use ?_
    simp [go_sem]
    refine (c217 x.text (by omega)).use ?_
    simp [go_sem]
    generalize (if b = false then (8 : Int) else 0) = e2
    generalize (if isAuthor x.author = false then (39 : Int) else 0) = e3
    generalize (if x.time < 0 ∨ 1099511627776 < x.time then (40 : Int) else 0) = e4
    generalize textErr x.text = e5
    refine SCallE.fz (bs := [.imm 1 ([e1, e2, e3, e4, e5].map intE) false]) (h2 := h) 1 (set_keep hHm look_same) ⟨?_, trivial⟩ ?_
    · exact sl_fz (es := [intE e1, intE e2, intE e3, intE e4, intE e5]) (lt_none hHm (Nat.le_refl _)) (by simp) (by rw [hset_at]; simp [SV.cells]) (by simp [SV.storable, SV.cells])
    refine (c82 _ (by simp)).use ?_
    simp [go_sem]
    exact ⟨by omega, _, Fz.same⟩
  · refine SP_of ?_
    simp [go_sem]
    exact retT ho look_same (by simp [closed]) ⟨e, rfl⟩
section
variable {P : Program} {E : Env} {evs : Operand → SV} {o : Oper} {h : Hp} {n : Nat} {K : SV → Hp → Nat → Prop}
abbrev byteV (b : UInt8) : SV := .int .u8 b.toNat
theorem sem_bytes {src dst e : TypeId} {x : Operand} {s : ByteArray} (ho : o.op = .convert src dst x) (hs : tstring P src = true) (hd : tslice P dst = some e) (he : tint P e = some .u8) (hx : evs x = .str s)
    (hk : K (.imm 1 (s.data.toList.map byteV) false) h n) : SemOp E P evs o h n K := by
  refine ⟨by rw [ho]; simp, fun c ev _ _ R F hv => ?_⟩
  have hvx := hv x
  rw [hx] at hvx
  have hvx := vstr hvx
  have hrun := Lib.run_convert_string_bytes (P := P) c.w src dst e s (tstring_some hs) (tslice_some hd) (tint_some he)
  have hsz := Lib.bytesWorld_size c.w e s
  have X : Ext c { c with w := Lib.bytesWorld c.w e s } := by
    refine ⟨fun _ _ e => e, by simp [hsz], fun b hb hn => ⟨hn, Lib.bytesWorld_at_old c.w e s b hb⟩, fun b => ?_, ?_, ?_, ?_, ?_⟩
    · unfold rm
      rcases Nat.lt_or_ge b c.w.heap.size with hx | hx
      · simp only [Lib.bytesWorld_at_old c.w e s b hx]; exact Nat.le_refl _
      · simp [Array.getElem?_eq_none hx]
    · simp only [Lib.bytesWorld, World.freeze]; split <;> rfl
    · simp only [Lib.bytesWorld, World.freeze]; split <;> rfl
    · simp only [Lib.bytesWorld, World.freeze]; split <;> rfl
    · simp only [Lib.bytesWorld, World.freeze]; split <;> first | exact Nat.le_refl _ | exact Nat.le_succ _
  have hcap : s.size ≤ grownCap c.w s.size 0 e := by unfold grownCap; exact Nat.le_add_right _ _
  have hlen : s.data.toList.length = s.size := by rw [Array.length_toList]; rfl
  refine ⟨.slice (some ⟨c.w.heap.size, 0, none⟩) s.size (grownCap c.w s.size 0 e), .imm 1 (s.data.toList.map byteV) false, h, n, { c with w := Lib.bytesWorld c.w e s }, by simp only [execOp, ho, hvx, Sem.run_bind, hrun, Result.andThen_ok, Sem.run_pure], ?_, ⟨fun o x e => (R.obj o x e).mono X fun b hb => ?_, R.inj2, R.own2⟩, F, ⟨X, Nat.le_refl _, fun _ _ => rfl⟩, hk⟩
  · rw [V]
    refine .inr ⟨⟨c.w.heap.size, 0, none⟩, grownCap c.w s.size 0 e, s.data.toList.map (fun b => Value.int .u8 b.toNat), by simp [hlen], by simp [hlen]; exact hcap, by simp, ⟨fun _ => rfl, fun _ hb => ?_, fun i x hi => ?_, fun x hx => ?_⟩, ?_⟩
    · obtain ⟨o', x, e1, e2⟩ := (R.own2 _).1 hb
      exact Nat.lt_irrefl _ ((R.obj o' x e1).hold_lt e2)
    · rw [List.getElem?_map, Option.map_eq_some_iff] at hi
      obtain ⟨b, hb, rfl⟩ := hi
      have hil := (List.getElem?_eq_some_iff.1 hb).1
      have := Lib.bytesWorld_cell c.w e s i (by omega)
      rw [List.getD_eq_getElem?_getD, hb] at this
      simpa using this
    · obtain ⟨b, _, rfl⟩ := List.mem_map.1 hx; rfl
    · rw [VE_iff]
      refine ⟨s.data.toList.map (fun b => Value.int .u8 b.toNat), All2.map (R := fun a b => a = b) (fun a b e => by subst e; simp [V]) ?_, ?_, ?_, ?_⟩
      · have : ∀ l : List UInt8, All2 (fun a b => a = b) l l := fun l => by induction l with | nil => trivial | cons a l ih => exact ⟨rfl, ih⟩
        exact this _
      · intro u hu; obtain ⟨b, _, rfl⟩ := List.mem_map.1 hu; rfl
      · intro u hu; obtain ⟨b, _, rfl⟩ := List.mem_map.1 hu; rfl
      · have : ∀ l : List UInt8, l.map (fun b => Value.int .u8 b.toNat) = (l.map (fun b => Value.int .u8 b.toNat)).flatMap (·.cells.toList) := fun l => by induction l with | nil => rfl | cons a l ih => rw [List.map_cons, List.flatMap_cons, ← ih]; rfl
        exact this _
  · exact Lib.bytesWorld_at_old c.w _ s b ((R.obj o x e).hold_lt hb)
theorem sem_sliceData {x : Operand} {ts : Array TypeId} {j off z len : Nat} {full : Bool} (ho : o.op = .call { callee := .builtin .unsafeSliceData, args := #[x], argTypes := ts }) (hx : evs x = .sl j off z len full) (hl : len ≠ 0)
    (hk : K (.ptr j off) h n) : SemOp E P evs o h n K := by
  refine ⟨by rw [ho]; simp, fun c ev _ _ R F hv => ?_⟩
  have hvx := hv x
  rw [hx, V] at hvx
  obtain ⟨b, st, cap, hρ, hu, hcap, _⟩ := hvx
  refine ⟨.pointer (some ⟨b, st + off, none⟩), .ptr j off, h, n, c, ?_, by rw [V]; exact ⟨b, st, hρ, rfl⟩, R, F, Adv.refl n c, hk⟩
  refine run_builtin (P := P) (ev := ev) ho _ _ _ fun cs => ?_
  have hr := Lib.run_unsafeSliceData_row (P := P) c.w ts o.type ⟨b, st + off, none⟩ len cap (by omega)
  simp only [BigFrame.builtin_unsafeSliceData, Sem.run_bind, Sem.run_pure]
  simp only [List.map_toArray, List.map_cons, List.map_nil, hu] at hr ⊢
  rw [hr]; rfl
theorem sem_unsafeString {x y : Operand} {pt it e : TypeId} {j : Nat} {bs : List UInt8} (ho : o.op = .call { callee := .builtin .unsafeString, args := #[x, y], argTypes := #[pt, it] }) (hpt : P.underlying pt = some (.pointer e)) (hc : P.cellsOf e = 1)
    (hx : evs x = .ptr j 0) (hy : evs y = .int .i64 bs.length) (hj : h j = some (.cells (bs.map byteV) (some e))) (hne : bs ≠ []) (h63 : bs.length ≤ 9223372036854775807)
    (hk : K (.str ⟨bs.toArray⟩) (hset h j none) n) : SemOp E P evs o h n K := by
  refine ⟨by rw [ho]; simp, fun c ev _ _ R F hv => ?_⟩
  have hvx := hv x
  rw [hx, V] at hvx
  obtain ⟨b, st, hρ, hu⟩ := hvx
  have hvy := hv y
  rw [hy] at hvy
  have hvy := vint hvy
  obtain ⟨b', st', arr, e', vs, g1, g2, g3, g4, g5, g6⟩ := R.obj _ _ hj
  rw [hρ] at g1; cases g1
  obtain ⟨hst, rfl⟩ := g6 e rfl
  subst hst
  have hl := g4.length
  rw [List.length_map] at hl
  have hblt := (Array.getElem?_eq_some_iff.1 g2).1
  have hsz : bs.length ≤ arr.size := by
    rcases Nat.eq_zero_or_pos bs.length with h0 | h0
    · omega
    · have hlast : vs[bs.length - 1]? = some vs[bs.length - 1] := List.getElem?_eq_getElem (by omega)
      have := (Array.getElem?_eq_some_iff.1 (g3 _ _ hlast)).1
      omega
  have hcell : ∀ i x, bs[i]? = some x → c.w.cell? ((⟨b, 0, none⟩ : Addr).add i) = some (.int .u8 x.toNat) := fun i x hi => by
    have h1 : (bs.map byteV)[i]? = some (byteV x) := by rw [List.getElem?_map, hi]; rfl
    obtain ⟨v, hv1, hv2⟩ := g4.get h1
    have := vint hv2
    subst this
    have h3 := g3 i _ hv1
    rw [addr_add' rfl]
    simp only [World.cell?, g2]
    simpa using h3
  have hr := Lib.run_unsafeString_row (P := P) c.w pt it o.type e' hpt hc b arr.size (by simp [World.shape?, g2]) bs hne hsz h63 hcell
  have hfz : ∀ k, k ≠ b → (c.w.freeze ⟨b, 0, none⟩ bs.length).heap[k]? = c.w.heap[k]? := fun k hk => by
    unfold World.freeze; split
    · rfl
    · simp only [Array.getElem?_modify]; rw [if_neg (Ne.symm hk)]
  have hfs : (c.w.freeze ⟨b, 0, none⟩ bs.length).heap.size = c.w.heap.size := by unfold World.freeze; split <;> simp
  have hown : c.own b := R.ownI ⟨j, _, 0, hj, hρ⟩
  have Rk := R.kill j hj
  have hrm : ∀ k, rm c.w k ≤ rm (c.w.freeze ⟨b, 0, none⟩ bs.length) k := fun k => by
    by_cases hk : k = b
    · subst hk
      have h0 : ¬ bs.length = 0 := by simpa using hne
      unfold rm World.freeze
      rw [if_neg h0]
      simp only [Array.getElem?_modify, if_true, g2, Option.map_some]
      exact Nat.le_refl _
    · unfold rm; rw [hfz k hk]; exact Nat.le_refl _
  have hko : ∀ k, ¬ c.own k → ¬ (c.kill j).own k := fun k hk h2 => by
    obtain ⟨o', x', e1, e2⟩ := (Rk.own2 k).1 h2
    simp only [hset] at e1
    split at e1
    · cases e1
    · exact hk ((R.own2 k).2 ⟨o', x', e1, e2⟩)
  have X : Ext c { (c.kill j) with w := c.w.freeze ⟨b, 0, none⟩ bs.length } :=
    ⟨fun _ _ e => e, by simp [hfs], fun k hk hn => ⟨hko k hn, hfz k (by rintro rfl; exact hn hown)⟩, hrm, by unfold World.freeze; split <;> rfl, by unfold World.freeze; split <;> rfl, ⟨by unfold World.freeze; split <;> rfl, by unfold World.freeze; split <;> exact Nat.le_refl _⟩⟩
  refine ⟨.string ⟨bs.toArray⟩, .str ⟨bs.toArray⟩, hset h j none, n, { (c.kill j) with w := c.w.freeze ⟨b, 0, none⟩ bs.length }, ?_, by rw [V], ⟨fun o x e => ?_, Rk.inj2, Rk.own2⟩, F, ⟨X, Nat.le_refl _, fun _ _ => rfl⟩, hk⟩
  · refine run_builtin (P := P) (ev := ev) ho _ _ _ fun cs => ?_
    simp only [BigFrame.builtin_unsafeString, Sem.run_bind, Sem.run_pure]
    simp only [List.map_toArray, List.map_cons, List.map_nil, hu, hvy, Nat.add_zero] at hr ⊢
    rw [hr]; rfl
  · simp only [hset] at e
    split at e
    · cases e
    · rename_i hoj
      refine (R.obj o x e).mono0 X.to0 fun k hk => hfz k ?_
      intro e0
      rw [e0] at hk
      exact hoj (R.inj2 o j x _ b e hj hk (.inl ⟨0, hρ⟩))
end
set_option maxRecDepth 100000 in
set_option maxHeartbeats 2000000 in
theorem cc_used (b : Nat) (w : World) (h0 : w.cell? ⟨b, 2, none⟩ = some (.pointer (some ⟨b, 2, none⟩))) :
    Calls Tryz.prog 123 #[.pointer (some ⟨b, 2, none⟩)] w fun e w' => e = .returned (.tuple #[]) ∧ w' = w := by
  obtain ⟨j, hj, _⟩ := Option.map_eq_some_iff.1 (show (Tryz.prog.info? 121).map (·.size) = some 2 by kernel_rfl)
  go_enter Tryz.func123, Tryz.ntmps123
  go_wp2
  rw [Lib.run_neq_ptr_same w _ Tryz.underlying118 hj]
  go_wp2
  go_end0
  exact ⟨rfl, rfl⟩
theorem liesB (m : Nat) : liesAt Tryz.prog Tryz.prog.depth 378 (m + 1) 2 121 1 = true := by kernel_rfl
theorem cells388 : Tryz.prog.cellsOf 378 = 7 := by kernel_rfl
set_option maxRecDepth 100000 in
set_option maxHeartbeats 2000000 in
theorem cc_fresh (b k : Nat) (w : World) (h0 : w.cell? ⟨b, 2, none⟩ = some (.pointer none)) (hsh : w.shape? b = some (378, k)) (hk : 7 ≤ k) (hfz : w.frozen? ⟨b, 2, none⟩ = false) :
    Calls Tryz.prog 123 #[.pointer (some ⟨b, 2, none⟩)] w fun e w' => e = .returned (.tuple #[]) ∧ w' = w.setCell ⟨b, 2, none⟩ (.pointer (some ⟨b, 2, none⟩)) := by
  obtain ⟨j, hj, hjs⟩ := Option.map_eq_some_iff.1 (show (Tryz.prog.info? 121).map (·.size) = some 2 by kernel_rfl)
  obtain ⟨m, hm⟩ : ∃ m, k / Tryz.prog.cellsOf 378 = m + 1 := ⟨k / 7 - 1, by rw [cells388]; omega⟩
  have hlies := liesB m
  rw [← hm] at hlies
  go_enter Tryz.func123, Tryz.ntmps123
  go_wp2
  rw [Lib.run_to_unsafe w ⟨b, 2, none⟩ Tryz.underlying118 Tryz.underlying256 hj (by rw [hjs]; decide) hsh (by simp; omega)]
  simp only [Result.andThen]
  rw [Oper.upon_value]
  go_wp2
  rw [run_callFunc_extern Tryz.func179 (by kernel_rfl) (by kernel_rfl) (by kernel_rfl) (e := Extern.AbiNoEscape.same) (by kernel_rfl)]
  rw [Lib.run_noEscape]
  simp only [Result.andThen]
  rw [Oper.upon_value]
  go_wp2
  rw [Lib.run_from_unsafe w ⟨b, 2, none⟩ Tryz.underlying256 Tryz.underlying118 hj hsh hlies]
  simp only [Result.andThen]
  rw [Oper.upon_value]
  go_wp2
  go_end0
  exact ⟨rfl, rfl⟩
theorem ok335 : okFn Tryz.prog 123 = true := by unfold okFn; rw [Tryz.func123]; kernel_rfl
theorem d335 {H : Hp} {n q : Nat} {a b p buf : SV} {r : List SV} (hH : H q = some (.cells (a :: b :: p :: buf :: r) (some 378))) (hp : p = .nilp ∨ p = .ptr q 2) (hr : r.length = 3) :
    SCall Tryz.prog 123 [.ptr q 2] H n (fun v h' n' => v = .tup [] ∧ h' = hset H q (some (.cells (a :: b :: .ptr q 2 :: buf :: r) (some 378))) ∧ n' = n) := by
  refine ⟨ok335, fun c vs _ R F A => ?_⟩
  obtain ⟨u, rfl, hv⟩ := A.single
  rw [V] at hv
  obtain ⟨b0, st, hρ, rfl⟩ := hv
  obtain ⟨b', st', arr, e, us, g1, g2, g3, g4, g5, g6⟩ := R.obj q _ hH
  rw [hρ] at g1; cases g1
  obtain ⟨hst, rfl⟩ := g6 378 rfl
  subst hst
  obtain ⟨v2, hv2, hvp⟩ := g4.get (i := 2) (a := p) rfl
  have h2 := g3 2 _ hv2
  have hcell : c.w.cell? ⟨b0, 2, none⟩ = some v2 := by simp only [World.cell?, g2]; simpa using h2
  have hlen := g4.length
  simp only [List.length_cons, hr] at hlen
  have hsz : 7 ≤ arr.size := by
    have hlast : us[6]? = some us[6] := List.getElem?_eq_getElem (by omega)
    have := (Array.getElem?_eq_some_iff.1 (g3 _ _ hlast)).1
    omega
  have hself : V c (.ptr q 2) (.pointer (some ⟨b0, 2, none⟩)) := by rw [V]; exact ⟨b0, 0, hρ, by simp⟩
  simp only [Nat.zero_add]
  rcases hp with rfl | rfl
  · rw [V] at hvp
    subst hvp
    obtain ⟨w', hrun, R', X⟩ := obj_write (P := Tryz.prog) (off := 2) (xs := [.ptr q 2]) (us := [.pointer (some ⟨b0, 2, none⟩)]) R hH hρ (by simp) (by simp) ⟨hself, trivial⟩ (by simp [Value.oneCell'])
    have hrun2 := run_storeCells_cells (P := Tryz.prog) b0 2 [.pointer (some ⟨b0, 2, none⟩)] 0 c.w (by intro j hj; simp at hj; subst hj; simp [hcell]) (by intro j hj; simp at hj; subst hj; simp [World.frozen?, g2]) (by simp [Value.oneCell'])
    simp only [Nat.zero_add, Nat.add_zero] at hrun hrun2
    rw [hrun] at hrun2
    simp only [Result.ok.injEq, true_and] at hrun2
    refine (cc_fresh b0 arr.size c.w hcell (by simp [World.shape?, g2]) hsz (by simp [World.frozen?, g2])).mono ?_
    rintro e w2 ⟨rfl, rfl⟩
    have hw : w' = c.w.setCell ⟨b0, 2, none⟩ (.pointer (some ⟨b0, 2, none⟩)) := by rw [hrun2]; rfl
    subst hw
    exact ⟨.tuple #[], .tup [], _, n, { c with w := c.w.setCell ⟨b0, 2, none⟩ (.pointer (some ⟨b0, 2, none⟩)) }, rfl, ⟨rfl, rfl, rfl⟩, rfl, by simp [V, VL], by simpa using R', F, ⟨X, Nat.le_refl _, fun _ _ => rfl⟩⟩
  · rw [V] at hvp
    obtain ⟨b1, st1, hρ1, rfl⟩ := hvp
    rw [hρ] at hρ1; cases hρ1
    have hself2 : hset H q (some (.cells (a :: b :: .ptr q 2 :: buf :: r) (some 378))) = H := by
      funext k
      by_cases hk : k = q
      · subst hk; rw [hset_at', hH]
      · simp [hset, hk]
    refine (cc_used b0 c.w (by simpa using hcell)).mono ?_
    rintro e w2 ⟨rfl, rfl⟩
    exact ⟨.tuple #[], .tup [], _, n, c, rfl, ⟨rfl, hself2.symm, rfl⟩, rfl, by simp [V, VL], R, F, Adv.refl n c⟩
def bufV (ob : Option Nat) (bs : List UInt8) : SV := AccV 1 ob (bs.map byteV)
theorem appB {H : Hp} {k p : Nat} {ob : Option Nat} {bs : List UInt8} {x : UInt8} (h0 : ob = none → bs = []) (h1 : H k = some (.cells [byteV x])) (h2 : ∀ j, ob = some j → H j = some (.cells (bs.map byteV) (some 5))) (hroom : bs.length + 1 ≤ 1073741824) :
    builtinS Tryz.prog H p .append [119, 119] [bufV ob bs, .sl k 0 1 1 true] = some { val := .sl p 0 1 (bs.length + 1) false, upd := ob.map fun j => (j, none), new := some (.cells ((bs ++ [x]).map byteV) (some 5)) } := by
  have e1 : tslice Tryz.prog 119 = some 5 := by simp [go_sem]
  have e2 : tsz Tryz.prog 5 = 1 := by simp [go_sem]
  have e3 : (tzero Tryz.prog 5).storable = true := by simp [go_sem]
  have e4 : (tzero Tryz.prog 5).cells.length = 1 := by simp [go_sem]
  have e5 : tbytes Tryz.prog 5 ≤ 65536 := by simp [go_sem]
  have e6 : rowT 5 = some 5 := by rfl
  have hfl : flat H (.sl k 0 1 1 true) = some [byteV x] := by simp [flat, h1, takeN]
  have hr : roomy (bs.length + 1) (tbytes Tryz.prog 5) = true := by simp only [roomy, Bool.and_eq_true, decide_eq_true_eq]; exact ⟨by omega, e5⟩
  simp only [builtinS, e1, Option.isSome_some, if_true, appendS, lenS, hfl, e2, e3, e4]
  cases ob with
  | none =>
    have := h0 rfl
    subst this
    simp [bufV, AccV, zOk, e6]
    simpa using hr
  | some j =>
    have hj := h2 j rfl
    have hf : flat H (.sl j 0 1 bs.length false) = some (bs.map byteV) := by simp [flat, hj, takeN]; exact List.take_of_length_le (by simp)
    have ht : tyApp H 5 j 0 = some 5 := by simp [tyApp, e6, tyOf, hj]
    simp [bufV, AccV, zOk, hf, hr, ht]
theorem d329 {G : Hp} {n q : Nat} {a at_ p pr pl e : SV} {ob : Option Nat} {bs : List UInt8} {x : UInt8} (hG : G q = some (.cells [a, at_, p, bufV ob bs, pr, pl, e] (some 378))) (hp : p = .nilp ∨ p = .ptr q 2)
    (h0 : ob = none → bs = []) (h2 : ∀ j, ob = some j → j ≠ q ∧ G j = some (.cells (bs.map byteV) (some 5))) (hroom : bs.length + 1 ≤ 1073741824) :
    SCall Tryz.prog 321 [.ptr q 2, byteV x] G n (fun _ h' n' => ∃ j, (∀ o y, o ≠ q → ob ≠ some o → G o = some y → h' o = some y) ∧ h' q = some (.cells [a, at_, .ptr q 2, bufV (some j) (bs ++ [x]), pr, pl, e] (some 378)) ∧
      h' j = some (.cells ((bs ++ [x]).map byteV) (some 5)) ∧ n ≤ j ∧ j < n') := by
  refine goS Tryz.func321 rfl (by kernel_rfl) (by kernel_rfl) (by simp [go_sem]) fun ho => ?_
  have hqn : q < n := (ho q _ hG).1
  have hjn : ∀ j, ob = some j → j < n := fun j e => (ho j _ (h2 j e).2).1
  refine SP_mid 0 (α := Unit) (fun _ => [(0, .ptr q 2), (1, byteV x)]) (fun _ => G) (fun _ m => n = m) ?_ (fun _ m hm => ?_)
  · simp [go_sem, Fz.same]
  subst hm
  refine SP_mid 0 (α := Unit) (fun _ => [(0, .ptr q 2), (1, byteV x)]) (fun _ => hset G q (some (.cells [a, at_, .ptr q 2, bufV ob bs, pr, pl, e] (some 378)))) (fun _ m => n = m) ?_ (fun _ m hm => ?_)
  · simp [go_sem]
    refine SC.use (d335 hG hp rfl) ?_
    rintro v H' n' ⟨rfl, rfl, rfl⟩
    simp [go_sem, Fz.same]
  subst hm
  refine SP_of ?_
  have hne : q ≠ n := by omega
  have hne1 : q ≠ n + 1 := by omega
  simp [go_sem, hset_at]
  have hap : ∀ p, builtinS Tryz.prog (hset (hset G q (some (.cells [a, at_, .ptr q 2, bufV ob bs, pr, pl, e] (some 378)))) n (some (.cells [byteV x]))) p .append [119, 119] [bufV ob bs, .sl n 0 1 1 true] = _ := fun p =>
    appB h0 (hset_at _ _ _) (fun j e => by rw [hset_ne _ _ (by have := hjn j e; omega), hset_ne _ _ (h2 j e).1]; exact (h2 j e).2) hroom
  have hbv : bufV (some (n + 1)) (bs ++ [x]) = .sl (n + 1) 0 1 (bs.length + 1) false := by simp [bufV, AccV]
  cases ob with
  | none =>
    simp [go_sem, hap, hset_at, hset_ne, hne, hne1]
    refine .inl ⟨fun o y h1 h3 => ?_, n + 1, by rw [hset_at, hbv], by rw [hset_ne _ _ (Ne.symm hne1), hset_at], by omega, by omega⟩
    have := (ho o y h3).1
    rw [hset_ne _ _ h1, hset_ne _ _ (by omega), hset_ne _ _ (by omega), hset_ne _ _ h1]; exact h3
  | some j =>
    have hjq := (h2 j rfl).1
    have hjl := hjn j rfl
    have hqj : q ≠ j := Ne.symm hjq
    simp [go_sem, hap, hset_at, hset_ne, hne, hne1, hqj]
    refine .inl ⟨fun o y h1 h2 h3 => ?_, n + 1, by rw [hset_at, hbv], by rw [hset_ne _ _ (Ne.symm hne1), hset_at], by omega, by omega⟩
    have := (ho o y h3).1
    rw [hset_ne _ _ h1, hset_ne _ _ (by omega), hset_ne _ _ (Ne.symm h2), hset_ne _ _ (by omega), hset_ne _ _ h1]; exact h3
theorem cells5 : Tryz.prog.cellsOf 5 = 1 := by kernel_rfl
theorem d336 {G : Hp} {n q : Nat} {a at_ p pr pl e : SV} {ob : Option Nat} {bs : List UInt8} (hG : G q = some (.cells [a, at_, p, bufV ob bs, pr, pl, e] (some 378))) (h0 : ob = none → bs = []) :
    SCall Tryz.prog 328 [.ptr q 2] G n (fun v h' n' => v = intE bs.length ∧ h' = G ∧ n' = n) := by
  refine goS Tryz.func328 rfl (by kernel_rfl) (by kernel_rfl) (by simp [go_sem]) fun ho => ?_
  have hqn : q < n := (ho q _ hG).1
  refine SP_of ?_
  cases ob with
  | none =>
    have := h0 rfl
    subst this
    simp [go_sem, hG, bufV, AccV]
    exact ret0 ho rfl rfl
  | some j =>
    simp [go_sem, hG, bufV, AccV]
    exact ret0 ho rfl rfl
def trSt : Tr := .pure 0 (.pure 1 (.pure 2 (.pure 5 (.pure 6 (.pure 7 (.two 3 8 (.two 4 8 (.one 8 (.one 9 (.one 10 (.one 11 .nil)))) (.two 4 9 (.one 9 (.one 10 (.one 11 .nil))) (.one 4 (.one 10 (.one 11 .nil))))) (.two 3 9 (.two 4 9 (.one 9 (.one 10 (.one 11 .nil))) (.one 4 (.one 10 (.one 11 .nil)))) (.one 3 (.one 4 (.one 10 (.one 11 .nil)))))))))))
theorem d337 {G : Hp} {n q j : Nat} {a at_ p pr pl e : SV} {bs : List UInt8} (hG : G q = some (.cells [a, at_, p, bufV (some j) bs, pr, pl, e] (some 378))) (hj : G j = some (.cells (bs.map byteV) (some 5))) (_hjq : j ≠ q) (hne : bs ≠ []) (hlen : bs.length ≤ 1073741824) :
    SCall Tryz.prog 64 [.ptr q 2] G n (fun v h' n' => v = .str ⟨bs.toArray⟩ ∧ h' = hset G j none ∧ n' = n) := by
  refine goS Tryz.func64 rfl (by kernel_rfl) (by kernel_rfl) (by simp [go_sem]) fun ho => ?_
  have hqn : q < n := (ho q _ hG).1
  have hl0 : bs.length ≠ 0 := by simpa using hne
  refine SP_mid 0 (α := Unit) (fun _ => [(0, .ptr q 2)]) (fun _ => G) (fun _ m => n = m) ?_ (fun _ m hm => ?_)
  · simp [go_sem, Fz.same]
  subst hm
  refine SP_midS 0 (α := Unit) (fun _ => [(2, .str ⟨bs.toArray⟩)]) (fun _ => hset G j none) (fun _ m => n = m) (SP_tr trSt rfl (by kernel_rfl) (by kernel_rfl) ?_) (fun _ m hm => ?_)
  · have hb : bufV (some j) bs = .sl j 0 1 bs.length false := by simp [bufV, AccV]
    rw [hb] at hG
    simp [go_sem, trSt, hG]
    have hA : ∀ {E : Env} {evs : Operand → SV} {o : Oper} {n : Nat} {K : SV → Hp → Nat → Prop} {x : Operand} {ts : Array TypeId}, o.op = .call { callee := .builtin .unsafeSliceData, args := #[x], argTypes := ts } → evs x = .sl j 0 1 bs.length false → K (.ptr j 0) G n → SemOp E Tryz.prog evs o G n K := fun e1 e2 k => sem_sliceData e1 e2 hl0 k
    have hB : ∀ {E : Env} {evs : Operand → SV} {o : Oper} {n : Nat} {K : SV → Hp → Nat → Prop} {x y : Operand} {it : TypeId}, o.op = .call { callee := .builtin .unsafeString, args := #[x, y], argTypes := #[199, it] } → evs x = .ptr j 0 → evs y = intE bs.length → K (.str ⟨bs.toArray⟩) (hset G j none) n → SemOp E Tryz.prog evs o G n K := fun e1 e2 e3 k => sem_unsafeString e1 Tryz.underlying199 cells5 e2 e3 hj hne (by omega) k
    refine ⟨⟨?_, ?_, ?_⟩, ⟨?_, ?_⟩, ?_⟩
    all_goals
      refine hA rfl rfl ?_
      simp [go_sem, hG]
      refine hB rfl rfl rfl ?_
      simp [go_sem, Fz.same]
  subst hm
  refine SP_of ?_
  simp [go_sem]
  refine .inl ⟨rfl, rfl, rfl⟩
theorem d338 {G : Hp} {n q : Nat} {a at_ p b pr pl e : SV} (hG : G q = some (.cells [a, at_, p, b, pr, pl, e] (some 378))) :
    SCall Tryz.prog 329 [.ptr q 2] G n (fun v h' n' => v = .tup [] ∧ h' = hset G q (some (.cells [a, at_, .nilp, .imm 0 [] true, pr, pl, e] (some 378))) ∧ n' = n) := by
  refine goS Tryz.func329 rfl (by kernel_rfl) (by kernel_rfl) (by simp [go_sem]) fun ho => ?_
  refine SP_of ?_
  simp [go_sem, hG, hset_at, hset_two]
  refine .inl ⟨rfl, rfl, rfl⟩
theorem SP_old {E : Env} {N : Nat} {a : Code} {Q : Post} {sa : SA} {h : Hp} {n : Nat} (H : Old h n → SP E N a Q sa h n) : SP E N a Q sa h n :=
  fun hd c act I R F A => H (fun o x e => closedO_of F (R.obj o x e)) hd c act I R F A
structure Scd (G : Hp) (q B : Nat) (s : ByteArray) (at_ : Int) (bs : List UInt8) (ps : List Part) (pl e : Int) (p : SV) (ob op : Option Nat) : Prop where
  le : B ≤ q
  cells : G q = some (.cells [.str s, intE at_, p, bufV ob bs, AccV 3 op (ps.map Part.enc), intE pl, intE e] (some 378))
  p : p = .nilp ∨ p = .ptr q 2
  b0 : ob = none → bs = []
  b1 : ∀ j, ob = some j → B ≤ j ∧ j ≠ q ∧ bs ≠ [] ∧ G j = some (.cells (bs.map byteV) (some 5))
  o0 : op = none → ps = []
  o1 : ∀ j, op = some j → B ≤ j ∧ j ≠ q ∧ ob ≠ some j ∧ G j = some (.cells ((ps.map Part.enc).flatMap SV.cells))
def Scn (G : Hp) (q B : Nat) (s : ByteArray) (at_ : Int) (bs : List UInt8) (ps : List Part) (pl e : Int) : Prop := ∃ p ob op, Scd G q B s at_ bs ps pl e p ob op
def ScQ (q B : Nat) (s : ByteArray) (G : Hp) (n : Nat) (R : Int → List UInt8 → List Part → Int → Int → Prop) : SV → Hp → Nat → Prop := fun _ h' n' =>
  ∃ at_ bs ps pl e, R at_ bs ps pl e ∧ Scn h' q B s at_ bs ps pl e ∧ (∀ o y, o < B → G o = some y → h' o = some y) ∧ n ≤ n'
theorem Part.len (p : Part) : p.enc.cells.length = 3 := rfl
theorem Part.size (ps : List Part) : ∀ e ∈ ps.map Part.enc, e.storable = true ∧ e.cells.length = 3 := fun e he => by obtain ⟨x, _, rfl⟩ := List.mem_map.1 he; exact ⟨rfl, rfl⟩
theorem appP {X : Hp} {k p : Nat} {op : Option Nat} {ps : List Part} {x : Part} (h0 : op = none → ps = []) (h1 : X k = some (.cells x.enc.cells)) (h2 : ∀ j, op = some j → X j = some (.cells ((ps.map Part.enc).flatMap SV.cells))) (hroom : ps.length + 1 ≤ 1073741824) :
    builtinS Tryz.prog X p .append [352, 352] [AccV 3 op (ps.map Part.enc), .sl k 0 3 1 true] = some { val := .sl p 0 3 (ps.length + 1) false, upd := op.map fun j => (j, none), new := some (.cells ((ps.map Part.enc).flatMap SV.cells ++ x.enc.cells)) } := by
  have hA : AccI 0 ((op.getD 0) + 1) 3 op (ps.map Part.enc) := ⟨fun e => by rw [h0 e]; rfl, fun j e => by rw [e]; simp, Part.size ps⟩
  have := app1g (P := Tryz.prog) (H := X) (t := 352) (t2 := 352) (el := 357) (e := x.enc) (by simp [go_sem]) (by simp [go_sem]) (by simp [go_sem]) (by simp) (by simp [go_sem]) (by simp [go_sem]) (by simp [go_sem]) (by simpa using hroom) hA (Part.len x) h1 h2 p
  simpa using this
def FlP (G : Hp) (B q n : Nat) (C : Nat → List SV) (es : List SV) (z : Hp × Nat) (m : Nat) : Prop :=
  n ≤ m ∧ z.1 q = some (.cells (C z.2) (some 378)) ∧ z.1 z.2 = some (.cells (es.flatMap SV.cells)) ∧ n ≤ z.2 ∧ z.2 < m ∧ ∀ o y, o < B → G o = some y → z.1 o = some y
def trFl : Tr := .pure 0 (.pure 1 (.pure 2 (.pure 3 (.pure 5 (.pure 6 (.pure 7 (.two 4 8 (.one 8 (.one 9 (.one 10 (.one 11 (.one 12 (.one 13 (.one 14 .nil))))))) (.two 4 9 (.one 9 (.one 10 (.one 11 (.one 12 (.one 13 (.one 14 .nil)))))) (.two 4 10 (.one 10 (.one 11 (.one 12 (.one 13 (.one 14 .nil))))) (.one 4 (.one 11 (.one 12 (.one 13 (.one 14 .nil))))))))))))))
set_option maxHeartbeats 1000000 in
theorem d330 {G : Hp} {n q B : Nat} {s : ByteArray} {at_ pl e : Int} {bs : List UInt8} {ps : List Part} (S : Scn G q B s at_ bs ps pl e) (hb : bs.length ≤ 1048576) (hps : ps.length ≤ 1048576) :
    SCall Tryz.prog 322 [.ptr q 0] G n (ScQ q B s G n fun at' bs' ps' pl' e' => at' = at_ ∧ bs' = [] ∧ ps'.length ≤ ps.length + 1 ∧ pl' = pl ∧ e' = e) := by
  refine goS Tryz.func322 rfl (by kernel_rfl) (by kernel_rfl) (by simp [go_sem]) fun ho => ?_
  obtain ⟨p, ob, op, S⟩ := S
  have hqn : q < n := (ho q _ S.cells).1
  by_cases c : bs = []
  · refine SP_mid 0 (α := Unit) (fun _ => [(0, .ptr q 0), (6, .bool false)]) (fun _ => G) (fun _ m => n = m) ?_ (fun _ m hm => ?_)
    · simp [go_sem]
      refine SC.use (d336 S.cells S.b0) ?_
      rintro v H' n' ⟨rfl, rfl, rfl⟩
      simp [go_sem, Fz.same, c]
    subst hm
    refine SP_of ?_
    simp [go_sem]
    exact .inl ⟨at_, [], ps, pl, e, ⟨rfl, rfl, by omega, rfl, rfl⟩, ⟨p, ob, op, by rw [← c]; exact S⟩, fun o y _ h => h, Nat.le_refl _⟩
  · refine SP_mid 0 (α := Unit) (fun _ => [(0, .ptr q 0), (6, .bool true)]) (fun _ => G) (fun _ m => n = m) ?_ (fun _ m hm => ?_)
    · simp [go_sem]
      refine SC.use (d336 S.cells S.b0) ?_
      rintro v H' n' ⟨rfl, rfl, rfl⟩
      have : 0 < bs.length := by cases bs <;> simp at c ⊢
      simp [go_sem, Fz.same, this]
    subst hm
    refine SWE_cond (b := true) (by simp [go_sem]) ?_
    simp only [if_true]
    cases ob with
    | none => exact absurd (S.b0 rfl) c
    | some j =>
    obtain ⟨j1, j2, j3, j4⟩ := S.b1 j rfl
    have hjn : j < n := (ho j _ j4).1
    have hcells := S.cells
    have x1 : q ≠ j := Ne.symm j2
    have x2 : q ≠ n := by omega
    have x3 : q ≠ n + 1 := by omega
    obtain ⟨x, hx⟩ : ∃ x : Part, x = ⟨⟨bs.toArray⟩, 0, false⟩ := ⟨_, rfl⟩
    obtain ⟨E, hE⟩ : ∃ E, E = (ps ++ [x]).map Part.enc := ⟨_, rfl⟩
    have hle := S.le
    refine SP_midS 0 (α := Hp × Nat) (fun _ => [(0, .ptr q 0)]) (fun z => z.1) (FlP G B q n (fun k => [.str s, intE at_, p, bufV (some j) bs, AccV 3 (some k) E, intE pl, intE e]) E)
      (SP_tr trFl rfl (by kernel_rfl) (by kernel_rfl) ?_) (fun z m hm => ?_)
    · have hap : ∀ (X : Hp) (k p : Nat), X k = some (.cells [.str ⟨bs.toArray⟩, intE 0, .bool false]) → (∀ j, op = some j → X j = some (.cells ((ps.map Part.enc).flatMap SV.cells))) → _ := fun X k p g1 g2 => appP (x := x) (p := p) S.o0 (by rw [hx]; exact g1) g2 (by omega)
      have hfin : ∀ (X : Hp), X q = some (.cells [.str s, intE at_, p, bufV (some j) bs, .sl (n + 1) 0 3 (ps.length + 1) false, intE pl, intE e] (some 378)) → X (n + 1) = some (.cells ((ps.map Part.enc).flatMap SV.cells ++ x.enc.cells)) → (∀ o y, o < B → G o = some y → X o = some y) →
          FlP G B q n (fun k => [.str s, intE at_, p, bufV (some j) bs, AccV 3 (some k) E, intE pl, intE e]) E (X, n + 1) (n + 2) := fun X g1 g2 g3 => ⟨by omega, by show X q = _; rw [g1, hE]; simp [AccV], by show X (n + 1) = _; rw [g2, hE]; simp, by show n ≤ n + 1; omega, by show n + 1 < n + 2; omega, g3⟩
      have step : SCallE (Env.plain.call false 0) Tryz.prog 64 [.ptr q 2] G n (fun v h' n' => v = .str ⟨bs.toArray⟩ ∧ h' = hset G j none ∧ n = n') := SC.use (d337 hcells j4 j2 j3 (by omega)) fun v h' n' ⟨a, b, c⟩ => ⟨a, b, c.symm⟩
      cases op with
      | none =>
        have leaf : ∃ a, (∃ x_1, FlP G B q n (fun k => [.str s, intE at_, p, bufV (some j) bs, AccV 3 (some k) E, intE pl, intE e]) E (a, x_1) (n + 1 + 1)) ∧ ∀ (o : Nat) (y : SObj), a o = some y → hset (hset (hset (hset G j none) n (some (SObj.cells [.str ⟨bs.toArray⟩, intE 0, .bool false]))) (n + 1) (some (.cells (List.flatMap SV.cells (List.map Part.enc ps) ++ x.enc.cells)))) q (some (.cells [.str s, intE at_, p, bufV (some j) bs, .sl (n + 1) 0 3 (ps.length + 1) false, intE pl, intE e] (some 378))) o = some y :=
          ⟨_, ⟨_, hfin _ (hset_at _ _ _) ((hset_ne _ _ (Ne.symm x3)).trans (hset_at _ _ _)) fun o y g1 g2 => by have := (ho o y g2).1; rw [hset_ne _ _ (by omega), hset_ne _ _ (by omega), hset_ne _ _ (by omega), hset_ne _ _ (by omega)]; exact g2⟩, look_same⟩
        simp [go_sem, trFl, hcells]
        refine ⟨?_, ?_⟩
        · refine SCallE.mono step ?_
          rintro v H' n' ⟨rfl, rfl, rfl⟩
          simp [go_sem, hap, hset_at, hset_ne, hcells, x1, x2, x3]
          exact leaf
        · refine SCallE.mono step ?_
          rintro v H' n' ⟨rfl, rfl, rfl⟩
          simp [go_sem, hap, hset_at, hset_ne, hcells, x1, x2, x3]
          exact leaf
      | some i =>
        obtain ⟨i1, i2, i3, i4⟩ := S.o1 i rfl
        have hin : i < n := (ho i _ i4).1
        have hij : i ≠ j := by rintro rfl; exact i3 rfl
        have y1 : i ≠ n := by omega
        have y2 : q ≠ i := Ne.symm i2
        have leaf : ∃ a, (∃ x_1, FlP G B q n (fun k => [.str s, intE at_, p, bufV (some j) bs, AccV 3 (some k) E, intE pl, intE e]) E (a, x_1) (n + 1 + 1)) ∧ ∀ (o : Nat) (y : SObj), a o = some y → hset (hset (hset (hset (hset G j none) n (some (SObj.cells [.str ⟨bs.toArray⟩, intE 0, .bool false]))) i none) (n + 1) (some (.cells (List.flatMap SV.cells (List.map Part.enc ps) ++ x.enc.cells)))) q (some (.cells [.str s, intE at_, p, bufV (some j) bs, .sl (n + 1) 0 3 (ps.length + 1) false, intE pl, intE e] (some 378))) o = some y :=
          ⟨_, ⟨_, hfin _ (hset_at _ _ _) ((hset_ne _ _ (Ne.symm x3)).trans (hset_at _ _ _)) fun o y g1 g2 => by have := (ho o y g2).1; rw [hset_ne _ _ (by omega), hset_ne _ _ (by omega), hset_ne _ _ (by omega), hset_ne _ _ (by omega), hset_ne _ _ (by omega)]; exact g2⟩, look_same⟩
        simp [go_sem, trFl, hcells]
        refine ⟨?_, ?_⟩
        · refine SCallE.mono step ?_
          rintro v H' n' ⟨rfl, rfl, rfl⟩
          simp [go_sem, hap, hset_at, hset_ne, hcells, x1, x2, x3, y1, y2, hij, i4]
          exact leaf
        · refine SCallE.mono step ?_
          rintro v H' n' ⟨rfl, rfl, rfl⟩
          simp [go_sem, hap, hset_at, hset_ne, hcells, x1, x2, x3, y1, y2, hij, i4]
          exact leaf
    obtain ⟨H, k⟩ := z
    obtain ⟨m1, m2, m3, m4, m5, m6⟩ := hm
    dsimp only at m2 m3 m4 m6 ⊢
    rw [hE] at m2 m3
    refine SP_of ?_
    simp [go_sem]
    refine SC.use (d338 m2) ?_
    rintro v H' n' ⟨rfl, rfl, rfl⟩
    simp [go_sem]
    have := S.le
    refine .inl ⟨at_, [], ps ++ [x], pl, e, ⟨rfl, rfl, ?_, rfl, rfl⟩, ⟨.nilp, none, some k, ⟨S.le, by rw [hset_at]; simp [bufV, AccV], .inl rfl, fun _ => rfl, by simp, by simp, ?_⟩⟩, fun o y g1 g2 => ?_, by omega⟩
    · simp
    · rintro i hi; cases hi
      exact ⟨by omega, by omega, by simp, by rw [hset_ne _ _ (by omega)]; exact m3⟩
    · rw [hset_ne _ _ (by omega)]; exact m6 o y g1 g2
def DgQ (s : ByteArray) (k : Int) (G : Hp) (n : Nat) : SV → Hp → Nat → Prop := fun v h' n' => (∃ b, v = .bool b ∧ (b = true → k < s.size)) ∧ h' = G ∧ n' = n
theorem d333 {G : Hp} {n q B : Nat} {s : ByteArray} {at_ pl e : Int} {bs : List UInt8} {ps : List Part} (S : Scn G q B s at_ bs ps pl e) (k : Int) (hk : 0 ≤ k) :
    SCall Tryz.prog 326 [.ptr q 0, intE k] G n (DgQ s k G n) := by
  refine goS Tryz.func326 rfl (by kernel_rfl) (by kernel_rfl) (by simp [go_sem]) fun ho => ?_
  obtain ⟨p, ob, op, S⟩ := S
  have hc := S.cells
  refine SP_of ?_
  by_cases c : k < s.size
  · have hkl : k.toNat < s.size := by omega
    obtain ⟨x, hx⟩ : ∃ x, s[k.toNat]'hkl = x := ⟨_, rfl⟩
    have hb : s[k.toNat]? = some x := by rw [bget hkl, hx]
    by_cases c1 : (49 : Int) ≤ x.toNat
    · simp [go_sem, hc, c, hk, hx, c1]
      exact .inl ⟨⟨_, rfl, fun _ => c⟩, rfl, rfl⟩
    · simp [go_sem, hc, c, hk, hx, c1]
      exact .inl ⟨⟨_, rfl, fun _ => c⟩, rfl, rfl⟩
  · simp [go_sem, hc, c]
    exact .inl ⟨⟨false, rfl, by simp⟩, rfl, rfl⟩
def PlP (G : Hp) (B q n : Nat) (s : ByteArray) (at_ pl e : Int) (N : Nat) (z : Hp × List Part) (m : Nat) : Prop := n ≤ m ∧ Scn z.1 q B s at_ [] z.2 pl e ∧ z.2.length ≤ N ∧ ∀ o y, o < B → G o = some y → z.1 o = some y
set_option maxHeartbeats 1000000 in
theorem d334 {G : Hp} {n q B : Nat} {s : ByteArray} {at_ pl e d : Int} {b : Bool} {bs : List UInt8} {ps : List Part} (S : Scn G q B s at_ bs ps pl e) (hb : bs.length ≤ 1048576) (hps : ps.length ≤ 1048576) :
    SCall Tryz.prog 327 [.ptr q 0, .int .u8 d, .bool b] G n (ScQ q B s G n fun at' bs' ps' _ e' => at' = at_ ∧ bs' = [] ∧ ps'.length ≤ ps.length + 2 ∧ e' = e) := by
  refine goS Tryz.func327 rfl (by kernel_rfl) (by kernel_rfl) (by simp [go_sem]) fun ho => ?_
  refine SP_mid 0 (α := Hp × List Part) (fun _ => [(0, .ptr q 0), (1, .int .u8 d), (2, .bool b)]) (fun z => z.1) (PlP G B q n s at_ pl e (ps.length + 1)) ?_ (fun z m hm => ?_)
  · simp [go_sem]
    refine SC.use (d330 S hb hps) ?_
    rintro v H' n' ⟨a1, a2, a3, a4, a5, ⟨rfl, rfl, r3, rfl, rfl⟩, r6, r7, r8⟩
    simp [go_sem, Fz.same]
    exact ⟨H', ⟨a3, r8, r6, r3, r7⟩, look_same⟩
  obtain ⟨X, ps1⟩ := z
  obtain ⟨hm, S1, hl1, hk1⟩ := hm
  dsimp only at S1 hl1 hk1 ⊢
  refine SP_old fun hX => ?_
  have hlt : ∀ o y, X o = some y → o < m := fun o y e => (hX o y e).1
  refine SP_mid 0 (α := Hp × List Part) (fun _ => [(0, .ptr q 0)]) (fun z => z.1) (PlP G B q n s at_ pl e (ps.length + 2)) ?_ (fun z m hm => ?_)
  · have hle0 := S1.choose_spec.choose_spec.choose_spec.le
    obtain ⟨p, ob, op, S1⟩ := S1
    cases ob with
    | some j => exact absurd rfl (S1.b1 j rfl).2.2.1
    | none =>
    have hcells := S1.cells
    obtain ⟨x, hx⟩ : ∃ x : Part, x = ⟨.empty, IntKind.i64.wrap (IntKind.u8.wrap (d - 48)), b⟩ := ⟨_, rfl⟩
    have hap : ∀ (X : Hp) (k p : Nat), X k = some (.cells [.str .empty, intE (IntKind.i64.wrap (IntKind.u8.wrap (d - 48))), .bool b]) → (∀ j, op = some j → X j = some (.cells ((ps1.map Part.enc).flatMap SV.cells))) → _ := fun X k p g1 g2 => appP (x := x) (p := p) S1.o0 (by rw [hx]; exact g1) g2 (by omega)
    have hqm : q < m := hlt q _ hcells
    have x2 : q ≠ m := by omega
    have x3 : q ≠ m + 1 := by omega
    have hsc : ∀ (Y : Hp), Y q = some (.cells [.str s, intE at_, p, bufV none [], .sl (m + 1) 0 3 (ps1.length + 1) false, intE pl, intE e] (some 378)) → Y (m + 1) = some (.cells ((ps1.map Part.enc).flatMap SV.cells ++ x.enc.cells)) → Scn Y q B s at_ [] (ps1 ++ [x]) pl e := fun Y g1 g2 =>
      ⟨p, none, some (m + 1), S1.le, by rw [g1]; simp [AccV], S1.p, fun _ => rfl, by simp, by simp, by rintro i hi; cases hi; exact ⟨by omega, by omega, by simp, by rw [g2]; simp⟩⟩
    cases op with
    | none =>
      have leaf : ∃ a, (∃ x_1, PlP G B q n s at_ pl e (ps.length + 2) (a, x_1) (m + 1 + 1)) ∧ ∀ (o : Nat) (y : SObj), a o = some y → hset (hset (hset X m (some (SObj.cells [.str .empty, intE (IntKind.i64.wrap (IntKind.u8.wrap (d - 48))), .bool b]))) (m + 1) (some (.cells (List.flatMap SV.cells (List.map Part.enc ps1) ++ x.enc.cells)))) q (some (.cells [.str s, intE at_, p, bufV none [], .sl (m + 1) 0 3 (ps1.length + 1) false, intE pl, intE e] (some 378))) o = some y :=
        ⟨_, ⟨ps1 ++ [x], by omega, hsc _ (hset_at _ _ _) ((hset_ne _ _ (Ne.symm x3)).trans (hset_at _ _ _)), by simp; omega, fun o y g1 g2 => by have := (ho o y g2).1; dsimp only; rw [hset_ne _ _ (by omega), hset_ne _ _ (by omega), hset_ne _ _ (by omega)]; exact hk1 o y g1 g2⟩, look_same⟩
      simp [go_sem, hcells, hset_at, hset_ne, x2, x3, hap]
      exact leaf
    | some i =>
      obtain ⟨i1, i2, i3, i4⟩ := S1.o1 i rfl
      have hin : i < m := hlt i _ i4
      have y1 : i ≠ m := by omega
      have y2 : q ≠ i := Ne.symm i2
      have leaf : ∃ a, (∃ x_1, PlP G B q n s at_ pl e (ps.length + 2) (a, x_1) (m + 1 + 1)) ∧ ∀ (o : Nat) (y : SObj), a o = some y → hset (hset (hset (hset X m (some (SObj.cells [.str .empty, intE (IntKind.i64.wrap (IntKind.u8.wrap (d - 48))), .bool b]))) i none) (m + 1) (some (.cells (List.flatMap SV.cells (List.map Part.enc ps1) ++ x.enc.cells)))) q (some (.cells [.str s, intE at_, p, bufV none [], .sl (m + 1) 0 3 (ps1.length + 1) false, intE pl, intE e] (some 378))) o = some y :=
        ⟨_, ⟨ps1 ++ [x], by omega, hsc _ (hset_at _ _ _) ((hset_ne _ _ (Ne.symm x3)).trans (hset_at _ _ _)), by simp; omega, fun o y g1 g2 => by have := (ho o y g2).1; dsimp only; rw [hset_ne _ _ (by omega), hset_ne _ _ (by omega), hset_ne _ _ (by omega), hset_ne _ _ (by omega)]; exact hk1 o y g1 g2⟩, look_same⟩
      simp [go_sem, hcells, hset_at, hset_ne, x2, x3, hap, y1, y2, i4]
      exact leaf
  obtain ⟨X2, ps2⟩ := z
  obtain ⟨hm2, S2, hl2, hk2⟩ := hm
  dsimp only at S2 hl2 hk2 ⊢
  refine SP_of ?_
  obtain ⟨p, ob, op, S2⟩ := S2
  have hc2 := S2.cells
  simp [go_sem, hc2]
  have hle := S2.le
  refine .inl ⟨at_, [], ps2, IntKind.i64.wrap (pl + 1), e, ⟨rfl, rfl, hl2, rfl⟩, ⟨p, ob, op, S2.le, hset_at _ _ _, S2.p, S2.b0, fun j g => absurd rfl (S2.b1 j g).2.2.1, S2.o0, fun j g => ?_⟩, fun o y g1 g2 => ?_, hm2⟩
  · obtain ⟨i1, i2, i3, i4⟩ := S2.o1 j g
    exact ⟨i1, i2, i3, by rw [hset_ne _ _ i2]; exact i4⟩
  · rw [hset_ne _ _ (by omega)]; exact hk2 o y g1 g2
def PreT (a b : ByteArray) (v : SV) : Prop := ∃ x, v = .bool x ∧ (x = true → b.size ≤ a.size)
theorem t340 (a b : ByteArray) : TC 331 [.str a, .str b] (PreT a b) := by
  intro h n
  refine goS Tryz.func331 rfl (by kernel_rfl) (by kernel_rfl) (by simp [go_sem]) fun ho => ?_
  refine SP_of ?_
  by_cases c : (b.size : Int) ≤ a.size
  · simp [go_sem, c]
    exact retT ho look_same (by simp [closed]) ⟨_, rfl, fun _ => by omega⟩
  · simp [go_sem, c]
    exact retT ho look_same (by simp [closed]) ⟨_, rfl, by simp⟩
theorem t332 (a b : ByteArray) : TC 325 [.str a, .str b] (PreT a b) := by
  intro h n
  refine goS Tryz.func325 rfl (by kernel_rfl) (by kernel_rfl) (by simp [go_sem]) fun ho => ?_
  refine SP_of ?_
  simp [go_sem]
  refine TC.use (t340 a b) ?_
  rintro v ⟨x, rfl, hx⟩
  simp [go_sem]
  exact retT ho look_same (by simp [closed]) ⟨x, rfl, hx⟩
theorem Scd.upd {G : Hp} {q B : Nat} {s : ByteArray} {at_ pl e : Int} {bs : List UInt8} {ps : List Part} {p : SV} {ob op : Option Nat} (S : Scd G q B s at_ bs ps pl e p ob op) (at' pl' e' : Int) :
    Scn (hset G q (some (.cells [.str s, intE at', p, bufV ob bs, AccV 3 op (ps.map Part.enc), intE pl', intE e'] (some 378)))) q B s at' bs ps pl' e' :=
  ⟨p, ob, op, S.le, hset_at _ _ _, S.p, S.b0, fun j g => by obtain ⟨a, b, c, d⟩ := S.b1 j g; exact ⟨a, b, c, by rw [hset_ne _ _ b]; exact d⟩, S.o0, fun j g => by obtain ⟨a, b, c, d⟩ := S.o1 j g; exact ⟨a, b, c, by rw [hset_ne _ _ b]; exact d⟩⟩
theorem d329s {G : Hp} {n q B : Nat} {s : ByteArray} {at_ pl e : Int} {bs : List UInt8} {ps : List Part} (S : Scn G q B s at_ bs ps pl e) (ho : Old G n) (hb : bs.length ≤ 1048576) (x : UInt8) :
    SCall Tryz.prog 321 [.ptr q 2, byteV x] G n (ScQ q B s G n fun at' bs' ps' pl' e' => at' = at_ ∧ bs' = bs ++ [x] ∧ ps' = ps ∧ pl' = pl ∧ e' = e) := by
  obtain ⟨p, ob, op, S⟩ := S
  have hqn := (ho q _ S.cells).1
  have hle := S.le
  refine (d329 (x := x) S.cells S.p S.b0 (fun j g => ⟨(S.b1 j g).2.1, (S.b1 j g).2.2.2⟩) (by omega)).mono ?_
  rintro v h' n' ⟨j, g1, g2, g3, g4, g5⟩
  refine ⟨at_, bs ++ [x], ps, pl, e, ⟨rfl, rfl, rfl, rfl, rfl⟩, ⟨.ptr q 2, some j, op, S.le, g2, .inr rfl, by simp, fun i hi => ?_, S.o0, fun i hi => ?_⟩, fun o y h1 h2 => g1 o y (by omega) (fun g => ?_) h2, by omega⟩
  · cases hi; exact ⟨by omega, by omega, by simp, g3⟩
  · obtain ⟨i1, i2, i3, i4⟩ := S.o1 i hi
    have := (ho i _ i4).1
    exact ⟨i1, i2, fun g => by cases g; omega, g1 i _ i2 i3 i4⟩
  · have := (S.b1 o g).1; omega
def trPa : Tr := .pure 0 (.pure 1 (.pure 2 (.pure 4 (.pure 5 (.pure 6 (.two 3 7 (.one 7 (.one 8 (.one 9 (.pure 10 .nil)))) (.one 3 (.one 8 (.one 9 (.pure 10 .nil))))))))))
def trPb : Tr := .pure 0 (.pure 1 (.pure 2 (.pure 3 (.pure 5 (.pure 6 (.pure 7 (.two 4 8 (.one 8 (.pure 9 (.one 10 (.one 11 .nil)))) (.pure 9 (.one 4 (.one 10 (.one 11 .nil)))))))))))
def trPc : Tr := .pure 0 (.pure 1 (.pure 2 (.pure 4 (.pure 5 (.pure 6 (.two 3 7 (.one 7 (.one 8 (.one 9 (.pure 10 (.pure 11 (.pure 12 (.pure 13 (.pure 14 (.one 15 (.pure 16 (.one 17 (.pure 18 (.pure 19 .nil))))))))))))) (.one 3 (.one 8 (.one 9 (.pure 10 (.pure 11 (.pure 12 (.pure 13 (.pure 14 (.one 15 (.pure 16 (.one 17 (.pure 18 (.pure 19 .nil)))))))))))))))))))
def BkP (n : Nat) (P : Prop) (b : Bx) (m : Nat) : Prop := n ≤ m ∧ (b.b = true → P)
def StP (G : Hp) (q B n : Nat) (s : ByteArray) (R : Int → List UInt8 → List Part → Int → Int → Prop) (z : Hp) (m : Nat) : Prop := n ≤ m ∧ ∃ at_ bs ps pl e, R at_ bs ps pl e ∧ Scn z q B s at_ bs ps pl e ∧ ∀ o y, o < B → G o = some y → z o = some y
theorem ScQ.st {q B : Nat} {s : ByteArray} {G : Hp} {n0 n : Nat} {R : Int → List UInt8 → List Part → Int → Int → Prop} {v : SV} {h' : Hp} {n' : Nat} (H : ScQ q B s G n R v h' n') (hn : n0 ≤ n) : StP G q B n0 s R h' n' := by
  obtain ⟨a1, a2, a3, a4, a5, h1, h2, h3, h4⟩ := H
  exact ⟨by omega, a1, a2, a3, a4, a5, h1, h2, h3⟩
def PcR (s : ByteArray) (at_ e : Int) (bs : List UInt8) (ps : List Part) : Int → List UInt8 → List Part → Int → Int → Prop := fun at' bs' ps' _ e' =>
  ((at_ < at' ∧ at' ≤ s.size ∧ e' = e) ∨ (at' = at_ ∧ e' = 14)) ∧ bs'.length ≤ bs.length + 1 ∧ ps'.length ≤ ps.length + 2
set_option maxHeartbeats 2000000 in
theorem d328 {G : Hp} {n q B : Nat} {s : ByteArray} {at_ pl e : Int} {bs : List UInt8} {ps : List Part} (S : Scn G q B s at_ bs ps pl e) (h0 : 0 ≤ at_) (h1 : at_ < s.size) (hs : s.size ≤ 1048576) (hb : bs.length ≤ 1048576) (hps : ps.length ≤ 1048576) :
    SCall Tryz.prog 320 [.ptr q 0] G n (ScQ q B s G n (PcR s at_ e bs ps)) := by
  refine goS Tryz.func320 rfl (by kernel_rfl) (by kernel_rfl) (by simp [go_sem]) fun ho => ?_
  obtain ⟨p0, ob0, op0, S0⟩ := id S
  have hc := S0.cells
  have w1 : IntKind.i64.wrap (at_ + 1) = at_ + 1 := by rw [wr64] <;> omega
  have w2 : IntKind.i64.wrap (at_ + 2) = at_ + 2 := by rw [wr64] <;> omega
  have w3 : IntKind.i64.wrap (at_ + 3) = at_ + 3 := by rw [wr64] <;> omega
  have fin : ∀ (z : Hp) (m : Nat) (a1 e1 at' pl1 pl' e' : Int) (bs' : List UInt8) (ps' : List Part) (p : SV) (ob op : Option Nat), Scd z q B s a1 bs' ps' pl1 e1 p ob op → (∀ o y, o < B → G o = some y → z o = some y) → n ≤ m → PcR s at_ e bs ps at' bs' ps' pl' e' →
      RetS n (hset z q (some (.cells [.str s, intE at', p, bufV ob bs', AccV 3 op (ps'.map Part.enc), intE pl', intE e'] (some 378)))) m (.tup []) (ScQ q B s G n (PcR s at_ e bs ps)) := fun z m a1 e1 at' pl1 pl' e' bs' ps' p ob op T hk hm hR =>
    .inl ⟨at', bs', ps', pl', e', hR, T.upd at' pl' e', fun o y g1 g2 => by have := T.le; rw [hset_ne _ _ (by omega)]; exact hk o y g1 g2, hm⟩
  refine SP_block ?_
  refine SP_midS 0 (α := Bx) (fun b => [(0, .ptr q 0), (5, .bool b.b)]) (fun _ => G) (BkP n (at_ + 2 ≤ s.size)) (SP_tr trPa rfl (by kernel_rfl) (by kernel_rfl) ?_) (fun b m hm => ?_)
  · have hpre : ∀ {K : SV → Hp → Nat → Prop}, (∀ b : Bx, BkP n (at_ + 2 ≤ s.size) b n → K (.bool b.b) G n) → SCallE (Env.plain.call false 0) Tryz.prog 325 [.str (s.extract at_.toNat s.size), .str ⟨#[37, 37]⟩] G n K := fun hK =>
      TC.use (t332 _ _) fun v ⟨x, e1, e2⟩ => by
        rw [e1]
        refine hK ⟨x⟩ ⟨Nat.le_refl _, fun g => ?_⟩
        have := e2 g
        simp at this
        have h9 : (⟨#[37, 37]⟩ : ByteArray).size = 2 := rfl
        omega
    simp [go_sem, trPa, hc, h0]
    have := Int.le_of_lt h1
    simp [this]
    refine ⟨?_, ?_⟩ <;>
    · refine hpre fun b hb => ?_
      simp [go_sem, Fz.same]
      exact ⟨b, hb, rfl⟩
  obtain ⟨b⟩ := b
  obtain ⟨hm, hbb⟩ := hm
  dsimp only at hbb ⊢
  cases b with
  | true =>
    have hbb := hbb rfl
    refine SWE_cond (b := true) (by simp [go_sem]) ?_
    simp only [if_true]
    refine SP_old fun hom => ?_
    refine SP_mid 0 (α := Hp) (fun _ => [(0, .ptr q 0)]) (fun z => z) (StP G q B n s fun at' bs' ps' pl' e' => at' = at_ ∧ bs' = bs ++ [37] ∧ ps' = ps ∧ pl' = pl ∧ e' = e) ?_ (fun z m hm => ?_)
    · simp [go_sem]
      refine SC.use (show SCall Tryz.prog 321 [.ptr q 2, .int .u8 37] G _ _ from d329s S hom hb 37) ?_
      rintro v H' n' hq
      simp [go_sem, Fz.same]
      exact ⟨H', hq.st hm, look_same⟩
    obtain ⟨hm, a1, a2, a3, a4, a5, ⟨rfl, rfl, rfl, rfl, rfl⟩, ⟨p, ob, op, T⟩, hk⟩ := hm
    refine SP_of ?_
    have hT := T.cells
    simp [go_sem, hT, w2]
    exact fin _ _ _ _ _ _ _ _ _ _ _ _ _ T hk hm ⟨.inl ⟨by omega, hbb, rfl⟩, by simp, by omega⟩
  | false =>
    refine SWE_cond (b := false) (by simp [go_sem]) ?_
    simp only [Bool.false_eq_true, if_false]
    refine SP_mid 0 (α := Bx) (fun b => [(0, .ptr q 0), (27, .bool b.b)]) (fun _ => G) (BkP n (at_ + 1 < s.size)) ?_ (fun b m hm => ?_)
    · simp [go_sem, hc, w1]
      refine SC.use (d333 S (at_ + 1) (by omega)) ?_
      rintro v H' n' ⟨⟨b, rfl, hb2⟩, rfl, rfl⟩
      simp [go_sem, Fz.same]
      exact ⟨⟨b⟩, ⟨hm, hb2⟩, rfl⟩
    obtain ⟨b⟩ := b
    obtain ⟨hm, hbb⟩ := hm
    dsimp only at hbb ⊢
    cases b with
    | true =>
      have hbb := hbb rfl
      refine SWE_cond (b := true) (by simp [go_sem]) ?_
      simp only [if_true]
      refine SP_midS 0 (α := Hp) (fun _ => [(0, .ptr q 0)]) (fun z => z) (StP G q B n s fun at' bs' ps' _ e' => at' = at_ ∧ bs' = [] ∧ ps'.length ≤ ps.length + 2 ∧ e' = e) (SP_tr trPb rfl (by kernel_rfl) (by kernel_rfl) ?_) (fun z m hm => ?_)
      · have hkl : (at_ + 1).toNat < s.size := by omega
        obtain ⟨x, hx⟩ : ∃ x, s[(at_ + 1).toNat]'hkl = x := ⟨_, rfl⟩
        have hgx : s[(at_ + 1).toNat]? = some x := by rw [bget hkl, hx]
        have h01 : 0 ≤ at_ + 1 := by omega
        simp [go_sem, trPb, hc, w1, h01, hgx]
        refine ⟨?_, ?_⟩ <;>
        · refine SC.use (d334 S hb hps) ?_
          rintro v H' n' hq
          simp [go_sem, Fz.same]
          exact ⟨H', hq.st hm, look_same⟩
      obtain ⟨hm, a1, a2, a3, a4, a5, ⟨rfl, rfl, hl, rfl⟩, ⟨p, ob, op, T⟩, hk⟩ := hm
      refine SP_of ?_
      have hT := T.cells
      simp [go_sem, hT, w2]
      exact fin _ _ _ _ _ _ _ _ _ _ _ _ _ T hk hm ⟨.inl ⟨by omega, by omega, rfl⟩, by simp, hl⟩
    | false =>
      refine SWE_cond (b := false) (by simp [go_sem]) ?_
      simp only [Bool.false_eq_true, if_false]
      refine SP_midS 0 (α := Bx) (fun b => [(0, .ptr q 0), (54, .bool b.b)]) (fun _ => G) (BkP n (at_ + 2 < s.size)) (SP_tr trPc rfl (by kernel_rfl) (by kernel_rfl) ?_) (fun b m hm => ?_)
      · have h1' := Int.le_of_lt h1
        simp [go_sem, trPc, hc, h0, h1']
        refine ⟨?_, ?_⟩ <;>
        · refine TC.use (t332 _ _) ?_
          rintro v ⟨b, rfl, _⟩
          cases b with
          | false =>
            simp [go_sem, Fz.same]
            exact ⟨⟨false⟩, ⟨hm, by simp⟩, rfl⟩
          | true =>
            simp [go_sem, hc, w2]
            refine SC.use (d333 S (at_ + 2) (by omega)) ?_
            rintro v H' n' ⟨⟨b, rfl, hb2⟩, rfl, rfl⟩
            simp [go_sem, Fz.same]
            exact ⟨⟨b⟩, ⟨hm, hb2⟩, rfl⟩
      obtain ⟨b⟩ := b
      obtain ⟨hm, hbb⟩ := hm
      dsimp only at hbb ⊢
      cases b with
      | true =>
        have hbb := hbb rfl
        refine SWE_cond (b := true) (by simp [go_sem]) ?_
        simp only [if_true]
        refine SP_midS 0 (α := Hp) (fun _ => [(0, .ptr q 0)]) (fun z => z) (StP G q B n s fun at' bs' ps' _ e' => at' = at_ ∧ bs' = [] ∧ ps'.length ≤ ps.length + 2 ∧ e' = e) (SP_tr trPb rfl (by kernel_rfl) (by kernel_rfl) ?_) (fun z m hm => ?_)
        · have hkl : (at_ + 2).toNat < s.size := by omega
          obtain ⟨x, hx⟩ : ∃ x, s[(at_ + 2).toNat]'hkl = x := ⟨_, rfl⟩
          have hgx : s[(at_ + 2).toNat]? = some x := by rw [bget hkl, hx]
          have h01 : 0 ≤ at_ + 2 := by omega
          simp [go_sem, trPb, hc, w2, h01, hgx]
          refine ⟨?_, ?_⟩ <;>
          · refine SC.use (d334 S hb hps) ?_
            rintro v H' n' hq
            simp [go_sem, Fz.same]
            exact ⟨H', hq.st hm, look_same⟩
        obtain ⟨hm, a1, a2, a3, a4, a5, ⟨rfl, rfl, hl, rfl⟩, ⟨p, ob, op, T⟩, hk⟩ := hm
        refine SP_of ?_
        have hT := T.cells
        simp [go_sem, hT, w3]
        exact fin _ _ _ _ _ _ _ _ _ _ _ _ _ T hk hm ⟨.inl ⟨by omega, by omega, rfl⟩, by simp, hl⟩
      | false =>
        refine SWE_cond (b := false) (by simp [go_sem]) ?_
        simp only [Bool.false_eq_true, if_false]
        refine SP_of ?_
        simp [go_sem, hc]
        exact fin _ _ _ _ _ _ _ _ _ _ _ _ _ S0 (fun _ _ _ h => h) hm ⟨.inr ⟨rfl, rfl⟩, by omega, by omega⟩
def trSa : Tr := .pure 0 (.pure 1 (.pure 2 (.pure 4 (.pure 5 (.pure 6 (.two 3 7 (.one 7 (.one 8 (.pure 9 (.pure 10 (.pure 11 (.pure 12 (.pure 13 (.one 14 (.pure 15 (.pure 16 .nil)))))))))) (.two 3 8 (.one 8 (.pure 9 (.pure 10 (.pure 11 (.pure 12 (.pure 13 (.one 14 (.pure 15 (.pure 16 .nil))))))))) (.one 3 (.pure 9 (.pure 10 (.pure 11 (.pure 12 (.pure 13 (.one 14 (.pure 15 (.pure 16 .nil))))))))))))))))
def trSb : Tr := .pure 0 (.pure 1 (.pure 2 (.pure 4 (.pure 5 (.pure 6 (.two 3 7 (.one 7 (.one 8 (.pure 9 .nil))) (.one 3 (.one 8 (.pure 9 .nil)))))))))
def trSc : Tr := .pure 0 (.pure 1 (.pure 2 (.pure 3 (.pure 4 (.pure 5 (.pure 7 (.pure 8 (.pure 9 (.two 6 10 (.one 10 (.one 11 (.one 12 .nil))) (.one 6 (.one 11 (.one 12 .nil))))))))))))
def SnR (s : ByteArray) (z : Int × Int) : Int → List UInt8 → List Part → Int → Int → Prop := fun at_ bs ps _ e =>
  at_ = z.1 ∧ e = z.2 ∧ 0 ≤ at_ ∧ at_ ≤ s.size ∧ (e = 0 → (bs.length : Int) ≤ at_ ∧ (ps.length : Int) ≤ 2 * at_) ∧ (bs.length : Int) ≤ at_ + 1 ∧ (ps.length : Int) ≤ 2 * at_ + 2
def SnI (G : Hp) (q B n : Nat) (s : ByteArray) (z : Hp × Int × Int) (m : Nat) : Prop := StP G q B n s (SnR s z.2) z.1 m
def SnM (s : ByteArray) (z : Hp × Int × Int) : Nat := 2 * (s.size - z.2.1).toNat + (if z.2.2 = 0 then 1 else 0)
set_option maxHeartbeats 2000000 in
theorem d320 {G : Hp} {n q B : Nat} {s : ByteArray} {pl : Int} (S : Scn G q B s 0 [] [] pl 0) (hs : s.size ≤ 1024) :
    SCall Tryz.prog 309 [.ptr q 0] G n (ScQ q B s G n fun _ _ ps' _ _ => ps'.length ≤ 1048576) := by
  refine goS Tryz.func309 rfl (by kernel_rfl) (by kernel_rfl) (by simp [go_sem]) fun ho => ?_
  refine SP_midS 0 (α := Hp × Int × Int) (fun _ => [(0, .ptr q 0)]) (fun z => z.1) (SnI G q B n s) ?_ (fun z m hm => ?_)
  · refine SP_block (goloopS 0 (α := Hp × Int × Int) (fun _ => [(0, .ptr q 0)]) (fun z => z.1) (SnI G q B n s) (SnM s) (G, 0, 0) ⟨Nat.le_refl _, 0, [], [], pl, 0, ⟨rfl, rfl, by omega, by simp, by simp, by simp, by simp⟩, S, fun _ _ _ h => h⟩ ?_ look_same ?_)
    · simp [go_sem, look, Fz.same]
    rintro ⟨z, a0, e0⟩ m ⟨hm, at_, bs, ps, pl2, e, ⟨h1, h2, h3, h4, h5, h6, h7⟩, T, hk⟩
    dsimp only at h1 h2 T hk ⊢
    subst h1; subst h2
    obtain ⟨p, ob, op, T0⟩ := id T
    have hc := T0.cells
    by_cases c : at_ < s.size ∧ e = 0
    · obtain ⟨c1, rfl⟩ := c
      have hl := h5 rfl
      have hbl : bs.length ≤ 1024 ∧ ps.length ≤ 2048 := by omega
      refine SP_midS 0 (α := Unit) (fun _ => [(0, .ptr q 0)]) (fun _ => z) (fun _ m2 => m ≤ m2) ?_ (fun _ m3 hm3 => ?_)
      · refine SP_midS 0 (α := Unit) (fun _ => [(0, .ptr q 0), (18, .bool true)]) (fun _ => z) (fun _ m2 => m ≤ m2) (SP_tr trSa rfl (by kernel_rfl) (by kernel_rfl) ?_) (fun _ m2 hm2 => ?_)
        · simp [go_sem, trSa, hc, c1, Fz.same]
        refine SP_of ?_
        simp [go_sem, Fz.same, hm2]
      refine SP_block ?_
      have hkl : at_.toNat < s.size := by omega
      obtain ⟨x, hx⟩ : ∃ x, s[at_.toNat]'hkl = x := ⟨_, rfl⟩
      have hgx : s[at_.toNat]? = some x := by rw [bget hkl, hx]
      refine SP_midS 0 (α := Unit) (fun _ => [(0, .ptr q 0)]) (fun _ => z) (fun _ m2 => m ≤ m2) ?_ (fun _ m4 hm4 => ?_)
      · refine SP_midS 0 (α := Bx) (fun b => [(0, .ptr q 0), (28, .bool b.b)]) (fun _ => z) (fun _ m4 => m3 ≤ m4) (SP_tr trSb rfl (by kernel_rfl) (by kernel_rfl) ?_) (fun b m4 hm4 => ?_)
        · simp [go_sem, trSb, hc, h3, hgx, Fz.same]
          exact ⟨⟨_⟩, rfl⟩
        obtain ⟨b⟩ := b
        refine SP_of ?_
        cases b with
        | false => simp [go_sem, Fz.same]; omega
        | true =>
          simp [go_sem]
          refine SC.use (d328 T h3 c1 (by omega) (by omega) (by omega)) ?_
          rintro v H' n' ⟨a1, a2, a3, a4, a5, ⟨hor, r2, r3⟩, r6, r7, r8⟩
          simp [go_sem, Fz.same]
          have hk2 : ∀ o y, o < B → G o = some y → H' o = some y := fun o y g1 g2 => r7 o y g1 (hk o y g1 g2)
          refine ⟨H', a1, a5, ?_, ⟨by omega, a1, a2, a3, a4, a5, ⟨rfl, rfl, by omega, by omega, fun g => by omega, by omega, by omega⟩, r6, hk2⟩, look_same⟩
          rcases hor with ⟨g1, g2, rfl⟩ | ⟨rfl, rfl⟩
          · simp [SnM]; omega
          · simp [SnM]
      refine SP_old fun hom => ?_
      refine SP_midS 0 (α := Hp) (fun _ => [(0, .ptr q 0)]) (fun y => y) (StP z q B m s fun at' bs' ps' pl' e' => at' = at_ ∧ bs' = bs ++ [x] ∧ ps' = ps ∧ pl' = pl2 ∧ e' = 0) (SP_tr trSc rfl (by kernel_rfl) (by kernel_rfl) ?_) (fun y m5 hm5 => ?_)
      · simp [go_sem, trSc, hc, h3, hgx]
        refine ⟨?_, ?_⟩ <;>
        · refine SC.use (d329s T hom (by omega) x) ?_
          rintro v H' n' hq
          simp [go_sem, Fz.same]
          exact ⟨H', hq.st hm4, look_same⟩
      obtain ⟨hm5, a1, a2, a3, a4, a5, ⟨rfl, rfl, rfl, rfl, rfl⟩, ⟨p1, ob1, op1, T1⟩, hk1⟩ := hm5
      have hT := T1.cells
      have w1 : IntKind.i64.wrap (a1 + 1) = a1 + 1 := by rw [wr64] <;> omega
      refine SP_of ?_
      simp [go_sem, hT, w1, Fz.same]
      refine ⟨_, a1 + 1, 0, by simp [SnM]; omega, ⟨by omega, a1 + 1, bs ++ [x], a3, a4, 0, ⟨rfl, rfl, by omega, by omega, fun _ => by simp; omega, by simp; omega, by omega⟩, T1.upd (a1 + 1) a4 0, fun o w g1 g2 => ?_⟩, look_same⟩
      have := T1.le
      exact (hset_ne _ _ (show o ≠ q by omega)).trans (hk1 o w g1 (hk o w g1 g2))
    · refine SP_midS 0 (α := Unit) (fun _ => []) (fun _ => z) (fun _ _ => False) ?_ (fun _ _ hF => hF.elim)
      refine SP_midS 0 (α := Unit) (fun _ => [(0, .ptr q 0), (18, .bool false)]) (fun _ => z) (fun _ m2 => m ≤ m2) (SP_tr trSa rfl (by kernel_rfl) (by kernel_rfl) ?_) (fun _ m2 hm2 => ?_)
      · by_cases c1 : at_ < s.size
        · have c2 : ¬ e = 0 := fun g => c ⟨c1, g⟩
          have c3 : (e == 0) = false := by simpa using c2
          simp [go_sem, trSa, hc, c1, c3, Fz.same]
        · simp [go_sem, trSa, hc, c1, Fz.same]
      refine SP_of ?_
      simp [go_sem, Fz.same]
      exact ⟨z, ⟨at_, e, by omega, at_, bs, ps, pl2, e, ⟨rfl, rfl, h3, h4, h5, h6, h7⟩, T, hk⟩, look_same⟩
  · obtain ⟨z, a0, e0⟩ := z
    obtain ⟨hm, at_, bs, ps, pl2, e, ⟨h1, h2, h3, h4, h5, h6, h7⟩, T, hk⟩ := hm
    dsimp only at h1 h2 T hk ⊢
    refine SP_mid 0 (α := Hp) (fun _ => [(0, .ptr q 0)]) (fun y => y) (StP z q B m s fun _ _ ps' _ _ => ps'.length ≤ 1048576) ?_ (fun y m2 hm2 => ?_)
    · simp [go_sem]
      refine SC.use (d330 T (by omega) (by omega)) ?_
      rintro v H' n' ⟨b1, b2, b3, b4, b5, ⟨r1, r2, r3, r4, r5⟩, r6, r7, r8⟩
      simp [go_sem, Fz.same]
      exact ⟨H', ⟨r8, b1, b2, b3, b4, b5, by dsimp only; omega, r6, r7⟩, look_same⟩
    obtain ⟨hm2, b1, b2, b3, b4, b5, hps, ⟨p1, ob1, op1, T1⟩, hk1⟩ := hm2
    have hc := T1.cells
    refine SP_of ?_
    by_cases c1 : b5 = 0
    · by_cases c2 : 9 < b4
      · simp [go_sem, hc, c1, c2]
        refine .inl ⟨b1, b2, b3, b4, 9, hps, T1.upd b1 b4 9, fun o y g1 g2 => ?_, by omega⟩
        have := T1.le
        rw [hset_ne _ _ (by omega)]; exact hk1 o y g1 (hk o y g1 g2)
      · simp [go_sem, hc, c1, c2]
        exact .inl ⟨b1, b2, b3, b4, b5, hps, ⟨p1, ob1, op1, T1⟩, fun o y g1 g2 => hk1 o y g1 (hk o y g1 g2), by omega⟩
    · simp [go_sem, hc, c1]
      exact .inl ⟨b1, b2, b3, b4, b5, hps, ⟨p1, ob1, op1, T1⟩, fun o y g1 g2 => hk1 o y g1 (hk o y g1 g2), by omega⟩
theorem c319 (b : Int) : PC 308 [byteE b] (.bool (decide (b < 32) || decide (b = 127))) := by
  intro h n
  refine go Tryz.func308 rfl (by kernel_rfl) (by kernel_rfl) (by simp [go_sem]) fun ho => ?_
  by_cases c : b < 32
  · simp [go_sem, c]
    exact ret0 ho rfl rfl
  · simp [go_sem, c]
    exact ret0 ho rfl (by by_cases c2 : b = 127 <;> simp [c2])
def PaT (v : SV) : Prop := ∃ (ps : List Part) (e : Int), v = .tup [.imm 3 (ps.map Part.enc) false, intE e] ∧ ps.length ≤ 1048576
def trPr : Tr := .pure 0 (.pure 1 (.pure 2 (.pure 4 (.one 3 (.pure 5 .nil)))))
theorem t302 (s : ByteArray) (hs : s.size ≤ 1048576) : TC 282 [.str s] PaT := by
  intro h n
  refine goS Tryz.func282 rfl (by kernel_rfl) (by kernel_rfl) (by simp [go_sem]) fun ho => ?_
  have out : ∀ (H : Hp) (m : Nat) (e : Int), (∀ j y, h j = some y → H j = some y) → RetS n H m (.tup [.imm 0 [] true, intE e]) (fun v h' n' => PaT v ∧ h' = h ∧ n' = n) := fun H m e hh =>
    retTz 2 ho hh (v := .tup [.imm 3 [] false, intE e]) (.inr ⟨imm_fz (by simp), Fz.same, trivial⟩) (by simp [closed, closedL]) ⟨[], e, rfl, by simp⟩
  refine SP_mid 0 (α := Unit) (fun _ => [(0, .str s)]) (fun _ => h) (fun _ m => n ≤ m) ?_ (fun _ m hm => ?_)
  · simp [go_sem, Fz.same]
  refine SP_midS 0 (α := Unit) (fun _ => [(0, .str s)]) (fun _ => h) (fun _ m => n ≤ m ∧ s.size ≤ 64) (SP_block ?_) (fun _ m hm => ?_)
  · by_cases a1 : (64 : Int) < s.size
    · refine SP_of ?_
      simp [go_sem, a1]
      exact out _ _ _ look_same
    have hl : s.size ≤ 64 := by omega
    refine SP_of ?_
    simp [go_sem, a1]
    refine (c116 s (by omega)).use ?_
    cases cpValid s with
    | false =>
      simp [go_sem]
      exact out _ _ _ look_same
    | true =>
    simp [go_sem]
    have hby : ∀ b : List UInt8, b.map byteV = (b.map fun x => (x.toNat : Int)).map byteE := fun b => by rw [List.map_map]; rfl
    refine sem_bytes (s := s) (e := 5) rfl (by simp [go_sem]) (by simp [go_sem]) (by simp [go_sem]) rfl ?_
    rw [hby]
    have hlen : s.data.toList.length = s.size := by rw [Array.length_toList]; rfl
    have h318 := c318 (s.data.toList.map fun x => (x.toNat : Int)) (by simp [hlen]; omega) 308 [] [] (fun i => match (s.data.toList.map fun x => (x.toNat : Int))[i]? with | some b => decide (b < 32) || decide (b = 127) | none => false) (fun i hi => by rw [List.getElem?_eq_getElem hi]; exact c319 _)
    generalize anyI _ _ = b at h318
    generalize (s.data.toList.map fun x => (x.toNat : Int)).map byteE = L at h318 ⊢
    simp [go_sem]
    refine PC.use h318 ?_
    cases b with
    | true =>
      simp [go_sem]
      exact out _ _ _ look_same
    | false =>
      simp [go_sem, Fz.same, hm, hl]
  obtain ⟨hm, hl⟩ := hm
  refine SP_old fun hom => ?_
  refine SP_mid 0 (α := Hp) (fun _ => [(4, .ptr m 0)]) (fun z => z) (fun z m2 => m < m2 ∧ Scn z m m s 0 [] [] 0 0 ∧ ∀ o y, h o = some y → z o = some y) ?_ (fun z m2 hm2 => ?_)
  · simp [go_sem, Fz.same]
    exact ⟨_, ⟨⟨.nilp, none, none, Nat.le_refl _, hset_at _ _ _, .inl rfl, fun _ => rfl, by simp, fun _ => rfl, by simp⟩, set_keep (fun j y e => (hom j y e).1) look_same⟩, look_same⟩
  obtain ⟨hm2, S, hk⟩ := hm2
  refine SP_midS 0 (α := Hp) (fun _ => [(4, .ptr m 0)]) (fun y => y) (StP z m m m2 s fun _ _ ps' _ _ => ps'.length ≤ 1048576) ?_ (fun y m3 hm3 => ?_)
  · refine SP_mid 0 (α := Hp) (fun _ => [(4, .ptr m 0)]) (fun y => y) (StP z m m m2 s fun _ _ ps' _ _ => ps'.length ≤ 1048576) ?_ (fun y m3 hm3 => ?_)
    · simp [go_sem]
      refine SC.use (d320 S (by omega)) ?_
      rintro v H' n' hq
      simp [go_sem, Fz.same]
      exact ⟨H', hq.st (Nat.le_refl _), look_same⟩
    obtain ⟨hm3, b1, b2, ps, b4, e, hps, ⟨p1, ob1, op1, T⟩, hk1⟩ := hm3
    have hc := T.cells
    have hkk : ∀ o w, h o = some w → y o = some w := fun o w g => hk1 o w (hom o w g).1 (hk o w g)
    by_cases c1 : e = 0
    · refine SP_of ?_
      simp [go_sem, hc, c1, Fz.same]
      exact ⟨y, ⟨by omega, b1, b2, ps, b4, e, hps, ⟨p1, ob1, op1, T⟩, hk1⟩, look_same⟩
    · have c2 : (e != 0) = true := by simpa using c1
      refine SP_mid 0 (α := Unit) (fun _ => [(4, .ptr m 0), (26, .bool true)]) (fun _ => y) (fun _ _ => True) ?_ (fun _ m4 _ => ?_)
      · simp [go_sem, hc, c2, Fz.same]
      refine SWE_cond (b := true) (by simp [go_sem]) ?_
      simp only [if_true]
      refine SP_midS 0 (α := Unit) (fun _ => [(2, .imm 0 [] true), (3, intE e)]) (fun _ => y) (fun _ _ => True) (SP_tr trPr rfl (by kernel_rfl) (by kernel_rfl) ?_) (fun _ m5 _ => ?_)
      · simp [go_sem, trPr, hc, Fz.same]
      refine SP_of ?_
      simp [go_sem]
      exact out _ _ _ hkk
  obtain ⟨hm3, b1, b2, ps, b4, e, hps, ⟨p1, ob1, op1, T⟩, hk1⟩ := hm3
  have hc := T.cells
  have hkk : ∀ o w, h o = some w → y o = some w := fun o w g => hk1 o w (hom o w g).1 (hk o w g)
  refine SP_of ?_
  simp [go_sem, hc]
  have hA : AccI n (m3 + (op1.getD 0) + 1) 3 op1 (ps.map Part.enc) := ⟨fun e => by rw [T.o0 e]; rfl, fun j e => ⟨by have := (T.o1 j e).1; omega, by rw [e]; simp; omega⟩, Part.size ps⟩
  have hh : ∀ j w, AccH op1 (ps.map Part.enc) h j = some w → y j = some w := fun j w g => by
    cases op1 with
    | none => exact hkk j w g
    | some i =>
      simp only [AccH, hset] at g
      split at g
      · rename_i hji; subst hji; rw [(T.o1 j rfl).2.2.2]; exact g
      · exact hkk j w g
  exact retTz 2 ho hkk (v := .tup [.imm 3 (ps.map Part.enc) false, intE 0]) (.inr ⟨AccV.fz ho hA hh, Fz.same, trivial⟩) (by simp [closed, closedL]; exact closedL_iff.2 fun s hs => by obtain ⟨x, _, rfl⟩ := List.mem_map.1 hs; rfl) ⟨ps, 0, rfl, hps⟩
theorem c304 (p : Part) (k : Int) : PC 284 [p.enc, .iptr [intE k]] (.bool (decide (k < p.level))) := by
  intro h n
  refine go Tryz.func284 rfl (by kernel_rfl) (by kernel_rfl) (by simp [go_sem]) fun ho => ?_
  simp [go_sem, Part.enc, hset_at]
  exact retIs ho (hset_old ho (Nat.le_refl _) look_same) rfl rfl
theorem t271 (s : ByteArray) (hs : s.size ≤ 1048576) (k : Int) : TC 249 [.str s, intE k] anyE := by
  intro h n
  refine goS Tryz.func249 rfl (by kernel_rfl) (by kernel_rfl) (by simp [go_sem]) fun ho => ?_
  have hHb : ∀ j y, h j = some y → j < n := fun j y e => (ho j y e).1
  have out : ∀ (e : Int) (m : Nat), RetS n h m (intE e) (fun v h' n' => anyE v ∧ h' = h ∧ n' = n) := fun e m => retT ho look_same (by simp [closed]) ⟨e, rfl⟩
  refine SP_mid 1 (α := Unit) (fun _ => [(0, .str s), (3, .iptr [intE k])]) (fun _ => h) (fun _ m => n ≤ m) ?_ (fun _ m hm => ?_)
  · simp [go_sem, Fz.same]
    exact ⟨ptr_fz (lt_none hHb (Nat.le_refl _)) (hset_at _ _ _), set_keep hHb look_same⟩
  refine SP_midS 0 (α := Unit) (fun _ => [(0, .str s), (3, .iptr [intE k])]) (fun _ => h) (fun _ m => n ≤ m) (SP_of ?_) (fun _ m hm => ?_)
  · by_cases a1 : k < 1
    · simp [go_sem, a1]; exact out _ _
    by_cases a2 : 9 < k
    · simp [go_sem, a1, a2]; exact out _ _
    simp [go_sem, a1, a2, Fz.same, hm]
  refine SP_of ?_
  simp [go_sem]
  refine TC.use (t302 s hs) ?_
  rintro v ⟨ps, e, rfl, hps⟩
  by_cases c : e = 0
  · have h303 := c303 ps hps 284 [] [.iptr [intE k]] (fun i => match ps[i]? with | some p => decide (k < p.level) | none => false) (fun i hi => by rw [List.getElem?_eq_getElem hi]; exact c304 _ k)
    generalize anyI _ _ = b at h303
    simp [go_sem, c]
    refine PC.use h303 ?_
    cases b <;> simp [go_sem] <;> exact out _ _
  · have c2 : (e == 0) = false := by simpa using c
    simp [go_sem, c2]
    exact out _ _
theorem call87 {E : Env} {ops : Array Oper} {K : SA → Hp → Nat → Prop} {sa : SA} {h : Hp} {n : Nat} {b : Bool} {e : Int} {rest : List Oper} {tr : List Rec} {dst : Option Tmp}
    (hk : ∀ r : Int, kdraw E Tryz.prog ops K rest tr sa { dst := dst, val := intE r } h n) : CallD E Tryz.prog ops K sa h n 83 [.bool b, intE e] rest tr dst :=
  CallD.pure _ _ _ _ _ _ (c87 b e) (hk _)
theorem call217 {E : Env} {ops : Array Oper} {K : SA → Hp → Nat → Prop} {sa : SA} {h : Hp} {n : Nat} {s : ByteArray} (hs : s.size ≤ 1048576) {rest : List Oper} {tr : List Rec} {dst : Option Tmp}
    (hk : ∀ r : Int, kdraw E Tryz.prog ops K rest tr sa { dst := dst, val := intE r } h n) : CallD E Tryz.prog ops K sa h n 196 [.str s] rest tr dst :=
  CallD.pure _ _ _ _ _ _ (c217 s (by omega)) (hk _)
set_option maxHeartbeats 2000000 in
theorem t218 (l : List Var) (hl : l.length ≤ 1048576) (hs : ∀ x ∈ l, x.name.size ≤ 1048576 ∧ x.value.size ≤ 1048576) (i : Nat) (hi : i < l.length) : TC 197 [intE i, .iptr [varsE l]] anyE := by
  intro h n
  refine go Tryz.func197 rfl (by kernel_rfl) (by kernel_rfl) (by simp [go_sem]) fun ho => ?_
  obtain ⟨x, hx⟩ : ∃ x, l[i] = x := ⟨_, rfl⟩
  have hxs := hs x (by rw [← hx]; exact List.getElem_mem hi)
  by_cases h0 : i = 0
  · subst h0
    simp [go_sem, hi, hx, Var.enc]
    repeat first | refine nd (by kernel_rfl) ?_ | refine sd (by kernel_rfl) ?_
    refine CallD.pure _ _ _ _ _ _ (c219 x.name) ?_
    simp [go_sem]
    repeat first | refine nd (by kernel_rfl) ?_ | refine sd (by kernel_rfl) ?_
    refine call87 fun e1 => ?_
    simp [go_sem]
    repeat first | refine nd (by kernel_rfl) ?_ | refine sd (by kernel_rfl) ?_
    refine call87 fun e2 => ?_
    simp [go_sem]
    repeat first | refine nd (by kernel_rfl) ?_ | refine sd (by kernel_rfl) ?_
    refine call87 fun e3 => ?_
    simp [go_sem, hi, hx, Var.enc]
    repeat first | refine nd (by kernel_rfl) ?_ | refine sd (by kernel_rfl) ?_
    refine call217 hxs.2 fun e4 => ?_
    simp [go_sem]
    repeat first | refine nd (by kernel_rfl) ?_ | refine sd (by kernel_rfl) ?_
    refine CallD.lend _ _ _ _ _ _ 2 [n] (c82 [e1, e2, e3, e4] (by simp)) rfl (by simp) (fun h' hh => ?_) ?_
    · have := hh n (by simp)
      simp [hset] at this
      simp [All2, Fz, this, takeN, SV.storable, SV.cells]
    simp [go_sem]
    repeat first | refine nd (by kernel_rfl) ?_ | refine sd (by kernel_rfl) ?_
    exact retT ho (hset_old ho (Nat.le_refl _) look_same) (by simp [closed]) ⟨_, rfl⟩
  · have hip : 0 < i := by omega
    have hmx : (if (1 : Int) > i then (1 : Int) else i) = i := by split <;> omega
    have hmx2 : (if (1 : Int) < i then (i : Int) else 1) = i := by split <;> omega
    have w1 : IntKind.i64.wrap ((i : Int) - 1) = ((i - 1 : Nat) : Int) := by rw [wr64] <;> omega
    have hi1 : i - 1 < l.length := by omega
    obtain ⟨y, hy⟩ : ∃ y, l[i - 1] = y := ⟨_, rfl⟩
    simp [go_sem, hi, hx, Var.enc]
    repeat first | refine nd (by kernel_rfl) ?_ | refine sd (by kernel_rfl) ?_
    refine CallD.pure _ _ _ _ _ _ (c219 x.name) ?_
    simp [go_sem]
    repeat first | refine nd (by kernel_rfl) ?_ | refine sd (by kernel_rfl) ?_
    refine call87 fun e1 => ?_
    simp [go_sem, hi, hx, Var.enc, hip, w1, hi1, hy, hmx]
    repeat first | refine nd (by kernel_rfl) ?_ | refine sd (by kernel_rfl) ?_
    refine call87 fun e2 => ?_
    simp [go_sem, hi, hx, Var.enc, hip, w1, hi1, hy, hmx]
    repeat first | refine nd (by kernel_rfl) ?_ | refine sd (by kernel_rfl) ?_
    refine call87 fun e3 => ?_
    simp [go_sem, hi, hx, Var.enc]
    repeat first | refine nd (by kernel_rfl) ?_ | refine sd (by kernel_rfl) ?_
    refine call217 hxs.2 fun e4 => ?_
    simp [go_sem]
    repeat first | refine nd (by kernel_rfl) ?_ | refine sd (by kernel_rfl) ?_
    refine CallD.lend _ _ _ _ _ _ 2 [n] (c82 [e1, e2, e3, e4] (by simp)) rfl (by simp) (fun h' hh => ?_) ?_
    · have := hh n (by simp)
      simp [hset] at this
      simp [All2, Fz, this, takeN, SV.storable, SV.cells]
    simp [go_sem]
    repeat first | refine nd (by kernel_rfl) ?_ | refine sd (by kernel_rfl) ?_
    exact retT ho (hset_old ho (Nat.le_refl _) look_same) (by simp [closed]) ⟨_, rfl⟩
def trO1 : Tr := .pure 0 (.pure 1 (.pure 2 (.pure 3 (.pure 4 (.pure 5 (.pure 6 (.pure 7 (.pure 8 (.pure 9 (.pure 10 (.pure 11 (.pure 12 (.pure 13 .nil)))))))))))))
def trO2 : Tr := .pure 0 (.pure 1 (.pure 3 (.pure 4 (.pure 5 (.pure 6 (.one 2 (.one 7 (.pure 8 (.pure 9 (.pure 10 (.pure 11 (.pure 12 .nil))))))))))))
def trO3 : Tr := .pure 0 (.pure 1 (.pure 3 (.pure 4 (.one 2 (.one 5 (.pure 6 .nil))))))
set_option maxHeartbeats 2000000 in
theorem t207 (l : List Style) (hl : l.length ≤ 1048576) (hs : ∀ x ∈ l, x.props.length ≤ 1048576) (i : Nat) (hi : i < l.length) : TC 186 [stylesE l, intE i] anyE := by
  intro h n
  refine goS Tryz.func186 rfl (by kernel_rfl) (by kernel_rfl) (by simp [go_sem]) fun ho => ?_
  have hHb : ∀ j y, h j = some y → j < n := fun j y e => (ho j y e).1
  obtain ⟨s, hx⟩ : ∃ s, l[i] = s := ⟨_, rfl⟩
  have hps := hs s (by rw [← hx]; exact List.getElem_mem hi)
  have out : ∀ (e : Int) (m : Nat), RetS n h m (intE e) (fun v h' n' => anyE v ∧ h' = h ∧ n' = n) := fun e m => retT ho look_same (by simp [closed]) ⟨e, rfl⟩
  obtain ⟨X, hX⟩ : ∃ X : SV, X = .iptr [intE s.id, intE s.kind, .str s.name, intE s.base, intE s.next, propsE s.props] := ⟨_, rfl⟩
  refine SP_mid 0 (α := Unit) (fun _ => [(0, stylesE l), (1, intE i)]) (fun _ => h) (fun _ m => n ≤ m) ?_ (fun _ m hm => ?_)
  · simp [go_sem, Fz.same]
  refine SP_mid 1 (α := Unit) (fun _ => [(0, stylesE l), (1, intE i), (5, X)]) (fun _ => h) (fun _ m => n ≤ m) ?_ (fun _ m hm => ?_)
  · have hHm : ∀ j y, h j = some y → j < m := fun j y e => by have := hHb j y e; omega
    rw [hX]
    simp [go_sem, Fz.same, hi, hx, Style.enc, hset_at]
    exact ⟨by omega, ptr_fz (lt_none hHm (Nat.le_refl _)) (hset_at _ _ _), set_keep hHm (set_keep hHm look_same)⟩
  have w1 : 0 < i → IntKind.i64.wrap ((i : Int) - 1) = ((i - 1 : Nat) : Int) := fun g => by rw [wr64] <;> omega
  refine SP_midS 0 (α := Unit) (fun _ => [(0, stylesE l), (1, intE i), (5, X)]) (fun _ => h) (fun _ m => n ≤ m) (SP_block ?_) (fun _ m hm => ?_)
  · refine SP_mid 0 (α := Bx) (fun b => [(0, stylesE l), (1, intE i), (5, X), (14, .bool b.b)]) (fun _ => h) (fun _ m => n ≤ m) ?_ (fun b m hm => ?_)
    · rw [hX]
      by_cases a1 : s.id < 1
      · simp [go_sem, Fz.same, a1, hm]; exact ⟨⟨_⟩, rfl⟩
      · simp [go_sem, Fz.same, a1, hm]; exact ⟨⟨_⟩, rfl⟩
    obtain ⟨b⟩ := b
    dsimp only
    cases b with
    | true => exact SP_of (by simp [go_sem]; exact out _ _)
    | false =>
    refine SWE_cond (b := false) (by simp [go_sem]) ?_
    simp only [Bool.false_eq_true, if_false]
    refine SP_midS 0 (α := Bx) (fun b => [(0, stylesE l), (1, intE i), (5, X), (23, .bool b.b)]) (fun _ => h) (fun _ m => n ≤ m) (SP_tr trO1 rfl (by kernel_rfl) (by kernel_rfl) ?_) (fun b m hm => ?_)
    · rw [hX]
      by_cases a1 : 0 < i
      · have hi1 : i - 1 < l.length := by omega
        simp [go_sem, trO1, Fz.same, a1, w1, hm, hi1, Style.enc]; exact ⟨⟨_⟩, rfl⟩
      · simp [go_sem, trO1, Fz.same, a1, hm]; exact ⟨⟨_⟩, rfl⟩
    obtain ⟨b⟩ := b
    dsimp only
    cases b with
    | true => exact SP_of (by simp [go_sem]; exact out _ _)
    | false =>
    refine SWE_cond (b := false) (by simp [go_sem]) ?_
    simp only [Bool.false_eq_true, if_false]
    refine SP_midS 0 (α := Bx) (fun b => [(0, stylesE l), (1, intE i), (5, X), (37, .bool b.b)]) (fun _ => h) (fun _ m => n ≤ m) (SP_tr trO1 rfl (by kernel_rfl) (by kernel_rfl) ?_) (fun b m hm => ?_)
    · rw [hX]
      by_cases a1 : 0 < i
      · have hi1 : i - 1 < l.length := by omega
        simp [go_sem, trO1, Fz.same, a1, w1, hm, hi1, Style.enc]; exact ⟨⟨_⟩, rfl⟩
      · simp [go_sem, trO1, Fz.same, a1, hm]; exact ⟨⟨_⟩, rfl⟩
    obtain ⟨b⟩ := b
    dsimp only
    cases b with
    | true => exact SP_of (by simp [go_sem]; exact out _ _)
    | false =>
    refine SWE_cond (b := false) (by simp [go_sem]) ?_
    simp only [Bool.false_eq_true, if_false]
    refine SP_mid 0 (α := Bx) (fun b => [(0, stylesE l), (1, intE i), (5, X), (51, .bool b.b)]) (fun _ => h) (fun _ m => n ≤ m) ?_ (fun b m hm => ?_)
    · rw [hX]
      by_cases a1 : s.kind = 1
      · simp [go_sem, Fz.same, a1, hm]; exact ⟨⟨_⟩, rfl⟩
      · have a2 : (s.kind != 1) = true := by simpa using a1
        simp [go_sem, Fz.same, a2, hm]; exact ⟨⟨_⟩, rfl⟩
    obtain ⟨b⟩ := b
    dsimp only
    cases b with
    | true => exact SP_of (by simp [go_sem]; exact out _ _)
    | false =>
    refine SWE_cond (b := false) (by simp [go_sem]) ?_
    simp only [Bool.false_eq_true, if_false]
    refine SP_mid 0 (α := Bx) (fun b => [(0, stylesE l), (1, intE i), (5, X), (60, .bool b.b)]) (fun _ => h) (fun _ m => n ≤ m) ?_ (fun b m hm => ?_)
    · rw [hX]
      simp [go_sem]
      refine (c266 s.name).use ?_
      simp [go_sem, Fz.same, hm]
      exact ⟨⟨_⟩, rfl⟩
    obtain ⟨b⟩ := b
    dsimp only
    cases b with
    | true => exact SP_of (by simp [go_sem]; exact out _ _)
    | false => exact SP_of (by simp [go_sem, Fz.same, hm])
  refine SP_midS 0 (α := Unit) (fun _ => [(0, stylesE l), (1, intE i), (5, X)]) (fun _ => h) (fun _ m => n ≤ m) ?_ (fun _ m hm => ?_)
  · refine SP_midS 0 (α := Bx) (fun b => [(0, stylesE l), (1, intE i), (5, X), (7, .bool b.b)]) (fun _ => h) (fun _ m => n ≤ m) (SP_tr trO2 rfl (by kernel_rfl) (by kernel_rfl) ?_) (fun b m hm => ?_)
    · have hle : i ≤ l.length := by omega
      have hc := c267 (l.take i) s.kind s.name (by simp; omega)
      generalize stFindName (l.take i) s.kind s.name = k at hc
      generalize (if 0 ≤ k then k else 0) = k1 at hc
      generalize decide (0 ≤ k) = k2 at hc
      simp only [stylesE, List.map_take] at hc
      rw [hX]
      simp [go_sem, trO2, hle, -List.map_take]
      refine PC.use hc ?_
      simp [go_sem, Fz.same, hm]
      exact ⟨⟨_⟩, rfl⟩
    obtain ⟨b⟩ := b
    dsimp only
    cases b with
    | true => exact SP_of (by simp [go_sem]; exact out _ _)
    | false => exact SP_of (by simp [go_sem, Fz.same, hm])
  refine SP_midS 0 (α := Unit) (fun _ => [(5, X)]) (fun _ => h) (fun _ m => n ≤ m) ?_ (fun _ m hm => ?_)
  · refine SP_mid 0 (α := Unit) (fun _ => [(5, X), (78, propsE s.props), (79, intE s.props.length), (80, intE 0)]) (fun _ => h) (fun _ m => n ≤ m) ?_ (fun _ m hm => ?_)
    · rw [hX]; simp [go_sem, Fz.same, hm]
    refine SP_block (goloopS 0 (α := Nat) (fun k => [(5, X), (78, propsE s.props), (79, intE s.props.length), (80, intE k)]) (fun _ => h) (fun k m => k ≤ s.props.length ∧ n ≤ m) (fun k => s.props.length - k) 0 ⟨Nat.zero_le _, hm⟩ ?_ look_same ?_)
    · simp [go_sem, look, Fz.same]
    rintro k m ⟨hk, hm⟩
    by_cases hlt : k < s.props.length
    · have w2 : IntKind.i64.wrap ((k : Int) + 1) = ((k + 1 : Nat) : Int) := by rw [wr64] <;> omega
      obtain ⟨p, hp⟩ : ∃ p, s.props[k] = p := ⟨_, rfl⟩
      refine SP_mid 0 (α := Unit) (fun _ => [(5, X), (78, propsE s.props), (79, intE s.props.length), (80, intE k), (81, .bool true)]) (fun _ => h) (fun _ m => n ≤ m) ?_ (fun _ m hm => ?_)
      · simp [go_sem, Fz.same, hm, hlt]
      refine SP_mid 0 (α := Unit) (fun _ => [(5, X), (78, propsE s.props), (79, intE s.props.length), (80, intE k)]) (fun _ => h) (fun _ m => n ≤ m) ?_ (fun _ m hm => ?_)
      · simp [go_sem, Fz.same, hm]
      refine SP_midS 0 (α := Unit) (fun _ => [(5, X), (78, propsE s.props), (79, intE s.props.length), (80, intE k)]) (fun _ => h) (fun _ m => n ≤ m) (SP_block ?_) (fun _ m hm => ?_)
      · refine SP_mid 1 (α := Unit) (fun _ => [(5, X), (78, propsE s.props), (79, intE s.props.length), (80, intE k), (9, .iptr [intE p.key, intE p.value])]) (fun _ => h) (fun _ m => n ≤ m) ?_ (fun _ m hm => ?_)
        · have hHm : ∀ j y, h j = some y → j < m := fun j y e => by have := hHb j y e; omega
          simp [go_sem, Fz.same, hlt, hp, Prp.enc, hset_at]
          exact ⟨by omega, ptr_fz (lt_none hHm (Nat.le_refl _)) (hset_at _ _ _), set_keep hHm (set_keep hHm look_same)⟩
        refine SP_of ?_
        by_cases a1 : p.key = 20
        · simp [go_sem, a1]; exact out _ _
        by_cases a2 : p.key = 1
        · simp [go_sem, a2]; exact out _ _
        have a3 : (p.key == 20) = false := by simpa using a1
        have a4 : (p.key == 1) = false := by simpa using a2
        simp [go_sem, a3, a4, Fz.same, hm]
      · refine SP_of ?_
        simp [go_sem, w2, Fz.same, -Int.natCast_add]
        exact ⟨k + 1, by omega, ⟨by omega, hm⟩, rfl⟩
    · refine SP_of ?_
      simp [go_sem, hlt, Fz.same, hm]
  refine SP_midS 0 (α := Int) (fun e => [(4, intE e)]) (fun _ => h) (fun _ m => n ≤ m) (SP_tr trO3 rfl (by kernel_rfl) (by kernel_rfl) ?_) (fun e m hm => ?_)
  · rw [hX]
    simp [go_sem, trO3]
    refine (c268 s.kind).use ?_
    generalize (if s.kind = 1 then (2 : Int) else 1) = el
    simp [go_sem]
    refine (c156 el s.props hps).use ?_
    simp [go_sem, hm]
    exact ⟨_, rfl⟩
  · refine SP_of ?_
    simp [go_sem]
    exact out _ _
def ChQ (l : List Style) (id : Int) (h : Hp) (n : Nat) : SV → Hp → Nat → Prop := fun v h' n' => ∃ k, v = .fn (.func 248) [] [.iptr [stylesE l], .ptr k 0] ∧ n ≤ k ∧ k < n' ∧ h' k = some (.cells [intE id]) ∧ ∀ o y, h o = some y → h' o = some y
theorem d209 (l : List Style) (id : Int) {h : Hp} {n : Nat} : SCall Tryz.prog 188 [stylesE l, intE id] h n (ChQ l id h n) := by
  refine goS Tryz.func188 rfl (by kernel_rfl) (by kernel_rfl) (by simp [go_sem]) fun ho => ?_
  have hHb : ∀ j y, h j = some y → j < n := fun j y e => (ho j y e).1
  refine SP_mid 1 (α := Unit) (fun _ => [(2, .iptr [stylesE l]), (3, .ptr (n + 1) 0)]) (fun _ => hset h (n + 1) (some (.cells [intE id]))) (fun _ m => n + 1 < m) ?_ (fun _ m hm => ?_)
  · simp [go_sem, Fz.same]
    refine ⟨ptr_fz (by simp [hset]; exact lt_none hHb (Nat.le_refl _)) (by simp [hset]), fun j y => ?_⟩
    have := hHb j y; simp only [hset]; grind
  refine SP_of ?_
  simp [go_sem]
  exact .inl ⟨n + 1, rfl, by omega, hm, hset_at _ _ _, set_keep (fun j z e => by have := hHb j z e; omega) look_same⟩
structure YS (E : Env) (yl : Nat) (N : Nat) (J : Nat → Hp → Nat → Prop) (Jx : Hp → Nat → Prop) (D : Nat → Prop) : Prop where
  step : ∀ c (x : Style) h m, J c h m → YCallE E Tryz.prog yl [x.enc] h m (fun v h' m' => m ≤ m' ∧ (∀ o, ¬ D o → o < m → h' o = h o) ∧ ((v = .bool true ∧ c + 1 ≤ N ∧ J (c + 1) h' m') ∨ (v = .bool false ∧ Jx h' m')))
  keep : ∀ c h m h' m', J c h m → m ≤ m' → (∀ o, D o → h' o = h o) → J c h' m'
  lt : ∀ c h m, J c h m → ∀ o, D o → o < m
theorem findS_intB {P : Int → Prop} (x : Int) : ∀ (l : List (Int × Int)) (i : Nat), (∀ p ∈ l, P p.2) → findS (intE x) (kvI l) i = some none ∨ ∃ j k, findS (intE x) (kvI l) i = some (some (j, intE k)) ∧ P k
  | [], i, _ => .inl rfl
  | a :: l, i, hP => by
    by_cases e : x = a.1
    · exact .inr ⟨i, a.2, by simp [kvI, findS, keyEq, e], hP a (by simp)⟩
    · have : (x == a.1) = false := by simpa using e
      rcases findS_intB x l (i + 1) (fun p hp => hP p (by simp [hp])) with h | ⟨j, k, h, hk⟩
      · left; simp only [kvI, List.map_cons, findS, keyEq, if_true, this]; exact h
      · right; refine ⟨j, k, ?_, hk⟩; simp only [kvI, List.map_cons, findS, keyEq, if_true, this]; exact h
theorem setAt_kvB {P : Int → Prop} (l : List (Int × Int)) (j : Nat) (x v : Int) (hl : ∀ p ∈ l, P p.2) (hv : P v) : ∃ l', setAt (kvI l) j (intE x) (intE v) = kvI l' ∧ ∀ p ∈ l', P p.2 := by
  refine ⟨l.modify j fun _ => (x, v), ?_, fun p hp => ?_⟩
  · unfold setAt kvI
    apply List.ext_getElem?; intro i; simp only [List.getElem?_modify, List.getElem?_map]; by_cases e : j = i <;> cases l[i]? <;> simp [e]
  · obtain ⟨i, hi⟩ := List.getElem?_of_mem hp
    rw [List.getElem?_modify] at hi
    cases hli : l[i]? with
    | none => simp [hli] at hi
    | some q =>
      by_cases e : j = i
      · simp [hli, e] at hi; rw [← hi]; exact hv
      · simp [hli, e] at hi; rw [← hi]; exact hl q (List.mem_of_getElem? hli)
section
variable {E : Env} {yl N : Nat} {J : Nat → Hp → Nat → Prop} {Jx : Hp → Nat → Prop} {D : Nat → Prop}
def InB (l : List Style) (a : List (Int × Int)) : Prop := ∀ p ∈ a, 0 ≤ p.2 ∧ p.2 < l.length
set_option maxHeartbeats 2000000 in
theorem d270 (Y : YS E yl N J Jx D) (l : List Style) (hl : l.length ≤ 1048576) {H : Hp} {n k : Nat} {id : Int} (hk : H k = some (.cells [intE id])) (hkD : ¬ D k) (hJ : J 0 H n) :
    SCallE E Tryz.prog 248 [.fn (.yield yl) [] [], .iptr [stylesE l], .ptr k 0] H n (fun _ h' m' => n ≤ m' ∧ (∀ o, ¬ D o → o ≠ k → o < n → h' o = H o) ∧ ((∃ c, J c h' m') ∨ Jx h' m')) := by
  refine goS Tryz.func248 rfl (by kernel_rfl) (by kernel_rfl) (by simp [go_sem]) fun ho => ?_
  have hHb : ∀ j y, H j = some y → j < n := fun j y e => (ho j y e).1
  have hkn : k < n := hHb k _ hk
  have hDn := Y.lt _ _ _ hJ
  have nk : k ≠ n := by omega
  refine SP_mid 0 (α := Unit) (fun _ => [(0, .fn (.yield yl) [] []), (1, .iptr [stylesE l]), (2, .ptr k 0), (4, .map n)]) (fun _ => hset H n (some (.map (kvI [])))) (fun _ m => n < m) ?_ (fun _ m hm => ?_)
  · simp [go_sem, Fz.same, kvI]
  refine SP_midS 0 (α := List (Int × Int)) (fun _ => [(0, .fn (.yield yl) [] []), (1, .iptr [stylesE l]), (2, .ptr k 0), (4, .map n)]) (fun a => hset H n (some (.map (kvI a)))) (fun a m => n < m ∧ InB l a) ?_ (fun a m hm => ?_)
  · refine SP_mid 0 (α := Unit) (fun _ => [(0, .fn (.yield yl) [] []), (1, .iptr [stylesE l]), (2, .ptr k 0), (4, .map n), (10, stylesE l), (11, intE l.length), (12, intE 0)]) (fun _ => hset H n (some (.map (kvI [])))) (fun _ m => n < m) ?_ (fun _ m hm => ?_)
    · simp [go_sem, Fz.same, hm]
    refine SP_block (goloopS 0 (α := Nat × List (Int × Int)) (fun q => [(0, .fn (.yield yl) [] []), (1, .iptr [stylesE l]), (2, .ptr k 0), (4, .map n), (10, stylesE l), (11, intE l.length), (12, intE q.1)]) (fun q => hset H n (some (.map (kvI q.2)))) (fun q m => q.1 ≤ l.length ∧ n < m ∧ InB l q.2) (fun q => l.length - q.1) (0, []) ⟨Nat.zero_le _, hm, by simp [InB]⟩ ?_ look_same ?_)
    · simp [go_sem, look, Fz.same]
    rintro ⟨i, a⟩ m ⟨hi, hm, ha⟩
    dsimp only at hi ha ⊢
    by_cases hlt : i < l.length
    · have w1 : IntKind.i64.wrap ((i : Int) + 1) = ((i + 1 : Nat) : Int) := by rw [wr64] <;> omega
      obtain ⟨x, hx⟩ : ∃ x, l[i] = x := ⟨_, rfl⟩
      refine SP_mid 0 (α := Unit) (fun _ => [(0, .fn (.yield yl) [] []), (1, .iptr [stylesE l]), (2, .ptr k 0), (4, .map n), (10, stylesE l), (11, intE l.length), (12, intE i), (13, .bool true)]) (fun _ => hset H n (some (.map (kvI a)))) (fun _ m => n < m) ?_ (fun _ m hm => ?_)
      · simp [go_sem, Fz.same, hm, hlt]
      refine SP_mid 0 (α := Unit) (fun _ => [(0, .fn (.yield yl) [] []), (1, .iptr [stylesE l]), (2, .ptr k 0), (4, .map n), (10, stylesE l), (11, intE l.length), (12, intE i)]) (fun _ => hset H n (some (.map (kvI a)))) (fun _ m => n < m) ?_ (fun _ m hm => ?_)
      · simp [go_sem, Fz.same, hm]
      refine SP_midS 0 (α := List (Int × Int)) (fun _ => [(0, .fn (.yield yl) [] []), (1, .iptr [stylesE l]), (2, .ptr k 0), (4, .map n), (10, stylesE l), (11, intE l.length), (12, intE i)]) (fun a => hset H n (some (.map (kvI a)))) (fun a m => n < m ∧ InB l a) (SP_block ?_) (fun a m hm => ?_)
      · refine SP_mid 1 (α := Unit) (fun _ => [(0, .fn (.yield yl) [] []), (1, .iptr [stylesE l]), (2, .ptr k 0), (4, .map n), (10, stylesE l), (11, intE l.length), (12, intE i), (5, intE i), (6, .iptr [intE x.id, intE x.kind, .str x.name, intE x.base, intE x.next, propsE x.props])]) (fun _ => hset H n (some (.map (kvI a)))) (fun _ m => n < m) ?_ (fun _ m hm => ?_)
        · have hHm : ∀ j y, hset H n (some (.map (kvI a))) j = some y → j < m := fun j y e => by
            simp only [hset] at e; split at e
            · omega
            · have := hHb j y e; omega
          simp [go_sem, Fz.same, hlt, hx, Style.enc, hset_at]
          exact ⟨by omega, ptr_fz (lt_none hHm (Nat.le_refl _)) (hset_at _ _ _), set_keep hHm (set_keep hHm look_same)⟩
        refine SP_of ?_
        have hB : ∀ v : Int, v = (i : Int) → 0 ≤ v ∧ v < l.length := fun v hv => by omega
        rcases findS_intB (P := fun v => 0 ≤ v ∧ v < l.length) x.id a 0 ha with hf | ⟨j, v, hf, _⟩
        · have hpush : kvI a ++ [(intE x.id, intE (i : Int))] = kvI (a ++ [(x.id, (i : Int))]) := by simp [kvI]
          simp [go_sem, hset_at, hf, keyOk, hpush, Fz.same, hset_two]
          refine ⟨a ++ [(x.id, (i : Int))], ⟨hm, fun p hp => ?_⟩, look_same⟩
          rcases List.mem_append.1 hp with hp | hp
          · exact ha p hp
          · rw [List.mem_singleton.1 hp]; exact hB _ rfl
        · obtain ⟨a', h1, h2⟩ := setAt_kvB (P := fun v => 0 ≤ v ∧ v < l.length) a j x.id i ha (hB _ rfl)
          have h1' : (kvI a).modify j (fun _ => (intE x.id, intE i)) = kvI a' := h1
          simp [go_sem, hset_at, hf, keyOk, h1', Fz.same, hset_two]
          exact ⟨a', ⟨hm, h2⟩, look_same⟩
      · obtain ⟨hm, ha⟩ := hm
        refine SP_of ?_
        simp [go_sem, w1, Fz.same, -Int.natCast_add]
        exact ⟨i + 1, by omega, a, ⟨by omega, hm, ha⟩, rfl, look_same⟩
    · refine SP_of ?_
      simp [go_sem, hlt, Fz.same, hm]
      exact ⟨a, ha, look_same⟩
  obtain ⟨hm, ha⟩ := hm
  have hnD : ¬ D n := fun g => by have := hDn n g; omega
  refine SP_of ?_
  simp [go_sem]
  refine goloop 0 (α := Nat × Int × Hp) (fun _ => [(0, .fn (.yield yl) [] []), (1, .iptr [stylesE l]), (2, .ptr k 0), (4, .map n)]) (fun q => q.2.2) (fun q m => n < m ∧ J q.1 q.2.2 m ∧ q.2.2 k = some (.cells [intE q.2.1]) ∧ q.2.2 n = some (.map (kvI a)) ∧ ∀ o, ¬ D o → o ≠ k → o < n → q.2.2 o = H o) (fun q => N - q.1)
    (0, id, hset H n (some (.map (kvI a)))) ⟨hm, Y.keep _ _ _ _ _ hJ (by omega) fun o g => hset_ne _ _ (by have := hDn o g; omega), (hset_ne _ _ nk).trans hk, hset_at _ _ _, fun o _ _ g => hset_ne _ _ (by omega)⟩ ?_ look_same ?_
  · simp [look, Fz.same]
  rintro ⟨c, id, G⟩ m ⟨hm, hJ, hGk, hGn, hold⟩
  dsimp only at hJ hGk hGn hold ⊢
  by_cases h0 : id = 0
  · simp [go_sem, hGk, h0]
    exact .inl ⟨by omega, hold, .inl ⟨c, hJ⟩⟩
  have h0' : (id != 0) = true := by simpa using h0
  rcases findS_intB (P := fun v => 0 ≤ v ∧ v < l.length) id a 0 ha with hf | ⟨j, v, hf, hv1, hv2⟩
  · simp [go_sem, hGk, hGn, h0', hf, keyOk]
    exact .inl ⟨by omega, hold, .inl ⟨c, hJ⟩⟩
  · have hvl : v.toNat < l.length := by omega
    obtain ⟨x, hx⟩ : ∃ x, l[v.toNat]'hvl = x := ⟨_, rfl⟩
    simp [go_sem, hGk, hGn, h0', hf, keyOk, hv1, hvl, hx, Style.enc]
    have hy := Y.step c x G m hJ
    simp only [Style.enc] at hy
    refine YCallE.mono hy ?_
    rintro w G3 m3 ⟨hm3, hfr, ⟨rfl, hcN, hj⟩ | ⟨rfl, hj⟩⟩
    · have g3k : G3 k = some (.cells [intE id]) := by rw [hfr k hkD (by omega)]; exact hGk
      have g3n : G3 n = some (.map (kvI a)) := by rw [hfr n hnD (by omega)]; exact hGn
      simp [go_sem, hv1, hvl, hx, Style.enc, g3k]
      refine ⟨c + 1, by omega, x.base, hset G3 k (some (.cells [intE x.base])), ⟨by omega, Y.keep _ _ _ _ _ hj (Nat.le_refl _) fun o g => hset_ne _ _ (by rintro rfl; exact hkD g), hset_at _ _ _, by rw [hset_ne _ _ (Ne.symm nk)]; exact g3n, fun o g1 g2 g3 => ?_⟩, look_same⟩
      rw [hset_ne _ _ g2, hfr o g1 (by omega)]; exact hold o g1 g2 g3
    · simp [go_sem]
      exact .inl ⟨by omega, fun o g1 g2 g3 => by rw [hfr o g1 (by omega)]; exact hold o g1 g2 g3, .inr hj⟩
end
theorem goMS {E : Env} {f : FuncId} {fn : Func} {code : Code} {args : List SV} {h : Hp} {n : Nat} {K : SV → Hp → Nat → Prop} (hf : Tryz.prog.funcs[f]? = some fn) (hb : fn.body = some code)
    (hn : (fn.name != "runtime.NumGoroutine") = true) (hd : Code.dok fn.ntmps code = true) (hl : args.length ≤ fn.ntmps)
    (H : Old h n → ∀ B, SP (E.call true B) fn.ntmps code (retQ Tryz.prog fn n K) (initSA 0 args) h n) : SCallE E Tryz.prog f args h n K :=
  SCallE_ofM hf hb hn hd hl fun _ ho B => H ho B
set_option maxHeartbeats 4000000 in
theorem t146 (l : List Style) (hl : l.length ≤ 1048576) (hs : ∀ x ∈ l, x.props.length ≤ 1048576) : TC 139 [stylesE l] anyE := by
  intro h n
  refine goMS Tryz.func139 rfl (by kernel_rfl) (by kernel_rfl) (by simp [go_sem]) fun ho B => ?_
  have hHb : ∀ j y, h j = some y → j < n := fun j y e => (ho j y e).1
  obtain ⟨G, hG⟩ : ∃ G : Int → Hp, ∀ e, G e = hset h (n + 1) (some (.cells [intE e])) := ⟨_, fun _ => rfl⟩
  have hGa : ∀ e, G e (n + 1) = some (.cells [intE e]) := fun e => by rw [hG, hset_at]
  have hGs : ∀ e e', hset (G e) (n + 1) (some (.cells [intE e'])) = G e' := fun e e' => by rw [hG, hG, hset_two]
  have hGk : ∀ e j y, h j = some y → G e j = some y := fun e j y g => by rw [hG, hset_ne _ _ (by have := hHb j y g; omega)]; exact g
  have hGb : ∀ e j y, G e j = some y → j < n + 2 := fun e j y g => by
    rw [hG] at g; simp only [hset] at g; split at g
    · omega
    · have := hHb j y g; omega
  have out : ∀ (e : Int) (m : Nat), RetS n (G e) m (intE e) (fun v h' n' => anyE v ∧ h' = h ∧ n' = n) := fun e m => retT ho (hGk e) (by simp [closed]) ⟨e, rfl⟩
  refine SP_mid 1 (α := Unit) (fun _ => [(1, .iptr [stylesE l]), (2, .ptr (n + 1) 0)]) (fun _ => G 0) (fun _ m => n + 1 < m) ?_ (fun _ m hm => ?_)
  · rw [hG]
    simp [go_sem, Fz.same]
    refine ⟨ptr_fz (by simp [hset]; exact lt_none hHb (Nat.le_refl _)) (by simp [hset]), fun j y => ?_⟩
    have := hHb j y; simp only [hset]; grind
  refine SP_midS 0 (α := Unit) (fun _ => [(1, .iptr [stylesE l]), (2, .ptr (n + 1) 0)]) (fun _ => G 0) (fun _ m => n + 1 < m) (SP_of ?_) (fun _ m hm => ?_)
  · by_cases a1 : (128 : Int) < l.length
    · simp [go_sem, a1, hGa, hGs]; exact out _ _
    · simp [go_sem, a1, Fz.same, hm]
  refine SP_midS 0 (α := Unit) (fun _ => [(1, .iptr [stylesE l]), (2, .ptr (n + 1) 0)]) (fun _ => G 0) (fun _ m => n + 1 < m) ?_ (fun _ m hm => ?_)
  · refine SP_mid 0 (α := Unit) (fun _ => [(1, .iptr [stylesE l]), (2, .ptr (n + 1) 0), (14, intE l.length), (15, intE 0)]) (fun _ => G 0) (fun _ m => n + 1 < m) ?_ (fun _ m hm => ?_)
    · simp [go_sem, Fz.same, hm]
    refine SP_block (goloopS 0 (α := Nat) (fun i => [(1, .iptr [stylesE l]), (2, .ptr (n + 1) 0), (14, intE l.length), (15, intE i)]) (fun _ => G 0) (fun i m => i ≤ l.length ∧ n + 1 < m) (fun i => l.length - i) 0 ⟨Nat.zero_le _, hm⟩ ?_ look_same ?_)
    · simp [go_sem, look, Fz.same]
    rintro i m ⟨hi, hm⟩
    by_cases hlt : i < l.length
    · have w1 : IntKind.i64.wrap ((i : Int) + 1) = ((i + 1 : Nat) : Int) := by rw [wr64] <;> omega
      refine SP_of ?_
      simp [go_sem, hlt]
      refine TC.use (t207 l hl hs i hlt) ?_
      rintro v ⟨e, rfl⟩
      by_cases e0 : e = 0
      · simp [go_sem, e0, w1, Fz.same, -Int.natCast_add]
        exact ⟨i + 1, by omega, ⟨by omega, hm⟩, rfl⟩
      · have e1 : (e != 0) = true := by simpa using e0
        simp [go_sem, e1, hGa, hGs]
        exact out _ _
    · refine SP_of ?_
      simp [go_sem, hlt, Fz.same, hm]
  refine SP_midS 0 (α := Unit) (fun _ => [(1, .iptr [stylesE l]), (2, .ptr (n + 1) 0)]) (fun _ => G 0) (fun _ m => n + 1 < m) ?_ (fun _ m hm => ?_)
  · refine SP_mid 0 (α := Unit) (fun _ => [(1, .iptr [stylesE l]), (2, .ptr (n + 1) 0), (25, stylesE l), (26, intE l.length), (27, intE 0)]) (fun _ => G 0) (fun _ m => n + 1 < m) ?_ (fun _ m hm => ?_)
    · simp [go_sem, Fz.same, hm]
    refine SP_block (goloopS 0 (α := Nat) (fun i => [(1, .iptr [stylesE l]), (2, .ptr (n + 1) 0), (25, stylesE l), (26, intE l.length), (27, intE i)]) (fun _ => G 0) (fun i m => i ≤ l.length ∧ n + 1 < m) (fun i => l.length - i) 0 ⟨Nat.zero_le _, hm⟩ ?_ look_same ?_)
    · simp [go_sem, look, Fz.same]
    rintro i m ⟨hi, hm⟩
    by_cases hlt : i < l.length
    · have w1 : IntKind.i64.wrap ((i : Int) + 1) = ((i + 1 : Nat) : Int) := by rw [wr64] <;> omega
      obtain ⟨x, hx⟩ : ∃ x, l[i] = x := ⟨_, rfl⟩
      obtain ⟨X, hX⟩ : ∃ X : SV, X = .iptr [intE x.id, intE x.kind, .str x.name, intE x.base, intE x.next, propsE x.props] := ⟨_, rfl⟩
      refine SP_mid 0 (α := Unit) (fun _ => [(1, .iptr [stylesE l]), (2, .ptr (n + 1) 0), (25, stylesE l), (26, intE l.length), (27, intE i), (28, .bool true)]) (fun _ => G 0) (fun _ m => n + 1 < m) ?_ (fun _ m hm => ?_)
      · simp [go_sem, Fz.same, hm, hlt]
      refine SP_mid 0 (α := Unit) (fun _ => [(1, .iptr [stylesE l]), (2, .ptr (n + 1) 0), (25, stylesE l), (26, intE l.length), (27, intE i)]) (fun _ => G 0) (fun _ m => n + 1 < m) ?_ (fun _ m hm => ?_)
      · simp [go_sem, Fz.same, hm]
      refine SP_midS 0 (α := Unit) (fun _ => [(1, .iptr [stylesE l]), (2, .ptr (n + 1) 0), (25, stylesE l), (26, intE l.length), (27, intE i)]) (fun _ => G 0) (fun _ m => n + 1 < m) (SP_block ?_) (fun _ m hm => ?_)
      · refine SP_mid 1 (α := Unit) (fun _ => [(1, .iptr [stylesE l]), (2, .ptr (n + 1) 0), (25, stylesE l), (26, intE l.length), (27, intE i), (6, X)]) (fun _ => G 0) (fun _ m => n + 1 < m) ?_ (fun _ m hm => ?_)
        · have hHm : ∀ j y, G 0 j = some y → j < m := fun j y e => by have := hGb 0 j y e; omega
          rw [hX]
          simp [go_sem, Fz.same, hlt, hx, Style.enc, hset_at]
          exact ⟨by omega, ptr_fz (lt_none hHm (Nat.le_refl _)) (hset_at _ _ _), set_keep hHm (set_keep hHm look_same)⟩
        refine SP_mid 0 (α := Bx) (fun b => [(1, .iptr [stylesE l]), (2, .ptr (n + 1) 0), (25, stylesE l), (26, intE l.length), (27, intE i), (59, .bool b.b)]) (fun _ => G 0) (fun _ m => n + 1 < m) ?_ (fun b m hm => ?_)
        · rw [hX]
          have e208 : ∀ (kd id : Int) {m : Nat} {K : SV → Hp → Nat → Prop}, (∀ b, K (.bool b) (G 0) m) → SCallE (Env.plain.call true B) Tryz.prog 187 [stylesE l, intE kd, intE id] (G 0) m K := fun kd id m K hK => PC.use (c208 l kd id hl) (hK _)
          have second : x.next = 0 ∨ (x.next ≠ 0 ∧ x.kind = 2) ∨ (x.next ≠ 0 ∧ x.kind ≠ 2) := by
            by_cases c1 : x.next = 0
            · exact .inl c1
            · by_cases c2 : x.kind = 2
              · exact .inr (.inl ⟨c1, c2⟩)
              · exact .inr (.inr ⟨c1, c2⟩)
          by_cases b0 : x.base = 0
          · rcases second with c1 | ⟨c1, c2⟩ | ⟨c1, c2⟩
            · simp [go_sem, b0, c1, Fz.same, hm]; exact ⟨⟨_⟩, rfl⟩
            · have c1' : (x.next != 0) = true := by simpa using c1
              simp [go_sem, b0, c1', c2, Fz.same, hm]; exact ⟨⟨_⟩, rfl⟩
            · have c1' : (x.next != 0) = true := by simpa using c1
              have c2' : (x.kind == 2) = false := by simpa using c2
              simp [go_sem, b0, c1', c2']
              refine e208 _ _ fun b => ?_
              cases b <;> simp [go_sem, Fz.same, hm] <;> exact ⟨⟨_⟩, rfl⟩
          · have b0' : (x.base != 0) = true := by simpa using b0
            simp [go_sem, b0']
            refine e208 _ _ fun b => ?_
            cases b with
            | false => simp [go_sem, Fz.same, hm]; exact ⟨⟨_⟩, rfl⟩
            | true =>
              rcases second with c1 | ⟨c1, c2⟩ | ⟨c1, c2⟩
              · simp [go_sem, c1, Fz.same, hm]; exact ⟨⟨_⟩, rfl⟩
              · have c1' : (x.next != 0) = true := by simpa using c1
                simp [go_sem, c1', c2, Fz.same, hm]; exact ⟨⟨_⟩, rfl⟩
              · have c1' : (x.next != 0) = true := by simpa using c1
                have c2' : (x.kind == 2) = false := by simpa using c2
                simp [go_sem, c1', c2']
                refine e208 _ _ fun b => ?_
                cases b <;> simp [go_sem, Fz.same, hm] <;> exact ⟨⟨_⟩, rfl⟩
        obtain ⟨b⟩ := b
        dsimp only
        refine SP_of ?_
        cases b with
        | true => simp [go_sem, hGa, hGs]; exact out _ _
        | false => simp [go_sem, Fz.same, hm]
      · refine SP_of ?_
        simp [go_sem, w1, Fz.same, -Int.natCast_add]
        exact ⟨i + 1, by omega, ⟨by omega, hm⟩, rfl⟩
    · refine SP_of ?_
      simp [go_sem, hlt, Fz.same, hm]
  refine SP_midS 0 (α := Unit) (fun _ => [(2, .ptr (n + 1) 0)]) (fun _ => G 0) (fun _ m => n + 1 < m) ?_ (fun _ m hm => ?_)
  · refine SP_mid 0 (α := Unit) (fun _ => [(1, .iptr [stylesE l]), (2, .ptr (n + 1) 0), (61, stylesE l), (62, intE l.length), (63, intE 0)]) (fun _ => G 0) (fun _ m => n + 1 < m) ?_ (fun _ m hm => ?_)
    · simp [go_sem, Fz.same, hm]
    refine SP_block (goloopS 0 (α := Nat) (fun i => [(1, .iptr [stylesE l]), (2, .ptr (n + 1) 0), (61, stylesE l), (62, intE l.length), (63, intE i)]) (fun _ => G 0) (fun i m => i ≤ l.length ∧ n + 1 < m) (fun i => l.length - i) 0 ⟨Nat.zero_le _, hm⟩ ?_ look_same ?_)
    · simp [go_sem, look, Fz.same]
    rintro i m ⟨hi, hm⟩
    by_cases hlt : i < l.length
    · have w1 : IntKind.i64.wrap ((i : Int) + 1) = ((i + 1 : Nat) : Int) := by rw [wr64] <;> omega
      obtain ⟨x, hx⟩ : ∃ x, l[i] = x := ⟨_, rfl⟩
      refine SP_mid 0 (α := Unit) (fun _ => [(1, .iptr [stylesE l]), (2, .ptr (n + 1) 0), (61, stylesE l), (62, intE l.length), (63, intE i), (64, .bool true)]) (fun _ => G 0) (fun _ m => n + 1 < m) ?_ (fun _ m hm => ?_)
      · simp [go_sem, Fz.same, hm, hlt]
      refine SP_mid 0 (α := Unit) (fun _ => [(1, .iptr [stylesE l]), (2, .ptr (n + 1) 0), (61, stylesE l), (62, intE l.length), (63, intE i)]) (fun _ => G 0) (fun _ m => n + 1 < m) ?_ (fun _ m hm => ?_)
      · simp [go_sem, Fz.same, hm]
      refine SP_midS 0 (α := Unit) (fun _ => [(1, .iptr [stylesE l]), (2, .ptr (n + 1) 0), (61, stylesE l), (62, intE l.length), (63, intE i)]) (fun _ => G 0) (fun _ m => n + 1 < m) (SP_block ?_) (fun _ m hm => ?_)
      · refine SP_mid 1 (α := Unit) (fun _ => [(1, .iptr [stylesE l]), (2, .ptr (n + 1) 0), (61, stylesE l), (62, intE l.length), (63, intE i), (8, .iptr [intE x.id, intE x.kind, .str x.name, intE x.base, intE x.next, propsE x.props])]) (fun _ => G 0) (fun _ m => n + 1 < m) ?_ (fun _ m hm => ?_)
        · have hHm : ∀ j y, G 0 j = some y → j < m := fun j y e => by have := hGb 0 j y e; omega
          simp [go_sem, Fz.same, hlt, hx, Style.enc, hset_at]
          exact ⟨by omega, ptr_fz (lt_none hHm (Nat.le_refl _)) (hset_at _ _ _), set_keep hHm (set_keep hHm look_same)⟩
        refine SP_mid 0 (α := Unit) (fun _ => [(1, .iptr [stylesE l]), (2, .ptr (n + 1) 0), (61, stylesE l), (62, intE l.length), (63, intE i), (8, .iptr [intE x.id, intE x.kind, .str x.name, intE x.base, intE x.next, propsE x.props]), (9, .ptr m 0)]) (fun _ => hset (G 0) m (some (.cells [intE 0]))) (fun _ m2 => m < m2) ?_ (fun _ m2 hm2 => ?_)
        · simp [go_sem, Fz.same, hset_at, hset_two]
        refine SP_mid 0 (α := Hp × Nat) (fun z => [(1, .iptr [stylesE l]), (2, .ptr (n + 1) 0), (61, stylesE l), (62, intE l.length), (63, intE i), (9, .ptr m 0), (70, .fn (.func 248) [] [.iptr [stylesE l], .ptr z.2 0])]) (fun z => z.1) (fun z m3 => m2 ≤ z.2 ∧ z.2 < m3 ∧ z.1 z.2 = some (.cells [intE x.id]) ∧ ∀ o y, hset (G 0) m (some (.cells [intE 0])) o = some y → z.1 o = some y) ?_ (fun z m3 hm3 => ?_)
        · simp [go_sem]
          refine SC.use (d209 l x.id) ?_
          rintro v H' n' ⟨k, rfl, g1, g2, g3, g4⟩
          simp [go_sem, Fz.same]
          exact ⟨H', k, ⟨g1, g2, g3, g4⟩, rfl, look_same⟩
        obtain ⟨z, k⟩ := z
        obtain ⟨k1, k2, k3, k4⟩ := hm3
        dsimp only at k1 k2 k3 k4 ⊢
        refine SP_block ?_
        refine SWE_rangeFunc rfl rfl rfl fun E1 yl R hY => ?_
        have za : z (n + 1) = some (.cells [intE 0]) := k4 _ _ (by rw [hset_ne _ _ (by omega)]; exact hGa 0)
        have zm : z m = some (.cells [intE 0]) := k4 _ _ (hset_at _ _ _)
        let D : Nat → Prop := fun o => o = n + 1 ∨ o = m ∨ o = m3
        let J : Nat → Hp → Nat → Prop := fun c hh mm => m3 < mm ∧ c ≤ l.length ∧ hh (n + 1) = some (.cells [intE 0]) ∧ hh m = some (.cells [intE c]) ∧ hh m3 = some (.loop (R .ready none))
        let Jx : Hp → Nat → Prop := fun hh mm => m3 < mm ∧ hh (n + 1) = some (.cells [intE 16]) ∧ hh m3 = some (.loop (R .done (some .ret)))
        have Y : YS E1 yl l.length J Jx D := by
          refine ⟨fun c y hh mm hJ => ?_, ?_, ?_⟩
          · obtain ⟨g0, gc, g1, g2, g3⟩ := hJ
            have q1 : n + 1 ≠ mm := by omega
            have q2 : m ≠ mm := by omega
            have q3 : m3 ≠ mm := by omega
            have q3' := q3.symm
            have q4 : m ≠ m3 := by omega
            have q5 : n + 1 ≠ m3 := by omega
            have q6 : n + 1 ≠ m := by omega
            have w2 : IntKind.i64.wrap ((c : Int) + 1) = ((c + 1 : Nat) : Int) := by rw [wr64] <;> omega
            refine hY _ _ _ _ g3 rfl (roundW_of ?_)
            by_cases hc : c + 1 ≤ l.length
            · have hc' : ¬ (((l.length : Nat) : Int) < ((c + 1 : Nat) : Int)) := by omega
              simp [go_sem, zipSA, Style.enc, hset_at, hset_ne, g2, g3, q4, w2, hc', roundQ, -Int.natCast_add]
              refine ⟨by rw [hset_ne _ _ q4.symm, hset_at], fun o g1 g2 => ?_, hc, ?_⟩
              · have e1 : o ≠ m := fun e => g1 (.inr (.inl e))
                have e2 : o ≠ m3 := fun e => g1 (.inr (.inr e))
                have e3 : o ≠ mm := by omega
                simp [hset, e1, e2]
              · exact ⟨by omega, hc, by simp [hset, q5, q6, g1], by simp [hset, q4], by simp [hset]⟩
            · have hc' : (((l.length : Nat) : Int) < ((c + 1 : Nat) : Int)) := by omega
              simp [go_sem, zipSA, Style.enc, hset_at, hset_ne, g1, g2, g3, q4, q5, q6, w2, hc', roundQ, -Int.natCast_add]
              refine ⟨by rw [hset_ne _ _ q5.symm, hset_ne _ _ q4.symm, hset_at], fun o g1 g2 => ?_, ?_⟩
              · have e0 : o ≠ n + 1 := fun e => g1 (.inl e)
                have e1 : o ≠ m := fun e => g1 (.inr (.inl e))
                have e2 : o ≠ m3 := fun e => g1 (.inr (.inr e))
                have e3 : o ≠ mm := by omega
                simp [hset, e0, e1, e2]
              · exact ⟨by omega, by simp [hset, q5], by simp [hset]⟩
          · rintro c hh mm h' m' ⟨g0, gc, g1, g2, g3⟩ hmm hD
            exact ⟨by omega, gc, by rw [hD _ (.inl rfl)]; exact g1, by rw [hD _ (.inr (.inl rfl))]; exact g2, by rw [hD _ (.inr (.inr rfl))]; exact g3⟩
          · rintro c hh mm ⟨g0, gc, g1, g2, g3⟩ o (rfl | rfl | rfl) <;> omega
        have hkm3 : k ≠ m3 := by omega
        refine SCallE.mono (d270 Y l hl (id := x.id) (k := k) (by rw [hset_ne _ _ hkm3]; exact k3) (by rintro (g | g | g) <;> omega) ⟨by omega, Nat.zero_le _, by rw [hset_ne _ _ (by omega)]; exact za, by rw [hset_ne _ _ (by omega)]; exact zm, hset_at _ _ _⟩) ?_
        rintro v h' m' ⟨hm', hfr, ⟨c, g0, gc, g1, g2, g3⟩ | ⟨g0, g1, g3⟩⟩
        · refine ⟨_, _, g3, by simp, ?_⟩
          simp [go_sem]
          refine ⟨by omega, fun o y e => ?_⟩
          have o1 : o < n + 2 := hGb 0 o y e
          by_cases o2 : o = n + 1
          · subst o2; rw [hset_ne _ _ (by omega), g1, ← e, hGa]
          · rw [hset_ne _ _ (by omega), hfr o (by rintro (g | g | g) <;> omega) (by omega) (by omega), hset_ne _ _ (by omega)]
            exact k4 _ _ ((hset_ne _ _ (by omega)).trans e)
        · refine ⟨_, _, g3, by simp, ?_⟩
          simp [go_sem]
          rw [hset_ne _ _ (by omega : n + 1 ≠ m3), g1]
          refine ⟨_, rfl, retT ho (fun o y e => ?_) (by simp [closed]) ⟨16, rfl⟩⟩
          have o1 : o < n := hHb o y e
          rw [hset_ne _ _ (by omega), hfr o (by rintro (g | g | g) <;> omega) (by omega) (by omega), hset_ne _ _ (by omega)]
          exact k4 _ _ ((hset_ne _ _ (by omega)).trans (hGk 0 _ _ e))
      · refine SP_of ?_
        simp [go_sem, w1, Fz.same, -Int.natCast_add]
        exact ⟨i + 1, by omega, ⟨by omega, hm⟩, rfl⟩
    · refine SP_of ?_
      simp [go_sem, hlt, Fz.same, hm]
  refine SP_of ?_
  simp [go_sem, hGa, hGs]
  exact out _ _
structure Settings.sizedT (s : Settings) : Prop extends Settings.sized s where
  tpl : ∀ x ∈ s.lists, ∀ y ∈ x.levels, y.template.size ≤ 1048576
  com : ∀ x ∈ s.comments, x.author.size ≤ 1048576 ∧ x.text.size ≤ 1048576
  var : ∀ x ∈ s.vars, x.name.size ≤ 1048576 ∧ x.value.size ≤ 1048576
theorem t83s (s : Settings) (hs : s.sizedT) : TC 79 [s.enc] anyE :=
  t83 s (t146 _ hs.styles hs.props)
    (t147 _ hs.lists fun i hi => t210 _ hs.lists i hi (t212 _ (hs.levels _ (List.getElem_mem hi)) fun x hx k => t271 x.template (hs.tpl _ (List.getElem_mem hi) x hx) k))
    (t148 _ hs.comments fun i hi => t213 _ hs.comments hs.com i hi)
    (t149 _ hs.vars fun i hi => t218 _ hs.vars hs.var i hi)
structure Document.sizedT (B N : Nat) (d : Document) : Prop where
  flow : lim Head.sized B N d.flow
  «end» : d.«end».sized
  revs : d.revs.length ≤ 1048576
  authors : ∀ r ∈ d.revs, r.author.size ≤ 1048576
  settings : d.settings.sizedT
theorem t12x_s (d : Document) {B N : Nat} (hB : B ≤ 1048576) (hd : d.sizedT B N) : TC 34 [d.enc] (smallX N d) :=
  t12x d hB hd.flow (t24 d hB hd.flow hd.end hd.settings.styles hd.settings.lists hd.revs hd.authors (t83s _ hd.settings))
def st0 : Unit → Nat → Option SObj := fun _ _ => none
section
variable {P : Program} {E : Env} {evs : Operand → SV} {o : Oper} {h : Hp} {n : Nat} {K : SV → Hp → Nat → Prop}
def findA (P : Program) (kt : TypeId) (cs : List SV) : List (SV × SV) → Nat → Option (Option (Nat × SV))
  | [], _ => some none
  | e :: es, i => match e.1 with
    | .agg ds => match fieldsEq P cs ds (fieldsOfT P kt) with
      | some true => some (some (i, e.2))
      | some false => findA P kt cs es (i + 1)
      | none => none
    | _ => none
structure KeyS (P : Program) (kt : TypeId) : Prop where
  ht : P.underlying kt = some (.struct (P.fieldsOf kt))
  hp : P.stoodInHeld kt = false
theorem equal_run {c : Cx} {kt : TypeId} (hk : KeyS P kt) {cs ds : List SV} {v u : Value} {b : Bool} (hv : V c (.agg cs) v) (hu : V c (.agg ds) u) (hb : fieldsEq P cs ds (fieldsOfT P kt) = some b) (w : World) : (Op.equal kt v u).run P w = .ok b w := by
  obtain ⟨vs, e1, h1, h2⟩ := agg_cells hv
  obtain ⟨us, e2, h3, h4⟩ := agg_cells hu
  have hr := fieldsEq_run h1 h3 h2 h4 9998 w _ _ hb
  rw [e1, e2]
  show (Op.equalIn 10000 kt _ _).run P w = _
  rw [run_equalIn_struct w 9999 kt _ _ hk.ht hk.hp]; exact hr
theorem findA_rel {c : Cx} {kt : TypeId} (hk : KeyS P kt) {cs : List SV} {v : Value} (hv : V c (.agg cs) v) (w : World) :
    ∀ (es : List (SV × SV)) (ents : List MapEntry) (i : Nat) (r : Option (Nat × SV)), All2 (fun (p : SV × SV) (e : MapEntry) => V c p.1 e.key ∧ V c p.2 e.val) es ents → findA P kt cs es i = some r →
      (r = none ∧ (Instr.findAsking kt v ents i).run P w = .ok none w) ∨ ∃ j x y e ds, r = some (i + j, x) ∧ (Instr.findAsking kt v ents i).run P w = .ok (some (i + j, y)) w ∧ V c x y ∧ ents[j]? = some e ∧ V c (.agg ds) e.key ∧ fieldsEq P cs ds (fieldsOfT P kt) = some true
  | [], ents, i, r, h, hf => by
    simp only [findA, Option.some.injEq] at hf
    subst hf
    rw [h.nil_left]
    exact .inl ⟨rfl, by simp [Instr.findAsking]⟩
  | p :: es, [], i, r, h, _ => h.elim
  | p :: es, e :: ents, i, r, h, hf => by
    obtain ⟨⟨h1, h2⟩, h3⟩ := h
    simp only [findA] at hf
    split at hf <;> try cases hf
    rename_i ds hds
    rw [hds] at h1
    split at hf
    · rename_i he
      cases hf
      have := equal_run hk hv h1 he w
      exact .inr ⟨0, p.2, e.val, e, ds, rfl, by simp [Instr.findAsking, this], h2, rfl, h1, he⟩
    · rename_i he
      have := equal_run hk hv h1 he w
      rcases findA_rel hk hv w es ents (i + 1) r h3 hf with ⟨rfl, hg⟩ | ⟨j, x, y, e', ds', rfl, hg, hxy, hj, hs⟩
      · exact .inl ⟨rfl, by simp [Instr.findAsking, this, hg]⟩
      · exact .inr ⟨j + 1, x, y, e', ds', by congr 2; omega, by rw [show i + (j + 1) = i + 1 + j by omega]; simp [Instr.findAsking, this, hg], hxy, by simpa using hj, hs⟩
    · cases hf
end
section
variable {E : Env} {evs : Operand → SV} {o : Oper} {h : Hp} {n : Nat} {K : SV → Hp → Nat → Prop}
end
section
variable {E : Env} {evs : Operand → SV} {o : Oper} {h : Hp} {n : Nat} {K : SV → Hp → Nat → Prop}
end
section
variable {E : Env} {evs : Operand → SV} {o : Oper} {h : Hp} {n : Nat} {K : SV → Hp → Nat → Prop}
end
section
variable {P : Program} {E : Env} {evs : Operand → SV} {o : Oper} {h : Hp} {n : Nat} {K : SV → Hp → Nat → Prop}
variable {N : Nat} {ops : Array Oper}
end
section
variable {E : Env} {evs : Operand → SV} {o : Oper} {h : Hp} {n : Nat} {K : SV → Hp → Nat → Prop}
end
section
variable {g : FuncId} {a b : List SV} {p : Int → Bool}
end
def z0 : Head := ⟨[], 0, 0, [], []⟩
def hI (i : Int) : Head := ⟨[], i, 0, [], []⟩
section
variable {σ : Type}
end
theorem Document.cl (n : Nat) (E : Document) : closed n E.enc = true := by simp [Document.enc, Head.flat, Settings.flat, closed, closedL, Item.E.closedL, Prp.E.closedL, Del.E.closedL, Layer.E.closedL, Rev.E.closedL, Style.E.closedL, Lst.E.closedL, Comment.E.closedL, Var.E.closedL]
section
variable {σ : Type}
end
section
variable {σ : Type}
end
theorem fm_sub {α β γ : Type} {f : α → List β} {g : β → γ} {k : α → List γ} : ∀ {l : List α}, (∀ x ∈ l, ((f x).map g).Sublist (k x)) → ((l.flatMap f).map g).Sublist (l.flatMap k)
  | [], _ => by simp
  | a :: l, h => by
    rw [List.flatMap_cons, List.flatMap_cons, List.map_append]
    exact (h a (by simp)).append (fm_sub fun x hx => h x (by simp [hx]))
theorem flL_fm (p : Place) : ∀ l : List Item, Item.flL p l = l.flatMap (Item.fl p)
  | [] => by rw [Item.flL]; rfl
  | x :: l => by rw [Item.flL, flL_fm p l]; rfl
theorem flLR_fm (p : Place) : ∀ l : List Row, Row.flL p l = l.flatMap (Row.fl p)
  | [] => by rw [Row.flL]; rfl
  | x :: l => by rw [Row.flL, flLR_fm p l]; rfl
theorem flLC_fm (p : Place) : ∀ l : List Cell, Cell.flL p l = l.flatMap (Cell.fl p)
  | [] => by rw [Cell.flL]; rfl
  | x :: l => by rw [Cell.flL, flLC_fm p l]; rfl
theorem fl_ids {hp : Head → Prop} {K : Nat} : ∀ {N : Nat} {l : List Item} (p : Place), lim hp K N l → ((Item.flL p l).map Fl.id).Sublist (idsN N l)
  | N + 1, l, p, H => by
    rw [flL_fm, idsN_succ]
    refine fm_sub fun x hx => ?_
    obtain ⟨_, a, _, b⟩ := H.2.2 x hx
    cases x with
    | mk k c i t h f r =>
      have hI : idsI N (.mk k c i t h f r) = if k = 6 then i :: idsN N f else if k = 7 then i :: r.flatMap (idsR N) else [] := rfl
      have a' : lim hp K N f := a
      have b' : ∀ q ∈ r, hp q.head ∧ q.cells.length ≤ K ∧ ∀ c ∈ q.cells, hp c.head ∧ lim hp K N c.flow := b
      rw [Item.fl, hI]
      by_cases k6 : k = 6
      · rw [if_pos k6, if_pos k6]
        exact (fl_ids p.inNote a').cons_cons _
      · rw [if_neg k6, if_neg k6]
        by_cases k7 : k = 7
        · rw [if_pos k7, if_pos k7]
          refine List.Sublist.cons _ ?_
          rw [flLR_fm]
          refine fm_sub fun r hr => ?_
          cases r with
          | mk hd cs =>
            rw [Row.fl, flLC_fm]
            refine fm_sub (k := fun c : Cell => c.id :: idsN N c.flow) fun c hc => ?_
            have := ((b' _ hr).2.2 c hc).2
            cases c
            rw [Cell.fl]
            exact (fl_ids _ this).cons_cons _
        · rw [if_neg k7, if_neg k7]; exact List.nil_sublist _
theorem nodup_one {α β : Type} {g : α → β} : ∀ {l : List α}, (l.map g).Nodup → ∀ x ∈ l, ∀ y ∈ l, g x = g y → x = y
  | a :: l, h, x, hx, y, hy, e => by
    rw [List.map_cons, List.nodup_cons] at h
    rcases List.mem_cons.1 hx with h1 | h1
    · rcases List.mem_cons.1 hy with h2 | h2
      · rw [h1, h2]
      · exact absurd (by rw [← h1, e]; exact List.mem_map_of_mem h2) h.1
    · rcases List.mem_cons.1 hy with h2 | h2
      · exact absurd (by rw [← h2, ← e]; exact List.mem_map_of_mem h1) h.1
      · exact nodup_one h.2 x h1 y h2 e
section
variable {hp : Head → Prop} {σ : Type} {f : σ → SPart → Head × Bool × σ} {K N : Nat}
end
end Go.Proofs.YthinbkgpjmjfeaaGreatDoor.Sh
