/- SplitPartsUptoSaid: a part of its proof (part 10 of 14). -/
import Derived.Test.YtgakninlhfkkmaaGreatM9
import Derived.Lib.ConvBytes
import Derived.Lib.UnsafeStr
import Derived.Lib.Builder
import Derived.Laws.Externs
import Derived.BigFrame
import Derived.WalkKit
namespace Go.Proofs.YtgakninlhfkkmaaGreat.Sh
open Proofs
set_option maxRecDepth 10000
structure DJ (m2 : List Int) (h : AF) : Prop where
 ins : h.ins = 0 ∨ h.ins ∈ m2
 dlen : h.dels.length ≤ 16
 dels : ∀ x ∈ h.dels, x.rev ∈ m2
 llen : h.layers.length ≤ 64
 layers : ∀ x ∈ h.layers, x.rev ∈ m2
section
variable {K : Ck} {n0 : Nat}
def TZ (K : Ck) (s : FT) (h : AF) (e : Int) (s' : FT) : Prop := e = 0 → s' = s ∧ DJ K.m2 h
set_option maxHeartbeats 4000000 in
theorem d86 (hK : K.ok n0) (s : FT) (el : Int) (hd : AF) (hsz : hd.sized) {H : Hp} {n : Nat} (hn : n0 ≤ n) (hs : ∀ o y, K.st s o = some y → H o = some y) :
 BO Tryz.prog 86 [.ptr K.p 0, AA el, hd.enc] H n (CQ K (TZ K s hd) H n) := by
 refine ED Tryz.func86 rfl fun ho => ?_
 obtain ⟨hp, _, _, h2, _, _⟩ := hK.has hs
 simp only [Ck.cells] at hp
 have hKp : K.p < n := by have := hK.lt K.p (by simp); omega
 have hKs : K.s2 < n := by have := hK.lt K.s2 (by simp); omega
 have hHb := ho.lt
 have no : ∀ (e : Int) (m : Nat), e ≠ 0 → CG n H m (AA e) (CQ K (TZ K s hd) H n) := fun e m he => hK.no hn ho s hs e (fun g => absurd g he) AB
 refine Ae 1 [(3, .iptr [.ptr K.p 0]), (4, .iptr [AA el]), (5, .iptr hd.flat)] H n ?_ (fun m hm => ?_)
 · simp [go_sem, AF.enc, AF.flat, Nat.add_assoc]
   refine ⟨⟨Ac (Af hHb (by omega)) (by simp [hset]), Ac (Af hHb (by omega)) (by simp [hset]), Ac (Af hHb (by omega)) (by simp [hset])⟩, fun j y => ?_⟩
   have := hHb j y; simp only [hset]; grind
 refine Bs 0 [(3, .iptr [.ptr K.p 0]), (4, .iptr [AA el]), (5, .iptr hd.flat)] H n (AH ?_) (fun m hm => ?_)
 · simp [go_sem, AF.flat]
   refine (c156 el hd.props hsz.props).use ?_
   by_cases e0 : Fv el hd.props = 0
   · simp [go_sem, e0, Fz.same, hm]
   · simp [go_sem, e0]; exact no _ _ e0
 refine Bs 0 [(3, .iptr [.ptr K.p 0]), (4, .iptr [AA el]), (5, .iptr hd.flat)] H n ?_ (fun m hm => ?_)
 · refine Ae 0 [(3, .iptr [.ptr K.p 0]), (4, .iptr [AA el]), (5, .iptr hd.flat), (22, Ah hd.props), (23, AA hd.props.length), (24, AA 0)] H n ?_ (fun m hm => ?_)
   · simp [go_sem, Fz.same, AF.flat, hm]
   refine Ab (Bf 0 (α := Nat) (fun i => [(3, .iptr [.ptr K.p 0]), (4, .iptr [AA el]), (5, .iptr hd.flat), (22, Ah hd.props), (23, AA hd.props.length), (24, AA i)]) (fun _ => H) (fun i m => i ≤ hd.props.length ∧ n ≤ m) (fun i => hd.props.length - i) 0 ⟨Nat.zero_le _, hm⟩ ?_ AB ?_)
   · simp [go_sem, Ai, Fz.same]
   rintro i m ⟨hi, hm⟩
   refine AH ?_
   by_cases hlt : i < hd.props.length
   · obtain ⟨x, hx⟩ : ∃ x, hd.props[i] = x := ⟨_, rfl⟩
     have w1 : IntKind.i64.wrap ((i : Int) + 1) = ((i + 1 : Nat) : Int) := by have := hsz.props; rw [C8] <;> omega
     simp [go_sem, hlt, hx, FH.enc, AC]
     refine SC.use (d157 hK s x.key x.value (I9 hK.clo.lt (by omega) _ (I9 hK.clo.lt (by omega) _ hs))) ?_
     rintro v H' n' ⟨⟨e, rfl⟩, rfl, rfl⟩
     by_cases e0 : e = 0
     · subst e0
       simp [go_sem, w1, -Int.natCast_add]
       refine ⟨i + 1, by omega, ⟨by omega, by omega⟩, by simp [Fz.same], AL (fun j z e => by have := hHb j z e; omega) (AL (fun j z e => by have := hHb j z e; omega) AB)⟩
     · simp [go_sem, e0]
       exact hK.no hn ho s hs e (fun g => absurd g e0) (AL (fun j z e => by have := hHb j z e; omega) (AL (fun j z e => by have := hHb j z e; omega) AB))
   · simp [go_sem, hlt, Fz.same, hm]
 refine Ae 1 [(3, .iptr [.ptr K.p 0]), (4, .iptr [AA el]), (11, .iptr [AA hd.ins, AA hd.move, Ao hd.dels, AV hd.layers])] H n ?_ (fun m hm => ?_)
 · simp [go_sem, Fz.same, AF.flat, AC]
   have hHm : ∀ j y, H j = some y → j < m := fun j y e => by have := hHb j y e; omega
   exact ⟨by omega, Ac (Af hHm (Nat.le_refl _)) (AC _ _ _), AL hHm (AL hHm AB)⟩
 refine B5 0 [(3, .iptr [.ptr K.p 0]), (4, .iptr [AA el]), (11, .iptr [AA hd.ins, AA hd.move, Ao hd.dels, AV hd.layers])] H (fun m => n ≤ m ∧ (hd.ins = 0 ∨ hd.ins ∈ K.m2) ∧ hd.dels.length ≤ 16) ?_ (fun m hm => ?_)
 · refine Ab ?_
   refine BM 0 (α := Bx) (fun b => [(3, .iptr [.ptr K.p 0]), (4, .iptr [AA el]), (11, .iptr [AA hd.ins, AA hd.move, Ao hd.dels, AV hd.layers]), (40, .bool b.b)]) (fun _ => H) (fun b m => n ≤ m ∧ (b.b = false → hd.ins = 0 ∨ hd.ins ∈ K.m2)) ?_ (fun b m hm => ?_)
   · by_cases i0 : hd.ins = 0
     · simp [go_sem, Fz.same, i0, hm]
       repeat first | refine nq ?_ | refine sq ?_ | refine aq ?_
       exact ⟨⟨false⟩, rfl⟩
     · by_cases hr : hd.ins ∈ K.m2
       · obtain ⟨j, f, _⟩ := Cw 0 hr
         simp [go_sem, Fz.same, i0, hp, h2, f, CD, hm, hr]
         repeat first | refine nq ?_ | refine sq ?_ | refine aq ?_
         exact ⟨⟨false⟩, rfl⟩
       · have f := Da 0 hr
         simp [go_sem, Fz.same, i0, hp, h2, f, CD, hm, hr]
         repeat first | refine nq ?_ | refine sq ?_ | refine aq ?_
         exact ⟨⟨true⟩, by simp, rfl⟩
   obtain ⟨b⟩ := b
   dsimp only at hm ⊢
   refine Ak (b := b) (by simp [go_sem]) ?_
   cases b with
   | true => exact AH (by simp [go_sem]; exact no 22 _ (by decide))
   | false =>
   simp only [Bool.false_eq_true, if_false]
   have hm1 := hm.2 rfl
   refine BM 0 (α := Bx) (fun b => [(3, .iptr [.ptr K.p 0]), (4, .iptr [AA el]), (11, .iptr [AA hd.ins, AA hd.move, Ao hd.dels, AV hd.layers]), (54, .bool b.b)]) (fun _ => H) (fun b m => n ≤ m) ?_ (fun b m hm => ?_)
   · simp [go_sem]
     refine (Je _ _ _).use ?_
     by_cases c : 0 ≤ hd.move ∧ hd.move ≤ 1073741824
     · by_cases m0 : hd.move = 0
       · simp [go_sem, Fz.same, m0, hm.1]; exact ⟨⟨_⟩, rfl⟩
       · simp [go_sem, Fz.same, c, m0, hm.1]; exact ⟨⟨_⟩, rfl⟩
     · simp [go_sem, Fz.same, c, hm.1]; exact ⟨⟨_⟩, rfl⟩
   obtain ⟨b⟩ := b
   dsimp only at hm ⊢
   refine Ak (b := b) (by simp [go_sem]) ?_
   cases b with
   | true => exact AH (by simp [go_sem]; exact no 21 _ (by decide))
   | false =>
   simp only [Bool.false_eq_true, if_false]
   refine AH ?_
   by_cases c : (16 : Int) < hd.dels.length
   · simp [go_sem, c]; exact no 9 _ (by decide)
   · simp [go_sem, c, Fz.same, hm, hm1]; omega
 obtain ⟨hm, hi, hdl⟩ := hm
 refine B5 0 [(3, .iptr [.ptr K.p 0]), (4, .iptr [AA el]), (11, .iptr [AA hd.ins, AA hd.move, Ao hd.dels, AV hd.layers])] H (fun m => n ≤ m ∧ ∀ x ∈ hd.dels, x.rev ∈ K.m2) ?_ (fun m hm => ?_)
 · refine Ae 0 [(3, .iptr [.ptr K.p 0]), (4, .iptr [AA el]), (11, .iptr [AA hd.ins, AA hd.move, Ao hd.dels, AV hd.layers]), (75, Ao hd.dels), (76, AA hd.dels.length), (77, AA 0)] H n ?_ (fun m hm => ?_)
   · simp [go_sem, Fz.same, hm]
   refine Ab (Bf 0 (α := Nat) (fun i => [(3, .iptr [.ptr K.p 0]), (4, .iptr [AA el]), (11, .iptr [AA hd.ins, AA hd.move, Ao hd.dels, AV hd.layers]), (75, Ao hd.dels), (76, AA hd.dels.length), (77, AA i)]) (fun _ => H) (fun i m => i ≤ hd.dels.length ∧ n ≤ m ∧ ∀ j (h : j < hd.dels.length), j < i → hd.dels[j].rev ∈ K.m2) (fun i => hd.dels.length - i) 0 ⟨Nat.zero_le _, hm, fun j _ h => by omega⟩ ?_ AB ?_)
   · simp [go_sem, Ai, Fz.same]
   rintro i m ⟨hi2, hm, hI⟩
   by_cases hlt : i < hd.dels.length
   · obtain ⟨x, hx⟩ : ∃ x, hd.dels[i] = x := ⟨_, rfl⟩
     have w1 := wS i (by omega)
     refine Ae 0 [(3, .iptr [.ptr K.p 0]), (4, .iptr [AA el]), (11, .iptr [AA hd.ins, AA hd.move, Ao hd.dels, AV hd.layers]), (75, Ao hd.dels), (76, AA hd.dels.length), (77, AA i), (78, .bool true)] H n ?_ (fun m hm => ?_)
     · simp [go_sem, Fz.same, hm, hlt]
     refine Ae 0 [(3, .iptr [.ptr K.p 0]), (4, .iptr [AA el]), (11, .iptr [AA hd.ins, AA hd.move, Ao hd.dels, AV hd.layers]), (75, Ao hd.dels), (76, AA hd.dels.length), (77, AA i)] H n ?_ (fun m hm => ?_)
     · simp [go_sem, Fz.same, hm]
     refine B5 0 [(3, .iptr [.ptr K.p 0]), (4, .iptr [AA el]), (11, .iptr [AA hd.ins, AA hd.move, Ao hd.dels, AV hd.layers]), (75, Ao hd.dels), (76, AA hd.dels.length), (77, AA i)] H (fun m => n ≤ m ∧ x.rev ∈ K.m2) ?_ (fun m hm => ?_)
     · refine Ab ?_
       refine Ae 1 [(3, .iptr [.ptr K.p 0]), (4, .iptr [AA el]), (11, .iptr [AA hd.ins, AA hd.move, Ao hd.dels, AV hd.layers]), (75, Ao hd.dels), (76, AA hd.dels.length), (77, AA i), (12, AA i), (13, .iptr [AA x.rev, AA x.move])] H n ?_ (fun m hm => ?_)
       · simp [go_sem, Fz.same, hlt, hx, CF.enc, AC]
         have hHm : ∀ j y, H j = some y → j < m := fun j y e => by have := hHb j y e; omega
         exact ⟨by omega, Ac (Af hHm (Nat.le_refl _)) (AC _ _ _), AL hHm (AL hHm AB)⟩
       refine Ab ?_
       refine BM 0 (α := Bx) (fun b => [(3, .iptr [.ptr K.p 0]), (4, .iptr [AA el]), (11, .iptr [AA hd.ins, AA hd.move, Ao hd.dels, AV hd.layers]), (75, Ao hd.dels), (76, AA hd.dels.length), (77, AA i), (12, AA i), (13, .iptr [AA x.rev, AA x.move]), (82, .bool b.b)]) (fun _ => H) (fun b m => n ≤ m ∧ (b.b = false → x.rev ∈ K.m2)) ?_ (fun b m hm => ?_)
       · by_cases hr : x.rev ∈ K.m2
         · obtain ⟨j, f, _⟩ := Cw 0 hr
           simp [go_sem, Fz.same, hp, h2, f, CD, hm, hr]
           repeat first | refine nq ?_ | refine sq ?_ | refine aq ?_
           exact ⟨⟨false⟩, rfl⟩
         · have f := Da 0 hr
           simp [go_sem, Fz.same, hp, h2, f, CD, hm, hr]
           repeat first | refine nq ?_ | refine sq ?_ | refine aq ?_
           exact ⟨⟨true⟩, by simp, rfl⟩
       obtain ⟨b⟩ := b
       dsimp only at hm ⊢
       refine Ak (b := b) (by simp [go_sem]) ?_
       cases b with
       | true => exact AH (by simp [go_sem]; exact no 22 _ (by decide))
       | false =>
       simp only [Bool.false_eq_true, if_false]
       have hm1 := hm.2 rfl
       refine BM 0 (α := Bx) (fun b => [(3, .iptr [.ptr K.p 0]), (4, .iptr [AA el]), (11, .iptr [AA hd.ins, AA hd.move, Ao hd.dels, AV hd.layers]), (75, Ao hd.dels), (76, AA hd.dels.length), (77, AA i), (13, .iptr [AA x.rev, AA x.move]), (91, .bool b.b)]) (fun _ => H) (fun b m => n ≤ m) ?_ (fun b m hm => ?_)
       · by_cases i0 : 0 < i
         · have hi1 : i - 1 < hd.dels.length := by omega
           obtain ⟨y, hy⟩ : ∃ y, hd.dels[i - 1] = y := ⟨_, rfl⟩
           have w : IntKind.i64.wrap ((i : Int) - 1) = ((i - 1 : Nat) : Int) := by rw [C8] <;> omega
           simp [go_sem, Fz.same, i0, w, hi1, hy, CF.enc, hm]
           repeat first | refine nq ?_ | refine sq ?_ | refine aq ?_
           exact ⟨⟨_⟩, rfl⟩
         · simp [go_sem, Fz.same, i0, hm]
           repeat first | refine nq ?_ | refine sq ?_ | refine aq ?_
           exact ⟨⟨_⟩, rfl⟩
       obtain ⟨b⟩ := b
       dsimp only at hm ⊢
       refine Ak (b := b) (by simp [go_sem]) ?_
       cases b with
       | true => exact AH (by simp [go_sem]; exact no 6 _ (by decide))
       | false =>
       simp only [Bool.false_eq_true, if_false]
       refine AH ?_
       simp [go_sem]
       refine (Je _ _ _).use ?_
       by_cases c : 0 ≤ x.move ∧ x.move ≤ 1073741824
       · simp [go_sem, Fz.same, c, hm, hm1]
       · simp [go_sem, c]; exact no 21 _ (by decide)
     · refine AH ?_
       simp [go_sem, w1, Fz.same, -Int.natCast_add]
       refine ⟨i + 1, by omega, ⟨by omega, hm.1, fun j h hj => ?_⟩, rfl⟩
       by_cases h3 : j = i
       · subst h3; rw [hx]; exact hm.2
       · exact hI j h (by omega)
   · have : i = hd.dels.length := by omega
     subst this
     refine AH ?_
     simp [go_sem, Fz.same, hm]
     exact fun x hx => by obtain ⟨j, hj, rfl⟩ := List.getElem_of_mem hx; exact hI j hj hj
 obtain ⟨hm, hdr⟩ := hm
 refine B5 0 [(3, .iptr [.ptr K.p 0]), (4, .iptr [AA el]), (11, .iptr [AA hd.ins, AA hd.move, Ao hd.dels, AV hd.layers])] H (fun m => n ≤ m ∧ hd.layers.length ≤ 64) (AH ?_) (fun m hm => ?_)
 · by_cases c : (64 : Int) < hd.layers.length
   · simp [go_sem, c]; exact no 9 _ (by decide)
   · simp [go_sem, c, Fz.same, hm]; omega
 obtain ⟨hm, hll⟩ := hm
 refine AH ?_
 simp [go_sem]
 have hd150 := d150 hK hd.layers.length (by omega) 158 [] [.iptr [.ptr K.p 0], .iptr [AA el], .iptr [AA hd.ins, AA hd.move, Ao hd.dels, AV hd.layers]] (fun i s' => s' = s ∧ ∀ j (h : j < hd.layers.length), j < i → hd.layers[j].rev ∈ K.m2) (fun i s' H2 n2 hi hI hn2 hs2 => by
  obtain ⟨he, hI⟩ := hI
  refine (d158 hK s' el hd.ins hd.move (Ao hd.dels) hd.layers (by omega) i hi hn2 hs2).mono ?_
  rintro v h' n' ⟨e, s2, rfl, ⟨he2, hT⟩, rfl, rfl⟩
  refine ⟨e, s2, rfl, fun e0 => ⟨by rw [he2, he], fun j h hj => ?_⟩, rfl, rfl⟩
  by_cases h3 : j = i
  · subst h3; exact hT e0
  · exact hI j h (by omega)) s ⟨rfl, fun j _ h => by omega⟩ (H := H) (n := m) (by omega) hs
 refine SC.use hd150 ?_
 rintro v H' n' ⟨e, s2, rfl, hT, rfl, rfl⟩
 simp [go_sem]
 by_cases e0 : e = 0
 · obtain ⟨he, hT2⟩ := hT e0
   exact hK.ret hn ho e s2 (fun _ => ⟨he, hi, hdl, hdr, hll, fun x hx => by obtain ⟨j, hj, rfl⟩ := List.getElem_of_mem hx; exact hT2 j hj hj⟩) AB
 · exact hK.ret hn ho e s2 (fun g => absurd g e0) AB
end
def FK : Nat → List AE → List Int
 | 0, _ => []
 | N + 1, l => l.flatMap fun x => if x.kind = 6 then x.id :: FK N x.flow else if x.kind = 7 then x.id :: x.rows.flatMap fun r => r.cells.flatMap fun c => c.id :: FK N c.flow else []
def KX (N : Nat) (r : AS) : List Int := r.cells.flatMap fun c => c.id :: FK N c.flow
def FV (N : Nat) (x : AE) : List Int := if x.kind = 6 then x.id :: FK N x.flow else if x.kind = 7 then x.id :: x.rows.flatMap (KX N) else []
theorem Jn (N : Nat) (l : List AE) : FK (N + 1) l = l.flatMap (FV N) := rfl
def Oy (m2 : List Int) : Nat → List AE → Prop
 | 0, _ => True
 | N + 1, l => ∀ x ∈ l, Jm x ∧ DJ m2 x.head ∧ Oy m2 N x.flow ∧ (x.kind = 7 → x.rows ≠ []) ∧ ∀ r ∈ x.rows, (DJ m2 r.head ∧ r.cells ≠ []) ∧ ∀ c ∈ r.cells, DJ m2 c.head ∧ Oy m2 N c.flow
def okr (m2 : List Int) (N : Nat) (r : AS) : Prop := (DJ m2 r.head ∧ r.cells ≠ []) ∧ ∀ c ∈ r.cells, DJ m2 c.head ∧ Oy m2 N c.flow
def oki (m2 : List Int) (N : Nat) (x : AE) : Prop := Jm x ∧ DJ m2 x.head ∧ Oy m2 N x.flow ∧ (x.kind = 7 → x.rows ≠ []) ∧ ∀ r ∈ x.rows, okr m2 N r
theorem P6 (m2 : List Int) (N : Nat) : Oy m2 N [] := by cases N <;> simp [Oy]
def more (s s' : FT) (ids : List Int) : Prop := s'.1 = s.1 ++ ids ∧ (∀ i ∈ ids, 1 ≤ i ∧ i ≤ 1073741824) ∧ (s.1.Nodup → s'.1.Nodup)
theorem more.nil {s s' : FT} (h : s'.1 = s.1) : more s s' [] := ⟨by simp [h], by simp, by rw [h]; exact id⟩
theorem more.trans {s s1 s2 : FT} {a b : List Int} (h : more s s1 a) (g : more s1 s2 b) : more s s2 (a ++ b) :=
 ⟨by rw [g.1, h.1, List.append_assoc], fun i hi => by rcases List.mem_append.1 hi with hi | hi; exact h.2.1 i hi; exact g.2.1 i hi, fun n => g.2.2 (h.2.2 n)⟩
theorem more.one {s s' : FT} {id : Int} (h : s' = (s.1 ++ [id], s.2)) (h1 : 1 ≤ id ∧ id ≤ 1073741824) (h2 : id ∉ s.1) : more s s' [id] :=
 ⟨by rw [h], by simpa using h1, fun n => by rw [h]; simp only; rw [List.nodup_append]; exact ⟨n, by simp, by rintro a ha b hb; rw [List.mem_singleton.1 hb]; rintro rfl; exact h2 ha⟩⟩
def LX (s : FT) (ids : List Int) (P : Prop) (e : Int) (s' : FT) : Prop := e = 0 → more s s' ids ∧ P
def trP : Tr := .pure 0 <| .pure 1 <| .pure 2 <| .pure 3 <| .pure 4 <| .pure 5 <| .one 6 <| .one 7 .nil
section
variable {K : Ck} {n0 : Nat}
def Q8 (K : Ck) (n0 : Nat) (N : Nat) (x : AE) : Prop := ∀ (s : FT) (pl : BT) (H : Hp) (n : Nat), n0 ≤ n → (∀ o y, K.st s o = some y → H o = some y) →
 BO Tryz.prog 161 [.ptr K.p 0, x.enc, pl.enc] H n (CQ K (LX s (FV N x) (oki K.m2 N x)) H n)
def Mx (K : Ck) (n0 : Nat) (N : Nat) (l : List AE) : Prop := ∀ (s : FT) (pl : BT) (H : Hp) (n : Nat), n0 ≤ n → (∀ o y, K.st s o = some y → H o = some y) →
 BO Tryz.prog 88 [.ptr K.p 0, AG l, pl.enc] H n (CQ K (LX s (FK N l) (Oy K.m2 N l)) H n)
theorem d160 (hK : K.ok n0) (N : Nat) (l : List AE) (i : Nat) (hi : i < l.length) (h : Q8 K n0 N l[i]) (s : FT) (pl : BT) {H : Hp} {n : Nat} (hn : n0 ≤ n) (hs : ∀ o y, K.st s o = some y → H o = some y) :
 BO Tryz.prog 160 [AA i, .iptr [.ptr K.p 0], .iptr [AG l], .iptr [.bool pl.body, .bool pl.note, AA pl.tables]] H n (CQ K (LX s (FV N l[i]) (oki K.m2 N l[i])) H n) := by
 refine ED Tryz.func160 rfl fun ho => ?_
 obtain ⟨x, hx⟩ : ∃ x, l[i] = x := ⟨_, rfl⟩
 rw [hx] at h ⊢
 have hgx : (l.map AE.enc)[i]? = some x.enc := by simp [hi, hx]
 have D := hK.clo
 refine Ae 0 [(0, AA i), (1, .iptr [.ptr K.p 0]), (2, .iptr [AG l]), (3, .iptr [.bool pl.body, .bool pl.note, AA pl.tables])] H n ?_ (fun m hm => ?_)
 · simp [go_sem, Fz.same]
 refine AX 0 (α := Int × FT) (fun q => [(5, AA q.1)]) (fun q => Az K.st q.2 H) (fun q m => n ≤ m ∧ LX s (FV N x) (oki K.m2 N x) q.1 q.2) (CK trP rfl (by kernel_rfl) (by kernel_rfl) ?_) (fun q m hm => ?_)
 · have hc := h s pl H m (by omega) hs
   simp only [AE.enc_eq, BT.enc] at hc
   simp [go_sem, trP, hi, hx, AE.enc_eq]
   refine SC.use hc ?_
   rintro v H' n' ⟨e, s2, rfl, hT, rfl, rfl⟩
   simp [go_sem]
   exact ⟨e, s2.1, s2.2, ⟨by omega, hT⟩, Fz.same, AB⟩
 · refine AH ?_
   simp [go_sem]
   exact hK.ret hn ho q.1 q.2 hm.2 AB
theorem HE {α β : Type} (f : α → List β) (l : List α) (i : Nat) (h : i < l.length) : (l.take (i + 1)).flatMap f = (l.take i).flatMap f ++ f l[i] := by
 rw [List.take_succ_eq_append_getElem h, List.flatMap_append]; simp
theorem d88 (hK : K.ok n0) (N : Nat) (l : List AE) (hl : l.length ≤ 1048576) (h : ∀ x ∈ l, Q8 K n0 N x) : Mx K n0 (N + 1) l := fun s pl H n hn hs => by
 refine ED Tryz.func88 rfl fun ho => ?_
 have hHb := ho.lt
 refine Ae 1 [(3, .iptr [.ptr K.p 0]), (4, .iptr [AG l]), (5, .iptr [.bool pl.body, .bool pl.note, AA pl.tables])] H n ?_ (fun m hm => ?_)
 · simp [go_sem, BT.enc, Nat.add_assoc]
   refine ⟨⟨Ac (Af hHb (by omega)) (by simp [hset]), Ac (Af hHb (by omega)) (by simp [hset]), Ac (Af hHb (by omega)) (by simp [hset])⟩, fun j y => ?_⟩
   have := hHb j y; simp only [hset]; grind
 have hd := d150 hK l.length hl 160 [] [.iptr [.ptr K.p 0], .iptr [AG l], .iptr [.bool pl.body, .bool pl.note, AA pl.tables]] (fun i s' => more s s' ((l.take i).flatMap (FV N)) ∧ ∀ x ∈ l.take i, oki K.m2 N x) (fun i s' H2 n2 hi hI hn2 hs2 => by
  refine (d160 hK N l i hi (h _ (List.getElem_mem hi)) s' pl hn2 hs2).mono ?_
  rintro v h' n' ⟨e, s2, rfl, hT, rfl, rfl⟩
  refine ⟨e, s2, rfl, fun e0 => ?_, rfl, rfl⟩
  obtain ⟨h1, h2⟩ := hT e0
  rw [HE _ _ _ hi]
  refine ⟨hI.1.trans h1, fun x hx => ?_⟩
  rw [List.take_succ_eq_append_getElem hi] at hx
  exact Dx hI.2 h2 x hx) s ⟨more.nil rfl, by simp⟩ (H := H) (n := m) (by omega) hs
 refine AH ?_
 simp [go_sem]
 refine SC.use hd ?_
 rintro v H' n' ⟨e, s2, rfl, hT, rfl, rfl⟩
 simp [go_sem]
 refine hK.ret hn ho e s2 (fun e0 => ?_) AB
 have := hT e0
 rw [List.take_length] at this
 exact ⟨by rw [Jn]; exact this.1, this.2⟩
end
section
variable {K : Ck} {n0 : Nat}
theorem Ck.ok.up_cnt (_hK : K.ok n0) (s : FT) (c : Int) {H : Hp} (hs : ∀ o y, K.st s o = some y → H o = some y) : Az K.st (s.1, c) H = hset H K.p (some (.cells (K.cells c))) := by
 funext o
 have g := hs o
 simp only [Az, Ck.st, hset] at g ⊢
 by_cases q0 : o = K.p
 · simp [q0]
 · simp only [q0, if_false] at g ⊢
   split
   · rename_i y hy; exact (g y hy).symm
   · rfl
def TO (K : Ck) (n0 : Nat) (N : Nat) (l : List AS) : Prop := ∀ (s : FT) (pl : BT) (H : Hp) (n : Nat), n0 ≤ n → (∀ o y, K.st s o = some y → H o = some y) →
 BO Tryz.prog 224 [.ptr K.p 0, Ay l, pl.enc] H n (CQ K (LX s (l.flatMap (KX N)) (l ≠ [] ∧ ∀ r ∈ l, okr K.m2 N r)) H n)
def Dd (x : AE) : List Int := if x.kind = 6 ∨ x.kind = 7 then [x.id] else []
set_option maxHeartbeats 4000000 in
theorem d161 (hK : K.ok n0) (N : Nat) (x : AE) (hx : x.sized) (hfl : Mx K n0 N x.flow) (hrw : TO K n0 N x.rows) : Q8 K n0 N x := fun s pl H n hn hs => by
 refine ED Tryz.func161 rfl fun ho => ?_
 have D := hK.clo
 have hKp : K.p < n := by have := hK.lt K.p (by simp); omega
 have hU : ∀ s', Fd (Az K.st s' H) n := fun s' => D.old s' hn ho
 have hUb : ∀ s' j y, Az K.st s' H j = some y → j < n := fun s' j y e => (hU s' j y e).1
 have hps : ∀ s', Az K.st s' H K.p = some (.cells [.map K.s0, .map K.s1, .map K.s2, .map K.s3, .map K.s4, AA s'.2]) := fun s' => (hK.has (s := s') CL).p
 have hcnt : ∀ (q : FT) b, hset (Az K.st q H) K.p (some (.cells [.map K.s0, .map K.s1, .map K.s2, .map K.s3, .map K.s4, AA b])) = Az K.st (q.1, b) H := fun q b => by rw [← D.up2 q (q.1, b) H, hK.up_cnt q b CL]; rfl
 have no : ∀ (e : Int) (s' : FT) (m : Nat), e ≠ 0 → CG n (Az K.st s' H) m (AA e) (CQ K (LX s (FV N x) (oki K.m2 N x)) H n) := fun e s' m he => hK.ret hn ho e s' (fun g => absurd g he) AB
 obtain ⟨X, hX⟩ : ∃ X : SV, X = .iptr [AA x.kind, AA x.code, AA x.id, .str x.text, Ah x.head.props, AA x.head.ins, AA x.head.move, Ao x.head.dels, AV x.head.layers, AG x.flow, Ay x.rows] := ⟨_, rfl⟩
 obtain ⟨Y, hY⟩ : ∃ Y : SV, Y = .iptr [.bool pl.body, .bool pl.note, AA pl.tables] := ⟨_, rfl⟩
 refine Ae 1 [(0, .ptr K.p 0), (4, X), (5, Y)] (Az K.st s H) n ?_ (fun m hm => ?_)
 · rw [Et s H hs, hX, hY]
   have hHb := ho.lt
   simp [go_sem, Fz.same, BT.enc, AE.enc_eq]
   refine ⟨by omega, ⟨Ac (Af hHb (by omega)) (by simp [hset]), Ac (Af hHb (by omega)) (by simp [hset])⟩, fun j y => ?_⟩
   have := hHb j y; simp only [hset]; grind
 refine B5 0 [(0, .ptr K.p 0), (4, X), (5, Y)] (Az K.st s H) (fun m => n ≤ m ∧ Jm x) (AH ?_) (fun m hm => ?_)
 · rw [hX]
   simp [go_sem]
   refine TC.use (by simpa [AE.enc_eq] using t222 x hx) ?_
   rintro v ⟨e, rfl, hT⟩
   by_cases e0 : e = 0
   · simp [go_sem, e0, Fz.same, hm, hT e0]
   · simp [go_sem, e0]; exact no e s _ e0
 obtain ⟨hm, hform⟩ := hm
 refine BM 0 (α := Int) (fun _ => [(0, .ptr K.p 0), (4, X), (5, Y)]) (fun c => Az K.st (s.1, c) H) (fun _ m => n ≤ m) ?_ (fun c m hm => ?_)
 · simp [go_sem, hps, Fz.same, hm]
   refine ⟨IntKind.i64.wrap (s.2 + 1), ?_⟩
   rw [Et s H hs, hK.up_cnt s _ hs]
   exact AB
 refine AX 0 (α := FT) (fun _ => [(0, .ptr K.p 0), (4, X), (5, Y)]) (fun q => Az K.st q H) (fun q m => n ≤ m ∧ more s q (Dd x)) ?_ (fun q m hm => ?_)
 · refine Ae 0 [(0, .ptr K.p 0), (4, X), (5, Y), (27, AA x.kind)] (Az K.st (s.1, c) H) n ?_ (fun m hm => ?_)
   · rw [hX]; simp [go_sem, Fz.same, hm]
   refine Ab (AH ?_)
   by_cases k1 : x.kind = 1
   · have ow : Dd x = [] := by simp [Dd, k1]
     rw [ow, hX]
     simp [go_sem, k1]
     refine (c177 x.text (by have := (Dg hx).2.1; omega)).use ?_
     simp [go_sem, hps, Fz.same]
     rw [hcnt]
     refine ⟨s.1, _, ⟨hm, ?_⟩, AB⟩
     exact more.nil rfl
   · by_cases k3 : x.kind = 3
     · have ow : Dd x = [] := by simp [Dd, k3]
       rw [ow, hX, hY]
       cases hb : pl.body with
       | true =>
        simp [go_sem, k3, Fz.same]
        refine ⟨s.1, _, ⟨hm, ?_⟩, AB⟩
        exact more.nil rfl
       | false =>
        simp [go_sem, k3]
        exact no 19 _ _ (by decide)
     · by_cases k6 : x.kind = 6
       · have ow : Dd x = [x.id] := by simp [Dd, k6]
         rw [ow, hX, hY]
         simp [go_sem, k6]
         refine (Iv _ _).use ?_
         simp [go_sem]
         refine Ag.fz (bs := [.imm 1 ([if pl.note then (19 : Int) else 0].map AA) false]) (h2 := Az K.st (s.1, c) H) 1 (AL (fun j z e => by have := hUb _ j z e; omega) AB) ⟨?_, trivial⟩ ?_
         · exact Dq (es := [AA (if pl.note then (19 : Int) else 0)]) (Af (hUb _) hm) (by simp) (by rw [AC]; simp [SV.cells]) (by simp [SV.storable, SV.cells])
         refine (Ox _ (by simp)).use ?_
         cases hb : pl.note with
         | true => simp [go_sem, Bo]; exact no 19 _ _ (by decide)
         | false =>
         simp [go_sem, Bo]
         refine SC.use (Tz hK (s.1, c) x.id (by omega) CL) ?_
         rintro v H' n' ⟨e, s2, rfl, hT, rfl, rfl⟩
         rw [D.up2]
         by_cases e0 : e = 0
         · obtain ⟨h1, h2, h3, h4⟩ := hT e0
           simp [go_sem, e0, Fz.same]
           exact ⟨s2.1, s2.2, ⟨by omega, more.one (s := s) (s' := (s2.1, s.2)) (by rw [h1]) ⟨h2, h3⟩ h4⟩, AB⟩
         · simp [go_sem, e0]
           exact no e _ _ e0
       · by_cases k7 : x.kind = 7
         · have ow : Dd x = [x.id] := by simp [Dd, k7]
           rw [ow, hX, hY]
           by_cases tb : 4 ≤ pl.tables
           · simp [go_sem, k7, tb]; exact no 17 _ _ (by decide)
           simp [go_sem, k7, tb]
           refine SC.use (Tz hK (s.1, c) x.id (by omega) CL) ?_
           rintro v H' n' ⟨e, s2, rfl, hT, rfl, rfl⟩
           rw [D.up2]
           by_cases e0 : e = 0
           · obtain ⟨h1, h2, h3, h4⟩ := hT e0
             simp [go_sem, e0, Fz.same]
             exact ⟨s2.1, s2.2, ⟨by omega, more.one (s := s) (s' := (s2.1, s.2)) (by rw [h1]) ⟨h2, h3⟩ h4⟩, AB⟩
           · simp [go_sem, e0]
             exact no e _ _ e0
         · have ow : Dd x = [] := by simp [Dd, k6, k7]
           rw [ow, hX, hY]
           by_cases k8 : x.kind = 8
           · simp [go_sem, k8]
             refine (Je _ _ _).use ?_
             by_cases c8 : 1 ≤ x.id ∧ x.id ≤ 1073741824
             · simp [go_sem, c8, Fz.same]
               refine ⟨s.1, _, ⟨hm, ?_⟩, AB⟩
               exact more.nil rfl
             · simp [go_sem, c8]
               exact no 18 _ _ (by decide)
           · simp [go_sem, k1, k3, k6, k7, k8, Fz.same]
             refine ⟨s.1, _, ⟨hm, ?_⟩, AB⟩
             exact more.nil rfl
 obtain ⟨hm, hmo⟩ := hm
 refine B5 0 [(0, .ptr K.p 0), (4, X), (5, Y)] (Az K.st q H) (fun m => n ≤ m ∧ DJ K.m2 x.head) (AH ?_) (fun m hm => ?_)
 · rw [hX]
   simp [go_sem]
   refine SC.use (by simpa [AF.enc, AF.flat] using d86 hK q x.kind x.head (Dg hx).1 (n := m) (by omega) CL) ?_
   rintro v H' n' ⟨e, s2, rfl, hT, rfl, rfl⟩
   rw [D.up2]
   by_cases e0 : e = 0
   · obtain ⟨h1, h2⟩ := hT e0
     simp [go_sem, e0, Fz.same, h1, hm, h2]
   · simp [go_sem, e0]; exact no e _ _ e0
 obtain ⟨hm, hh⟩ := hm
 refine B5 0 [] (Az K.st q H) (fun m => x.kind ≠ 6 ∧ x.kind ≠ 7) (AH ?_) (fun m hk => ?_)
 · rw [hX, hY]
   by_cases k6 : x.kind = 6
   · simp [go_sem, k6]
     refine SC.use (by simpa [BT.enc] using hfl q ⟨false, true, pl.tables⟩ (Az K.st q H) m (by omega) CL) ?_
     rintro v H' n' ⟨e, s2, rfl, hT, rfl, rfl⟩
     rw [D.up2]
     simp [go_sem]
     refine hK.ret hn ho e s2 (fun e0 => ?_) AB
     obtain ⟨h1, h2⟩ := hT e0
     have h3 := hmo.trans h1
     have e1 : Dd x ++ FK N x.flow = FV N x := by simp [Dd, FV, k6]
     rw [e1] at h3
     exact ⟨h3, hform, hh, h2, fun h => absurd h (by omega), by rw [hform.2.1 (by omega)]; simp⟩
   · by_cases k7 : x.kind = 7
     · simp [go_sem, k7]
       refine SC.use (by simpa [BT.enc] using hrw q ⟨false, pl.note, IntKind.i64.wrap (pl.tables + 1)⟩ (Az K.st q H) m (by omega) CL) ?_
       rintro v H' n' ⟨e, s2, rfl, hT, rfl, rfl⟩
       rw [D.up2]
       simp [go_sem]
       refine hK.ret hn ho e s2 (fun e0 => ?_) AB
       obtain ⟨h1, h2⟩ := hT e0
       have h3 := hmo.trans h1
       have e1 : Dd x ++ x.rows.flatMap (KX N) = FV N x := by simp [Dd, FV, k7]
       rw [e1] at h3
       exact ⟨h3, hform, hh, by rw [hform.1 (by omega)]; exact P6 _ _, fun _ => h2.1, h2.2⟩
     · simp [go_sem, k6, k7]
 · refine AH ?_
   simp [go_sem]
   refine hK.ret hn ho 0 q (fun _ => ?_) AB
   have e1 : Dd x = FV N x := by simp [Dd, FV, hk.1, hk.2]
   rw [e1] at hmo
   exact ⟨hmo, hform, hh, by rw [hform.1 hk.1]; exact P6 _ _, fun h => absurd h hk.2, by rw [hform.2.1 hk.2]; simp⟩
end
def trW2 : Tr := .pure 0 <| .pure 1 <| .pure 2 <| .pure 4 <| .pure 5 <| .pure 6 <| .pure 7 <| .pure 9 <| .pure 10 <| .pure 11 <| .pure 12 <| .one 3 <| .one 8 <| .one 13 <| .one 14 <| .one 15 <| .one 16 .nil
section
variable {K : Ck} {n0 : Nat}
def Sm (N : Nat) (c : AK) : List Int := c.id :: FK N c.flow
theorem Sn (N : Nat) (r : AS) : KX N r = r.cells.flatMap (Sm N) := rfl
def okcl (m2 : List Int) (N : Nat) (c : AK) : Prop := DJ m2 c.head ∧ Oy m2 N c.flow
theorem more.trans' {s s1 s2 : FT} {a b c : List Int} (h : more s s1 a) (g : more s1 s2 b) (e : a ++ b = c) : more s s2 c := by subst e; exact h.trans g
theorem Cn {a : Int} {l : List Int} (h : Bo (a :: l) = 0) : a = 0 := by
 rw [Bo] at h
 by_cases g : a = 0
 · exact g
 · rw [if_neg g] at h; exact h
theorem PM {a b : Int} {l : List Int} (h : Bo (a :: b :: l) = 0) : a = 0 ∧ b = 0 := by
 have h1 := Cn h
 rw [Bo, if_pos h1] at h
 exact ⟨h1, Cn h⟩
set_option maxHeartbeats 4000000 in
theorem d224 (hK : K.ok n0) (N : Nat) (l : List AS) (hl : l.length ≤ 1048576) (hr : ∀ r ∈ l, r.head.sized ∧ r.cells.length ≤ 1048576 ∧ ∀ c ∈ r.cells, c.head.sized ∧ Mx K n0 N c.flow) : TO K n0 N l := fun s pl H n hn hs => by
 refine ED Tryz.func224 rfl fun ho => ?_
 have D := hK.clo
 have hU : ∀ s', Fd (Az K.st s' H) n := fun s' => D.old s' hn ho
 have hUb : ∀ s' j y, Az K.st s' H j = some y → j < n := fun s' j y e => (hU s' j y e).1
 obtain ⟨T, hT⟩ : ∃ T, T = LX s (l.flatMap (KX N)) (l ≠ [] ∧ ∀ r ∈ l, okr K.m2 N r) := ⟨_, rfl⟩
 rw [← hT]
 have no : ∀ (e : Int) (s' : FT) (m : Nat), e ≠ 0 → CG n (Az K.st s' H) m (AA e) (CQ K T H n) := fun e s' m he => hK.ret hn ho e s' (by rw [hT]; exact fun g => absurd g he) AB
 refine Ae 1 [(0, .ptr K.p 0), (1, Ay l), (5, .iptr [.bool pl.body, .bool pl.note, AA pl.tables])] (Az K.st s H) n ?_ (fun m hm => ?_)
 · rw [Et s H hs]
   have hHb := ho.lt
   simp [go_sem, Fz.same, BT.enc]
   exact ⟨Ac (Af hHb (by omega)) (by simp [hset]), AL hHb AB⟩
 refine B5 0 [(0, .ptr K.p 0), (1, Ay l), (5, .iptr [.bool pl.body, .bool pl.note, AA pl.tables])] (Az K.st s H) (fun m => n ≤ m ∧ l ≠ []) (AH ?_) (fun m hm => ?_)
 · by_cases c : l = []
   · simp [go_sem, c]; exact no 11 _ _ (by decide)
   · simp [go_sem, c, Fz.same, hm]
 obtain ⟨hm, hne⟩ := hm
 refine Bs 0 [(0, .ptr K.p 0), (1, Ay l), (5, .iptr [.bool pl.body, .bool pl.note, AA pl.tables])] (Az K.st s H) n (AH ?_) (fun m hm => ?_)
 · by_cases c : (256 : Int) < l.length
   · simp [go_sem, c]; exact no 9 _ _ (by decide)
   · simp [go_sem, c, Fz.same, hm]
 refine AX 0 (α := FT) (fun _ => []) (fun q => Az K.st q H) (fun q m => n ≤ m ∧ more s q (l.flatMap (KX N)) ∧ ∀ r ∈ l, okr K.m2 N r) ?_ (fun q m hm => ?_)
 · refine Ae 0 [(0, .ptr K.p 0), (5, .iptr [.bool pl.body, .bool pl.note, AA pl.tables]), (21, Ay l), (22, AA l.length), (23, AA 0)] (Az K.st s H) n ?_ (fun m hm => ?_)
   · simp [go_sem, Fz.same, hm]
   refine Ab (Bf 0 (α := Nat × FT) (fun q => [(0, .ptr K.p 0), (5, .iptr [.bool pl.body, .bool pl.note, AA pl.tables]), (21, Ay l), (22, AA l.length), (23, AA q.1)]) (fun q => Az K.st q.2 H) (fun q m => q.1 ≤ l.length ∧ n ≤ m ∧ more s q.2 ((l.take q.1).flatMap (KX N)) ∧ ∀ r ∈ l.take q.1, okr K.m2 N r) (fun q => l.length - q.1) (0, s) ⟨Nat.zero_le _, hm, more.nil rfl, by simp⟩ ?_ AB ?_)
   · simp [go_sem, Ai, Fz.same]
   rintro ⟨i, s1⟩ m ⟨hi, hm, hmo, hok⟩
   dsimp only at hi hmo hok ⊢
   by_cases hlt : i < l.length
   · obtain ⟨x, hx⟩ : ∃ x, l[i] = x := ⟨_, rfl⟩
     have hxm : x ∈ l := by rw [← hx]; exact List.getElem_mem hlt
     obtain ⟨x1, x2, x3⟩ := hr x hxm
     have hgx : (l.map AS.enc)[i]? = some x.enc := by simp [hlt, hx]
     have w1 := wS i (by omega)
     have tk := HE (KX N) l i hlt
     rw [hx] at tk
     have tl : l.take (i + 1) = l.take i ++ [x] := by rw [List.take_succ_eq_append_getElem hlt, hx]
     refine Ae 0 [(0, .ptr K.p 0), (5, .iptr [.bool pl.body, .bool pl.note, AA pl.tables]), (21, Ay l), (22, AA l.length), (23, AA i), (24, .bool true)] (Az K.st s1 H) n ?_ (fun m hm => ?_)
     · simp [go_sem, Fz.same, hm, hlt]
     refine Ae 0 [(0, .ptr K.p 0), (5, .iptr [.bool pl.body, .bool pl.note, AA pl.tables]), (21, Ay l), (22, AA l.length), (23, AA i)] (Az K.st s1 H) n ?_ (fun m hm => ?_)
     · simp [go_sem, Fz.same, hm]
     refine AX 0 (α := FT) (fun _ => [(0, .ptr K.p 0), (5, .iptr [.bool pl.body, .bool pl.note, AA pl.tables]), (21, Ay l), (22, AA l.length), (23, AA i)]) (fun q => Az K.st q H) (fun q m => n ≤ m ∧ more s q ((l.take (i + 1)).flatMap (KX N)) ∧ okr K.m2 N x) ?_ (fun q m hm => ?_)
     · refine Ab ?_
       refine Ae 1 [(0, .ptr K.p 0), (5, .iptr [.bool pl.body, .bool pl.note, AA pl.tables]), (21, Ay l), (22, AA l.length), (23, AA i), (8, .iptr (x.head.flat ++ [Bt x.cells]))] (Az K.st s1 H) n ?_ (fun m hm => ?_)
       · simp [go_sem, Fz.same, hlt, hx, AS.enc_eq, AF.flat, AC]
         have hHm : ∀ j y, Az K.st s1 H j = some y → j < m := fun j y e => by have := hUb _ j y e; omega
         exact ⟨by omega, Ac (Af hHm (Nat.le_refl _)) (AC _ _ _), AL hHm (AL hHm AB)⟩
       have hd := d86 hK s1 9 x.head x1 (H := Az K.st s1 H) (n := m) (by omega) CL
       refine B5 0 [(0, .ptr K.p 0), (5, .iptr [.bool pl.body, .bool pl.note, AA pl.tables]), (21, Ay l), (22, AA l.length), (23, AA i), (8, .iptr (x.head.flat ++ [Bt x.cells]))] (Az K.st s1 H) (fun m => n ≤ m ∧ DJ K.m2 x.head ∧ x.cells ≠ []) ?_ (fun m hm => ?_)
       · refine AX 0 (α := Int × FT) (fun q => [(0, .ptr K.p 0), (5, .iptr [.bool pl.body, .bool pl.note, AA pl.tables]), (21, Ay l), (22, AA l.length), (23, AA i), (8, .iptr (x.head.flat ++ [Bt x.cells])), (9, AA q.1)]) (fun q => Az K.st q.2 H) (fun q m => n ≤ m ∧ (q.1 = 0 → q.2 = s1 ∧ DJ K.m2 x.head ∧ x.cells ≠ [])) (CK trW2 rfl (by kernel_rfl) (by kernel_rfl) ?_) (fun q m hm => ?_)
         · simp [go_sem, trW2, AF.flat]
           refine SC.use (by simpa [AF.enc, AF.flat] using hd) ?_
           rintro v H' n' ⟨e, s2, rfl, hT, rfl, rfl⟩
           rw [D.up2]
           simp [go_sem]
           refine (Iv _ _).use ?_
           simp [go_sem]
           refine (Iv _ _).use ?_
           simp [go_sem]
           have hea : (if x.cells = [] then (11 : Int) else 0) = 0 → x.cells ≠ [] := fun g => by intro c; rw [if_pos c] at g; cases g
           generalize (if x.cells = [] then (11 : Int) else 0) = ea at hea ⊢
           generalize (if 32 < (x.cells.length : Int) then (9 : Int) else 0) = eb
           refine Ag.fz (bs := [.imm 1 ([e, ea, eb].map AA) false]) (h2 := Az K.st s2 H) 1 (AL (fun j z e => by have := hUb s2 j z e; omega) AB) ⟨?_, trivial⟩ ?_
           · exact Dq (es := [AA e, AA ea, AA eb]) (Af (hUb s2) hm) (by simp) (by rw [AC]; simp [SV.cells]) (by simp [SV.storable, SV.cells])
           refine (Ox _ (by simp)).use ?_
           generalize hf : Bo [e, ea, eb] = ef
           simp [go_sem, Fz.same]
           exact ⟨ef, s2.1, s2.2, ⟨by omega, fun h0 => by obtain ⟨g1, g2⟩ := PM (by rw [hf]; exact h0); obtain ⟨t1, t2⟩ := hT g1; exact ⟨t1, t2, hea g2⟩⟩, Fz.same, AB⟩
         obtain ⟨e8, s8⟩ := q
         dsimp only at hm ⊢
         by_cases e80 : e8 = 0
         case neg => exact AH (by simp [go_sem, e80]; exact no e8 _ _ e80)
         obtain ⟨h81, hhd⟩ := hm.2 e80
         rw [e80, h81]
         exact AH (by simp [go_sem, Fz.same, hm.1, hhd])
       obtain ⟨hm, hhd⟩ := hm
       refine Ae 0 [(0, .ptr K.p 0), (5, .iptr [.bool pl.body, .bool pl.note, AA pl.tables]), (21, Ay l), (22, AA l.length), (23, AA i), (47, Bt x.cells), (48, AA x.cells.length), (49, AA 0)] (Az K.st s1 H) n ?_ (fun m hm => ?_)
       · simp [go_sem, Fz.same, AF.flat, hm]
       refine Ab (Bf 0 (α := Nat × FT) (fun q => [(0, .ptr K.p 0), (5, .iptr [.bool pl.body, .bool pl.note, AA pl.tables]), (21, Ay l), (22, AA l.length), (23, AA i), (47, Bt x.cells), (48, AA x.cells.length), (49, AA q.1)]) (fun q => Az K.st q.2 H) (fun q m => q.1 ≤ x.cells.length ∧ n ≤ m ∧ more s1 q.2 ((x.cells.take q.1).flatMap (Sm N)) ∧ ∀ c ∈ x.cells.take q.1, okcl K.m2 N c) (fun q => x.cells.length - q.1) (0, s1) ⟨Nat.zero_le _, hm, more.nil rfl, by simp⟩ ?_ AB ?_)
       · simp [go_sem, Ai, Fz.same]
       rintro ⟨j, s2⟩ m ⟨hj, hm, hmo2, hok2⟩
       dsimp only at hj hmo2 hok2 ⊢
       by_cases hjt : j < x.cells.length
       · obtain ⟨y, hy⟩ : ∃ y, x.cells[j] = y := ⟨_, rfl⟩
         have hym : y ∈ x.cells := by rw [← hy]; exact List.getElem_mem hjt
         obtain ⟨y1, y2⟩ := x3 y hym
         have w2 := wS j (by omega)
         have tk2 := HE (Sm N) x.cells j hjt
         rw [hy] at tk2
         have tl2 : x.cells.take (j + 1) = x.cells.take j ++ [y] := by rw [List.take_succ_eq_append_getElem hjt, hy]
         refine Ae 0 [(0, .ptr K.p 0), (5, .iptr [.bool pl.body, .bool pl.note, AA pl.tables]), (21, Ay l), (22, AA l.length), (23, AA i), (47, Bt x.cells), (48, AA x.cells.length), (49, AA j), (50, .bool true)] (Az K.st s2 H) n ?_ (fun m hm => ?_)
         · simp [go_sem, Fz.same, hm, hjt]
         refine Ae 0 [(0, .ptr K.p 0), (5, .iptr [.bool pl.body, .bool pl.note, AA pl.tables]), (21, Ay l), (22, AA l.length), (23, AA i), (47, Bt x.cells), (48, AA x.cells.length), (49, AA j)] (Az K.st s2 H) n ?_ (fun m hm => ?_)
         · simp [go_sem, Fz.same, hm]
         refine AX 0 (α := FT) (fun _ => [(0, .ptr K.p 0), (5, .iptr [.bool pl.body, .bool pl.note, AA pl.tables]), (21, Ay l), (22, AA l.length), (23, AA i), (47, Bt x.cells), (48, AA x.cells.length), (49, AA j)]) (fun q => Az K.st q H) (fun q m => n ≤ m ∧ more s2 q (Sm N y) ∧ okcl K.m2 N y) ?_ (fun q m hm => ?_)
         · refine Ab ?_
           refine Ae 1 [(0, .ptr K.p 0), (5, .iptr [.bool pl.body, .bool pl.note, AA pl.tables]), (21, Ay l), (22, AA l.length), (23, AA i), (47, Bt x.cells), (48, AA x.cells.length), (49, AA j), (11, .iptr ([AA y.id] ++ y.head.flat ++ [AG y.flow]))] (Az K.st s2 H) n ?_ (fun m hm => ?_)
           · simp [go_sem, Fz.same, hjt, hy, AK.enc_eq, AF.flat, AC]
             have hHm : ∀ j y, Az K.st s2 H j = some y → j < m := fun j y e => by have := hUb _ j y e; omega
             exact ⟨by omega, Ac (Af hHm (Nat.le_refl _)) (AC _ _ _), AL hHm (AL hHm AB)⟩
           refine AX 0 (α := FT) (fun _ => [(0, .ptr K.p 0), (5, .iptr [.bool pl.body, .bool pl.note, AA pl.tables]), (21, Ay l), (22, AA l.length), (23, AA i), (47, Bt x.cells), (48, AA x.cells.length), (49, AA j), (11, .iptr ([AA y.id] ++ y.head.flat ++ [AG y.flow]))]) (fun q => Az K.st q H) (fun q m => n ≤ m ∧ more s2 q [y.id]) (AH ?_) (fun q m hm => ?_)
           · simp [go_sem]
             refine SC.use (Tz hK s2 y.id (by omega) CL) ?_
             rintro v H' n' ⟨e, s3, rfl, hT, rfl, rfl⟩
             rw [D.up2]
             by_cases e0 : e = 0
             · obtain ⟨h1, h2, h3, h4⟩ := hT e0
               simp [go_sem, e0, Fz.same, AF.flat]
               refine ⟨s3.1, s3.2, ⟨by omega, ?_⟩, AB⟩
               exact more.one h1 ⟨h2, h3⟩ h4
             · simp [go_sem, e0]
               exact no e _ _ e0
           obtain ⟨hm, hq1⟩ := hm
           refine B5 0 [(0, .ptr K.p 0), (5, .iptr [.bool pl.body, .bool pl.note, AA pl.tables]), (21, Ay l), (22, AA l.length), (23, AA i), (47, Bt x.cells), (48, AA x.cells.length), (49, AA j), (11, .iptr ([AA y.id] ++ y.head.flat ++ [AG y.flow]))] (Az K.st q H) (fun m => n ≤ m ∧ DJ K.m2 y.head) (AH ?_) (fun m hm => ?_)
           · simp [go_sem, AF.flat]
             refine SC.use (by simpa [AF.enc, AF.flat] using d86 hK q 10 y.head y1 (H := Az K.st q H) (n := m) (by omega) CL) ?_
             rintro v H' n' ⟨e, s3, rfl, hT, rfl, rfl⟩
             rw [D.up2]
             by_cases e0 : e = 0
             · obtain ⟨h1, h2⟩ := hT e0
               simp [go_sem, e0, Fz.same, h1, h2]; omega
             · simp [go_sem, e0]
               exact no e _ _ e0
           obtain ⟨hm, hh2⟩ := hm
           refine AH ?_
           simp [go_sem, AF.flat]
           refine SC.use (by simpa [BT.enc] using y2 q pl (Az K.st q H) m (by omega) CL) ?_
           rintro v H' n' ⟨e, s3, rfl, hT, rfl, rfl⟩
           rw [D.up2]
           by_cases e0 : e = 0
           · obtain ⟨h1, h2⟩ := hT e0
             simp [go_sem, e0, Fz.same]
             refine ⟨s3.1, s3.2, ⟨by omega, ?_, hh2, h2⟩, AB⟩
             exact hq1.trans' h1 rfl
           · simp [go_sem, e0]
             exact no e _ _ e0
         · refine AH ?_
           simp [go_sem, w2, Fz.same, -Int.natCast_add]
           refine ⟨j + 1, by omega, q.1, q.2, ⟨by omega, hm.1, hmo2.trans' hm.2.1 tk2.symm, fun c hc => ?_⟩, rfl, AB⟩
           rw [tl2] at hc
           exact Dx hok2 hm.2.2 c hc
       · have : j = x.cells.length := by omega
         subst this
         rw [List.take_length] at hmo2 hok2
         refine AH ?_
         simp [go_sem, Fz.same]
         refine ⟨s2.1, s2.2, ⟨hm, ?_, hhd, hok2⟩, AB⟩
         exact hmo.trans' hmo2 (by rw [tk, Sn])
     · refine AH ?_
       simp [go_sem, w1, Fz.same, -Int.natCast_add]
       refine ⟨i + 1, by omega, q.1, q.2, ⟨by omega, hm.1, hm.2.1, fun r hr => ?_⟩, rfl, AB⟩
       rw [tl] at hr
       exact Dx hok hm.2.2 r hr
   · have : i = l.length := by omega
     subst this
     rw [List.take_length] at hmo hok
     refine AH ?_
     simp [go_sem]
     exact ⟨s1.1, s1.2, ⟨hm, hmo, hok⟩, AB⟩
 · refine AH ?_
   simp [go_sem]
   exact hK.ret hn ho 0 q (by rw [hT]; exact fun _ => ⟨hm.2.1, hne, hm.2.2⟩) AB
end
theorem PA {K : Ck} {n0 : Nat} (hK : K.ok n0) {B : Nat} (hB : B ≤ 1048576) : ∀ (N : Nat) (l : List AE), EZ AF.sized B N l → Mx K n0 N l
 | 0, _, h => h.elim
 | N + 1, l, h => by
  have hs := h.sized (fun _ e => e) hB
  obtain ⟨_, _, h3⟩ := Dl.1 h
  refine d88 hK N l hs.1 fun x hx => ?_
  obtain ⟨a1, a2, a3, a4⟩ := h3 x hx
  refine d161 hK N x (AE.sizedL_mem hs.2 x hx) (PA hK hB N x.flow a2) (d224 hK N x.rows (by omega) fun r hr => ?_)
  obtain ⟨b1, b2, b3⟩ := a4 r hr
  exact ⟨b1, by omega, fun c hc => ⟨(b3 c hc).1, PA hK hB N c.flow (b3 c hc).2⟩⟩
theorem Qh (l : List (Int × Int)) (j : Nat) (x v : Int) : ∃ l', Fc (GG l) j (AA x) (AA v) = GG l' := by
 unfold Fc GG
 exact ⟨l.modify j fun _ => (x, v), by apply List.ext_getElem?; intro i; simp only [List.getElem?_modify, List.getElem?_map]; by_cases e : j = i <;> cases l[i]? <;> simp [e]⟩
def hb (h : Hp) (n : Nat) (a0 : List (Int × Int)) (a1 a2 : List Int) : Hp :=
 hset (hset (hset (hset (hset (hset h (n + 1) (some (.map (GG a0)))) (n + 2) (some (.map (EI a1)))) (n + 3) (some (.map (EI a2)))) (n + 4) (some (.map []))) (n + 5) (some (.map []))) (n + 6) (some (.cells [.map (n + 1), .map (n + 2), .map (n + 3), .map (n + 4), .map (n + 5), AA 0]))
section
variable {h : Hp} {n : Nat} {a0 : List (Int × Int)} {a1 a2 : List Int}
theorem T5 : hb h n a0 a1 a2 (n + 6) = some (.cells [.map (n + 1), .map (n + 2), .map (n + 3), .map (n + 4), .map (n + 5), AA 0]) := by simp [hb, hset]
theorem T4 : hb h n a0 a1 a2 (n + 1) = some (.map (GG a0)) := by simp [hb, hset]
theorem IB : hb h n a0 a1 a2 (n + 2) = some (.map (EI a1)) := by simp [hb, hset]
theorem RZ : hb h n a0 a1 a2 (n + 3) = some (.map (EI a2)) := by simp [hb, hset]
theorem hb4 : hb h n a0 a1 a2 (n + 4) = some (.map []) := by simp [hb, hset]
theorem hb5 : hb h n a0 a1 a2 (n + 5) = some (.map []) := by simp [hb, hset]
theorem hb1s (b : List (Int × Int)) : hset (hb h n a0 a1 a2) (n + 1) (some (.map (GG b))) = hb h n b a1 a2 := by funext j; simp only [hb, hset]; grind
theorem hb2s (b : List Int) : hset (hb h n a0 a1 a2) (n + 2) (some (.map (EI b))) = hb h n a0 b a2 := by funext j; simp only [hb, hset]; grind
theorem hb3s (b : List Int) : hset (hb h n a0 a1 a2) (n + 3) (some (.map (EI b))) = hb h n a0 a1 b := by funext j; simp only [hb, hset]; grind
theorem P3 (ho : ∀ j y, h j = some y → j < n) : ∀ j y, hb h n a0 a1 a2 j = some y → j < n + 7 := fun j y e => by
 have := ho j y; simp only [hb, hset] at e; grind
theorem T6 (ho : ∀ j y, h j = some y → j < n) : ∀ j y, h j = some y → hb h n a0 a1 a2 j = some y := fun j y e => by
 have := ho j y; simp only [hb, hset]; grind
end
def newQ (d : AI) (h : Hp) (n : Nat) : SV → Hp → Nat → Prop := fun v h' n' => ∃ K : Ck, K.ok n' ∧ n ≤ n' ∧ v = .ptr K.p 0 ∧ (∀ o y, K.st ([], 0) o = some y → h' o = some y) ∧ K.m2 = BU [] (d.revs.map (·.id)) ∧ (∀ j y, h j = some y → h' j = some y) ∧ ∀ o y, K.st ([], 0) o = some y → n ≤ o
set_option maxHeartbeats 2000000 in
theorem d85 (d : AI) (h1 : d.settings.styles.length ≤ 1048576) (h2 : d.settings.lists.length ≤ 1048576) (h3 : d.revs.length ≤ 1048576) {h : Hp} {n : Nat} : BO Tryz.prog 85 [d.enc] h n (newQ d h n) := by
 refine ED Tryz.func85 rfl fun ho => ?_
 have hHb := ho.lt
 obtain ⟨X, hX⟩ : ∃ X : SV, X = .iptr ([AG d.flow] ++ d.«end».flat ++ [A3 d.revs] ++ d.settings.flat) := ⟨_, rfl⟩
 refine Bn 1 [(1, X)] h (fun m => n + 1 = m) ?_ (fun m hm => ?_)
 · rw [hX]
   simp [go_sem, AI.enc, AF.flat, AM.flat]
   exact ⟨Ac (Af hHb (Nat.le_refl _)) (AC _ _ _), AL hHb AB⟩
 subst hm
 refine Bn 0 [(1, X), (3, .ptr (n + 6) 0)] (hb h n [] [] []) (fun m => n + 7 = m) ?_ (fun m hm => ?_)
 · simp [go_sem, Fz.same, Nat.add_assoc, hb, GG, EI]
 subst hm
 refine AX 0 (α := List (Int × Int)) (fun _ => [(1, X), (3, .ptr (n + 6) 0)]) (fun a => hb h n a [] []) (fun _ m => n + 7 ≤ m) ?_ (fun a0 m hm => ?_)
 · refine Bn 0 [(1, X), (3, .ptr (n + 6) 0), (19, AT d.settings.styles), (20, AA d.settings.styles.length), (21, AA 0)] (hb h n [] [] []) (fun m => n + 7 ≤ m) ?_ (fun m hm => ?_)
   · rw [hX]; simp [go_sem, Fz.same, AF.flat, AM.flat]
   refine Ab (Bf 0 (α := Nat × List (Int × Int)) (fun q => [(1, X), (3, .ptr (n + 6) 0), (19, AT d.settings.styles), (20, AA d.settings.styles.length), (21, AA q.1)]) (fun q => hb h n q.2 [] []) (fun q m => q.1 ≤ d.settings.styles.length ∧ n + 7 ≤ m) (fun q => d.settings.styles.length - q.1) (0, []) ⟨Nat.zero_le _, hm⟩ ?_ AB ?_)
   · simp [go_sem, Ai, Fz.same]
   rintro ⟨i, a⟩ m ⟨hi, hm⟩
   dsimp only at hi ⊢
   have hlt7 : ∀ j y, hb h n a [] [] j = some y → j < m := fun j y e => by have := P3 (h := h) (n := n) (fun j y e => hHb j y e) j y e; omega
   refine AH ?_
   by_cases hlt : i < d.settings.styles.length
   · obtain ⟨x, hx⟩ : ∃ x, d.settings.styles[i] = x := ⟨_, rfl⟩
     have w1 := wS i (by omega)
     have e6 : n + 6 ≠ m := by omega
     have e1 : n + 1 ≠ m := by omega
     have fin : ∀ b z y, ∃ a', ∀ j w, hb h n a' [] [] j = some w → hset (hset (hset (hb h n a [] []) m y) m z) (n + 1) (some (.map (GG b))) j = some w := fun b z y => ⟨b, fun j w e => by
      have := P3 (h := h) (n := n) (fun j y e => hHb j y e) j w e
      rw [← hb1s (a0 := a)] at e
      simp only [hset] at e ⊢
      split at e
      · rename_i c; rw [if_pos c]; exact e
      · rename_i c; rw [if_neg c, if_neg (by omega), if_neg (by omega)]; exact e⟩
     rcases H8 x.id a 0 with f | ⟨j, v, f⟩
     · have hpush : GG a ++ [(AA x.id, AA x.kind)] = GG (a ++ [(x.id, x.kind)]) := by simp [GG]
       simp [go_sem, hlt, hx, A6.enc, AC, AD, e6, e1, T5, T4, f, CD, hpush, w1, -Int.natCast_add]
       repeat first | refine nq ?_ | refine sq ?_ | refine aq ?_
       obtain ⟨a2, ha2⟩ := fin (a ++ [(x.id, x.kind)]) _ _
       exact ⟨i + 1, by omega, ⟨by omega, by omega⟩, a2, rfl, ha2⟩
     · obtain ⟨a', ha'⟩ := Qh a j x.id x.kind
       simp only [Fc] at ha'
       simp [go_sem, hlt, hx, A6.enc, AC, AD, e6, e1, T5, T4, f, CD, ha', w1, -Int.natCast_add]
       repeat first | refine nq ?_ | refine sq ?_ | refine aq ?_
       obtain ⟨a2, ha2⟩ := fin a' _ _
       exact ⟨i + 1, by omega, ⟨by omega, by omega⟩, a2, rfl, ha2⟩
   · simp [go_sem, hlt, Fz.same]
     exact ⟨by omega, a, AB⟩
 refine AX 0 (α := List Int) (fun _ => [(1, X), (3, .ptr (n + 6) 0)]) (fun a => hb h n a0 a []) (fun a m => n + 7 ≤ m) ?_ (fun a1 m hm => ?_)
 · refine Bn 0 [(1, X), (3, .ptr (n + 6) 0), (36, Dc d.settings.lists), (37, AA d.settings.lists.length), (38, AA 0)] (hb h n a0 [] []) (fun m => n + 7 ≤ m) ?_ (fun m hm => ?_)
   · rw [hX]; simp [go_sem, Fz.same, AF.flat, AM.flat, hm]
   refine Ab (Bf 0 (α := Nat × List Int) (fun q => [(1, X), (3, .ptr (n + 6) 0), (36, Dc d.settings.lists), (37, AA d.settings.lists.length), (38, AA q.1)]) (fun q => hb h n a0 q.2 []) (fun q m => q.1 ≤ d.settings.lists.length ∧ n + 7 ≤ m ∧ q.2 = BU [] ((d.settings.lists.take q.1).map (·.id))) (fun q => d.settings.lists.length - q.1) (0, []) ⟨Nat.zero_le _, hm, by simp [BU]⟩ ?_ AB ?_)
   · simp [go_sem, Ai, Fz.same]
   rintro ⟨i, a⟩ m ⟨hi, hm, ha⟩
   dsimp only at hi ha ⊢
   refine AH ?_
   by_cases hlt : i < d.settings.lists.length
   · obtain ⟨x, hx⟩ : ∃ x, d.settings.lists[i] = x := ⟨_, rfl⟩
     have w1 := wS i (by omega)
     have e6 : n + 6 ≠ m := by omega
     have e1 : n + 2 ≠ m := by omega
     have hnext : BU [] ((d.settings.lists.take (i + 1)).map (·.id)) = Eh a x.id := by rw [List.take_succ_eq_append_getElem hlt, hx, List.map_append, Bv, ← ha]; rfl
     have fin : ∀ b z y, ∀ j w, hb h n a0 b [] j = some w → hset (hset (hset (hb h n a0 a []) m y) m z) (n + 2) (some (.map (EI b))) j = some w := fun b z y j w e => by
      have := P3 (h := h) (n := n) (fun j y e => hHb j y e) j w e
      rw [← hb2s (a1 := a)] at e
      simp only [hset] at e ⊢
      split at e
      · rename_i c; rw [if_pos c]; exact e
      · rename_i c; rw [if_neg c, if_neg (by omega), if_neg (by omega)]; exact e
     by_cases hm2 : x.id ∈ a
     · obtain ⟨j, f, hj⟩ := Cw 0 hm2
       have hss := Im hj
       simp only [Fc] at hss
       rw [Nat.zero_add] at f
       simp [go_sem, hlt, hx, GY.enc, AC, AD, e6, e1, T5, IB, f, CD, hss, w1, -Int.natCast_add]
       repeat first | refine nq ?_ | refine sq ?_ | refine aq ?_
       refine ⟨i + 1, by omega, a, ⟨by omega, by omega, ?_⟩, rfl, fin a _ _⟩
       rw [List.map_take] at hnext; rw [hnext, Eh, if_pos hm2]
     · have f := Da 0 hm2
       have hpush := LR a x.id
       simp [go_sem, hlt, hx, GY.enc, AC, AD, e6, e1, T5, IB, f, CD, hpush, w1, -Int.natCast_add]
       repeat first | refine nq ?_ | refine sq ?_ | refine aq ?_
       refine ⟨i + 1, by omega, a ++ [x.id], ⟨by omega, by omega, ?_⟩, rfl, fin _ _ _⟩
       rw [List.map_take] at hnext; rw [hnext, Eh, if_neg hm2]
   · have : i = d.settings.lists.length := by omega
     subst this
     rw [List.take_length] at ha
     simp [go_sem, Fz.same]
     exact ⟨by omega, a, AB⟩
 refine AX 0 (α := List Int) (fun _ => [(1, X), (3, .ptr (n + 6) 0)]) (fun a => hb h n a0 a1 a) (fun a m => n + 7 ≤ m ∧ a = BU [] (d.revs.map (·.id))) ?_ (fun a2 m hm => ?_)
 · refine Bn 0 [(1, X), (3, .ptr (n + 6) 0), (50, A3 d.revs), (51, AA d.revs.length), (52, AA 0)] (hb h n a0 a1 []) (fun m => n + 7 ≤ m) ?_ (fun m hm => ?_)
   · rw [hX]; simp [go_sem, Fz.same, AF.flat, AM.flat, hm]
   refine Ab (Bf 0 (α := Nat × List Int) (fun q => [(1, X), (3, .ptr (n + 6) 0), (50, A3 d.revs), (51, AA d.revs.length), (52, AA q.1)]) (fun q => hb h n a0 a1 q.2) (fun q m => q.1 ≤ d.revs.length ∧ n + 7 ≤ m ∧ q.2 = BU [] ((d.revs.take q.1).map (·.id))) (fun q => d.revs.length - q.1) (0, []) ⟨Nat.zero_le _, hm, by simp [BU]⟩ ?_ AB ?_)
   · simp [go_sem, Ai, Fz.same]
   rintro ⟨i, a⟩ m ⟨hi, hm, ha⟩
   dsimp only at hi ha ⊢
   refine AH ?_
   by_cases hlt : i < d.revs.length
   · obtain ⟨x, hx⟩ : ∃ x, d.revs[i] = x := ⟨_, rfl⟩
     have w1 := wS i (by omega)
     have e6 : n + 6 ≠ m := by omega
     have e1 : n + 3 ≠ m := by omega
     have hnext : BU [] ((d.revs.take (i + 1)).map (·.id)) = Eh a x.id := by rw [List.take_succ_eq_append_getElem hlt, hx, List.map_append, Bv, ← ha]; rfl
     have fin : ∀ b z y, ∀ j w, hb h n a0 a1 b j = some w → hset (hset (hset (hb h n a0 a1 a) m y) m z) (n + 3) (some (.map (EI b))) j = some w := fun b z y j w e => by
      have := P3 (h := h) (n := n) (fun j y e => hHb j y e) j w e
      rw [← hb3s (a2 := a)] at e
      simp only [hset] at e ⊢
      split at e
      · rename_i c; rw [if_pos c]; exact e
      · rename_i c; rw [if_neg c, if_neg (by omega), if_neg (by omega)]; exact e
     by_cases hm2 : x.id ∈ a
     · obtain ⟨j, f, hj⟩ := Cw 0 hm2
       have hss := Im hj
       simp only [Fc] at hss
       rw [Nat.zero_add] at f
       simp [go_sem, hlt, hx, BF.enc, AC, AD, e6, e1, T5, RZ, f, CD, hss, w1, -Int.natCast_add]
       repeat first | refine nq ?_ | refine sq ?_ | refine aq ?_
       refine ⟨i + 1, by omega, a, ⟨by omega, by omega, ?_⟩, rfl, fin a _ _⟩
       rw [List.map_take] at hnext; rw [hnext, Eh, if_pos hm2]
     · have f := Da 0 hm2
       have hpush := LR a x.id
       simp [go_sem, hlt, hx, BF.enc, AC, AD, e6, e1, T5, RZ, f, CD, hpush, w1, -Int.natCast_add]
       repeat first | refine nq ?_ | refine sq ?_ | refine aq ?_
       refine ⟨i + 1, by omega, a ++ [x.id], ⟨by omega, by omega, ?_⟩, rfl, fin _ _ _⟩
       rw [List.map_take] at hnext; rw [hnext, Eh, if_neg hm2]
   · have : i = d.revs.length := by omega
     subst this
     rw [List.take_length] at ha
     simp [go_sem, Fz.same]
     exact ⟨a, ⟨by omega, ha⟩, AB⟩
 refine AH ?_
 simp [go_sem]
 refine .inl ⟨⟨n + 6, n + 1, n + 2, n + 3, n + 4, n + 5, a0, a1, a2⟩, ⟨by simp, by simp; omega⟩, by omega, rfl, fun o y e => ?_, hm.2, T6 hHb, fun o y e => ?_⟩
 · simp only [Ck.st, Ck.cells, EI] at e
   by_cases c6 : o = n + 6
   · subst c6; simp at e; rw [T5]; exact congrArg some e
   · by_cases c4 : o = n + 4
     · subst c4; simp at e; rw [hb4]; exact congrArg some e
     · by_cases c1 : o = n + 1
       · subst c1; simp at e; rw [T4]; exact congrArg some e
       · by_cases c2 : o = n + 2
         · subst c2; simp at e; rw [IB]; exact congrArg some e
         · by_cases c3 : o = n + 3
           · subst c3; simp at e; rw [RZ]; exact congrArg some e
           · by_cases c5 : o = n + 5
             · subst c5; simp at e; rw [hb5]; exact congrArg some e
             · rw [if_neg c6, if_neg c4, if_neg c1, if_neg c2, if_neg c3, if_neg c5] at e; cases e
 · simp only [Ck.st] at e
   by_cases c : n ≤ o
   · exact c
   · rw [if_neg (by omega), if_neg (by omega), if_neg (by omega), if_neg (by omega), if_neg (by omega), if_neg (by omega)] at e; cases e
def trK1 : Tr := .pure 0 <| .pure 1 <| .pure 3 <| .pure 4 <| .one 2 <| .one 5 <| .one 6 <| .one 7 <| .one 8 .nil
def TG : Tr := .pure 0 <| .pure 1 <| .pure 2 <| .pure 4 <| .pure 5 <| .pure 6 <| .one 3 <| .one 7 <| .one 8 <| .one 9 <| .one 10 <| .one 11 <| .one 12 <| .one 13 <| .one 14 <| .one 15 <| .one 16 <| .one 17 <| .one 18 <| .one 19 <| .one 20 <| .one 21 .nil
structure JK (N : Nat) (d : AI) : Prop where
 flow : Oy (BU [] (d.revs.map (·.id))) N d.flow
 ids : ∀ i ∈ FK N d.flow, 1 ≤ i ∧ i ≤ 1073741824
 nodup : (FK N d.flow).Nodup
 revs : DT d.revs = 0
 «end» : DJ (BU [] (d.revs.map (·.id))) d.«end»
set_option maxHeartbeats 2000000 in
theorem t24 (d : AI) {B N : Nat} (hB : B ≤ 1048576) (hl : EZ AF.sized B N d.flow) (he : d.«end».sized) (h1 : d.settings.styles.length ≤ 1048576) (h2 : d.settings.lists.length ≤ 1048576) (h3 : d.revs.length ≤ 1048576) (h4 : ∀ r ∈ d.revs, r.author.size ≤ 1048576)
 (h83 : TC 83 [d.settings.enc] fun v => ∃ e, v = AA e) : TC 24 [d.enc] (Np (JK N d)) := by
 intro h n
 refine ED Tryz.func24 rfl fun ho => ?_
 have hHb := ho.lt
 obtain ⟨X, hX⟩ : ∃ X : SV, X = .iptr ([AG d.flow] ++ d.«end».flat ++ [A3 d.revs] ++ d.settings.flat) := ⟨_, rfl⟩
 obtain ⟨T, hT⟩ : ∃ T : Prop, T = JK N d := ⟨_, rfl⟩
 rw [← hT]
 have no : ∀ (e : Int) (H2 : Hp) (m : Nat), e ≠ 0 → (∀ j y, h j = some y → H2 j = some y) → CG n H2 m (AA e) (fun v h' n' => Np T v ∧ h' = h ∧ n' = n) := fun e H2 m he hh => GB ho hh (by simp [closed]) (Np.no he)
 refine Ae 1 [(1, X)] h n ?_ (fun m hm => ?_)
 · rw [hX]
   simp [go_sem, AI.enc, AF.flat, AM.flat]
   exact ⟨Ac (Af hHb (Nat.le_refl _)) (AC _ _ _), AL hHb AB⟩
 refine B5 0 [(1, X)] h (fun m => n ≤ m ∧ DT d.revs = 0) ?_ (fun m hm => ?_)
 · refine AX 0 (α := Int) (fun e => [(1, X), (3, AA e)]) (fun _ => h) (fun e m => n ≤ m ∧ (e = 0 → DT d.revs = 0)) (CK trK1 rfl (by kernel_rfl) (by kernel_rfl) ?_) (fun e m hm => ?_)
   · have hHm : ∀ j y, h j = some y → j < m := fun j y e => by have := hHb j y e; omega
     rw [hX]
     simp [go_sem, trK1, AF.flat, AM.flat]
     refine TC.use (by simpa [AM.enc, AM.flat] using h83) ?_
     rintro v ⟨e, rfl⟩
     simp [go_sem]
     refine (c84 d.revs h3 h4).use ?_
     simp [go_sem]
     refine Ag.fz (bs := [.imm 1 ([e, DT d.revs].map AA) false]) (h2 := h) 1 (AL hHm AB) ⟨?_, trivial⟩ ?_
     · exact Dq (es := [AA e, AA (DT d.revs)]) (Af hHm (Nat.le_refl _)) (by simp) (by rw [AC]; simp [SV.cells]) (by simp [SV.storable, SV.cells])
     refine (Ox _ (by simp)).use ?_
     generalize hf : Bo [e, DT d.revs] = ef
     simp [go_sem, Fz.same]
     refine ⟨ef, ⟨by omega, fun h0 => ?_⟩, Fz.same⟩
     rw [h0, Bo] at hf
     split at hf
     · exact Cn hf
     · rename_i c; exact absurd hf c
   by_cases e0 : e = 0
   case neg => exact AH (by simp [go_sem, e0]; exact no e _ _ e0 AB)
   have hrv := hm.2 e0
   rw [e0]
   exact AH (by simp [go_sem, Fz.same, hm.1, hrv])
 obtain ⟨hm, hrv⟩ := hm
 refine BM 0 (α := Ck) (fun q => [(1, X), (4, .ptr q.p 0)]) (fun q => Az q.st ([], 0) h) (fun q m => n ≤ m ∧ q.ok m ∧ q.m2 = BU [] (d.revs.map (·.id)) ∧ ∀ o y, q.st ([], 0) o = some y → n ≤ o) ?_ (fun K n1 hq => ?_)
 · rw [hX]
   simp [go_sem, AF.flat, AM.flat]
   refine SC.use (by simpa [AI.enc, AF.flat, AM.flat] using d85 d h1 h2 h3 (h := h) (n := m)) ?_
   rintro v H' n' ⟨K, a1, a2, rfl, a4, a5, a6, a7⟩
   simp [go_sem, Fz.same]
   refine ⟨K, ⟨by omega, a1, a5, fun o y e => by have := a7 o y e; omega⟩, Fz.same, fun o y e => ?_⟩
   simp only [Az] at e
   cases c : K.st ([], 0) o with
   | some z => rw [c] at e; cases e; exact a4 o y c
   | none => rw [c] at e; exact a6 o y e
 obtain ⟨hn1, hK, hm2, hlo⟩ := hq
 have D := hK.clo
 have hlos : ∀ s' o y, K.st s' o = some y → n ≤ o := fun s' o y e => by
  cases c : K.st ([], 0) o with
  | some z => exact hlo o z c
  | none => rw [D.dom ([], 0) s' o c] at e; cases e
 have hold : ∀ s', ∀ j y, h j = some y → Az K.st s' h j = some y := fun s' j y e => by
  simp only [Az]
  cases c : K.st s' j with
  | some z => have := hlos s' j z c; have := hHb j y e; omega
  | none => exact e
 have hUb : ∀ s' j y, Az K.st s' h j = some y → j < n1 := fun s' j y e => (D.old s' (Nat.le_refl _) (fun j y e => ⟨by have := hHb j y e; omega, Gw hn1 (ho j y e).2⟩) j y e).1
 have hps : ∀ s', Az K.st s' h K.p = some (.cells [.map K.s0, .map K.s1, .map K.s2, .map K.s3, .map K.s4, AA s'.2]) := fun s' => (hK.has (s := s') CL).p
 refine Ae 1 [(1, X), (4, .ptr K.p 0), (5, .iptr [AA d.«end».ins, AA d.«end».move, Ao d.«end».dels, AV d.«end».layers])] (Az K.st ([], 0) h) n1 ?_ (fun m hm => ?_)
 · rw [hX]
   simp [go_sem, Fz.same, AF.flat, AM.flat, AC]
   exact ⟨Ac (Af (hUb _) (Nat.le_refl _)) (AC _ _ _), AL (hUb _) (AL (hUb _) AB)⟩
 refine B5 0 [(1, X), (4, .ptr K.p 0)] (Az K.st ([], 0) h) (fun m => n1 ≤ m ∧ DJ K.m2 d.«end») ?_ (fun m hm => ?_)
 · have hd := d86 hK ([], 0) 3 d.«end» he (H := Az K.st ([], 0) h) (n := m) hm CL
   refine AX 0 (α := Int × FT) (fun q => [(1, X), (4, .ptr K.p 0), (6, AA q.1)]) (fun q => Az K.st q.2 h) (fun q m => n1 ≤ m ∧ (q.1 = 0 → q.2 = ([], 0) ∧ DJ K.m2 d.«end»)) (CK TG rfl (by kernel_rfl) (by kernel_rfl) ?_) (fun q m hm => ?_)
   · rw [hX]
     have fin : ∀ (e ea : Int) (s2 : FT) (m1 : Nat) (KK : SV → Hp → Nat → Prop), n1 ≤ m1 → KK (AA (Bo [e, ea])) (Az K.st s2 h) (m1 + 1) → Ag (Bl.plain.call false 0) Tryz.prog 82 [.sl m1 0 1 2 true] (hset (Az K.st s2 h) m1 (some (.cells [AA e, AA ea]))) (m1 + 1) KK := fun e ea s2 m1 KK hm1 hk => by
      refine Ag.fz (bs := [.imm 1 ([e, ea].map AA) false]) (h2 := Az K.st s2 h) 1 (AL (fun j z e => by have := hUb s2 j z e; omega) AB) ⟨?_, trivial⟩ ?_
      · exact Dq (es := [AA e, AA ea]) (Af (hUb s2) hm1) (by simp) (by rw [AC]; simp [SV.cells]) (by simp [SV.storable, SV.cells])
      exact (Ox _ (by simp)).use hk
     have hd' : ∀ KK : SV → Hp → Nat → Prop, (∀ e s2, (e = 0 → s2 = ([], 0) ∧ DJ K.m2 d.«end») → KK (AA e) (Az K.st s2 h) m) → Ag (Bl.plain.call false 0) Tryz.prog 86 [.ptr K.p 0, AA 3, .agg [Ah d.«end».props, AA d.«end».ins, AA d.«end».move, Ao d.«end».dels, AV d.«end».layers]] (Az K.st ([], 0) h) m KK := fun KK hk => by
      refine SC.use (by simpa [AF.enc, AF.flat] using hd) ?_
      rintro v H' n' ⟨e, s2, rfl, hT2, rfl, rfl⟩
      rw [D.up2]
      exact hk e s2 hT2
     clear hd
     generalize hin : d.«end».ins = ins at hd' ⊢
     generalize hmv : d.«end».move = mv at hd' ⊢
     by_cases i0 : ins = 0
     · subst i0
       by_cases m0 : mv = 0
       · subst m0
         simp [go_sem, TG, AF.flat, hin, hmv]
         refine hd' _ fun e s2 hT2 => ?_
         simp [go_sem]
         refine (Iv _ _).use ?_
         simp [go_sem]
         refine fin _ _ _ _ _ hm ?_
         generalize hf : Bo [e, _] = ef
         simp [go_sem, Fz.same]
         exact ⟨ef, s2.1, s2.2, ⟨by omega, fun h0 => by have := hT2 (Cn (by rw [hf]; exact h0)); rw [this.1]; exact ⟨⟨rfl, rfl⟩, this.2⟩⟩, Fz.same, AB⟩
       · simp [go_sem, TG, AF.flat, hin, hmv]
         refine hd' _ fun e s2 hT2 => ?_
         simp [go_sem, m0]
         refine (Iv _ _).use ?_
         simp [go_sem]
         refine fin _ _ _ _ _ hm ?_
         generalize hf : Bo [e, _] = ef
         simp [go_sem, Fz.same]
         exact ⟨ef, s2.1, s2.2, ⟨by omega, fun h0 => by have := hT2 (Cn (by rw [hf]; exact h0)); rw [this.1]; exact ⟨⟨rfl, rfl⟩, this.2⟩⟩, Fz.same, AB⟩
     · simp [go_sem, TG, AF.flat, hin, hmv]
       refine hd' _ fun e s2 hT2 => ?_
       simp [go_sem, i0]
       refine (Iv _ _).use ?_
       simp [go_sem]
       refine fin _ _ _ _ _ hm ?_
       generalize hf : Bo [e, _] = ef
       simp [go_sem, Fz.same]
       exact ⟨ef, s2.1, s2.2, ⟨by omega, fun h0 => by have := hT2 (Cn (by rw [hf]; exact h0)); rw [this.1]; exact ⟨⟨rfl, rfl⟩, this.2⟩⟩, Fz.same, AB⟩
   obtain ⟨e8, s8⟩ := q
   dsimp only at hm ⊢
   by_cases e80 : e8 = 0
   case neg => exact AH (by simp [go_sem, e80]; exact no e8 _ _ e80 (hold _))
   obtain ⟨h81, hhd⟩ := hm.2 e80
   rw [e80, h81]
   exact AH (by simp [go_sem, Fz.same, hm.1, hhd])
 obtain ⟨hm, hhd⟩ := hm
 refine AX 0 (α := FT) (fun _ => [(4, .ptr K.p 0)]) (fun q => Az K.st q h) (fun q m => n1 ≤ m ∧ more ([], 0) q (FK N d.flow) ∧ Oy K.m2 N d.flow) (AH ?_) (fun q m hm => ?_)
 · rw [hX]
   simp [go_sem, AF.flat, AM.flat]
   refine SC.use (by simpa [BT.enc] using PA hK hB N d.flow hl ([], 0) ⟨true, false, 0⟩ (Az K.st ([], 0) h) m hm CL) ?_
   rintro v H' n' ⟨e, s2, rfl, hT2, rfl, rfl⟩
   rw [D.up2]
   by_cases e0 : e = 0
   · obtain ⟨b1, b2⟩ := hT2 e0
     simp [go_sem, e0, Fz.same]
     exact ⟨s2.1, s2.2, ⟨hm, b1, b2⟩, AB⟩
   · simp [go_sem, e0]
     exact no e _ _ e0 (hold _)
 refine AH ?_
 simp [go_sem, hps]
 refine (Iv _ _).use ?_
 simp [go_sem]
 refine GB ho (hold _) (by simp [closed]) (Np.ok ?_)
 rw [hT]
 rw [hm2] at hm hhd
 exact ⟨hm.2.2, hm.2.1.2.1, by have := hm.2.1.2.2 List.nodup_nil; rw [hm.2.1.1] at this; simpa using this, hrv, hhd⟩
def Lz : Nat → List AE → Prop
 | 0, _ => False
 | N + 1, l => l.length ≤ 150 ∧ ∀ x ∈ l, (x.text.size ≤ 1000 ∧ x.rows.length ≤ 20) ∧ Lz N x.flow ∧ ∀ r ∈ x.rows, r.cells.length ≤ 20 ∧ ∀ c ∈ r.cells, Lz N c.flow
def T3 (N : Nat) (x : AE) : Prop := (x.text.size ≤ 1000 ∧ x.rows.length ≤ 20) ∧ Lz N x.flow ∧ ∀ r ∈ x.rows, r.cells.length ≤ 20 ∧ ∀ c ∈ r.cells, Lz N c.flow
def Tx (N : Nat) (l : List AE) (c0 : Int) (p : Nat) (H : Hp) (n : Nat) : SV → Hp → Nat → Prop := fun v h' n' => ∃ b c, v = .bool b ∧ h' = hset H p (some (.cells [AA c])) ∧ n' = n ∧ (b = true → 0 ≤ c0 ∧ c0 ≤ 150 → 0 ≤ c ∧ c ≤ c0 ∧ Lz N l)
def SS (N : Nat) (l : List AE) : Prop := ∀ (dp : Int) (p : Nat) (c0 : Int) (H : Hp) (n : Nat), H p = some (.cells [AA c0]) → BO Tryz.prog 33 [AG l, AA dp, .ptr p 0] H n (Tx N l c0 p H n)
theorem Lp {α : Type} {p : α → Prop} {l : List α} {i : Nat} (hi : i < l.length) {x : α} (hx : l[i] = x) (h : ∀ y ∈ l.take i, p y) (h2 : p x) : ∀ y ∈ l.take (i + 1), p y := fun y hy => by
 rw [List.take_succ_eq_append_getElem hi, hx] at hy
 rcases List.mem_append.1 hy with hy | hy
 · exact h y hy
 · rw [List.mem_singleton.1 hy]; exact h2
set_option maxHeartbeats 4000000 in
theorem d33 (N : Nat) (l : List AE) (hl : l.length ≤ 1048576) (hr : ∀ x ∈ l, x.head.props.length ≤ 1048576 ∧ SS N x.flow ∧ x.rows.length ≤ 1048576 ∧ ∀ r ∈ x.rows, r.cells.length ≤ 1048576 ∧ ∀ c ∈ r.cells, SS N c.flow) : SS (N + 1) l := fun dp p c0 H n hp => by
 refine ED Tryz.func33 rfl fun ho => ?_
 have hpn : p < n := (ho p _ hp).1
 obtain ⟨B, hB⟩ : ∃ B : Int → Hp, ∀ c, B c = hset H p (some (.cells [AA c])) := ⟨_, fun _ => rfl⟩
 have hBp : ∀ c, B c p = some (.cells [AA c]) := fun c => by rw [hB, AC]
 have hBs : ∀ c c', hset (B c) p (some (.cells [AA c'])) = B c' := fun c c' => by rw [hB, hB, Aq]
 have hB0 : B c0 = H := by rw [hB]; funext j; simp only [hset]; split; · subst_vars; exact hp.symm
                           · rfl
 have BC : ∀ (b : Bool) (c : Int) (m : Nat), (b = true → 0 ≤ c0 ∧ c0 ≤ 150 → 0 ≤ c ∧ c ≤ c0 ∧ Lz (N + 1) l) → CG n (B c) m (.bool b) (Tx (N + 1) l c0 p H n) := fun b c m hb =>
  .inr ⟨0, .bool b, B c, Fz.same, by simp [closed], fun j y e => ⟨e, by
   rw [hB] at e
   by_cases h : j = p
   · subst h; rw [AC] at e; cases e; exact ⟨hpn, by simp [BJ, closed, closedL]⟩
   · rw [AD _ _ h] at e; exact ho j y e⟩, b, c, rfl, hB c, rfl, hb⟩
 have ret : ∀ (c : Int) (m : Nat), CG n (B c) m (.bool false) (Tx (N + 1) l c0 p H n) := fun c m => BC false c m (by simp)
 refine Ae 0 [(0, AG l), (1, AA dp), (2, .ptr p 0)] (B c0) n ?_ (fun m hm => ?_)
 · rw [hB0]; simp [go_sem, Fz.same]
 refine AX 0 (α := Int) (fun _ => []) (fun c => B c) (fun c m => n ≤ m ∧ (0 ≤ c0 ∧ c0 ≤ 150 → 0 ≤ c ∧ c + l.length ≤ c0 ∧ ∀ x ∈ l, T3 N x)) ?_ (fun c m hm => ?_)
 · refine Ae 0 [(0, AG l), (1, AA dp), (2, .ptr p 0), (7, AA 0)] (B c0) n ?_ (fun m hm => ?_)
   · simp [go_sem, Fz.same, hm]
   refine Ab (Bf 0 (α := Nat × Int) (fun q => [(0, AG l), (1, AA dp), (2, .ptr p 0), (7, AA q.1)]) (fun q => B q.2) (fun q m => q.1 ≤ l.length ∧ n ≤ m ∧ (0 ≤ c0 ∧ c0 ≤ 150 → 0 ≤ q.2 ∧ q.2 + q.1 ≤ c0 ∧ ∀ x ∈ l.take q.1, T3 N x)) (fun q => l.length - q.1) (0, c0) ⟨Nat.zero_le _, hm, fun g => ⟨g.1, by simp, by simp⟩⟩ ?_ AB ?_)
   · simp [go_sem, Ai, Fz.same]
   rintro ⟨i, c⟩ m ⟨hi, hm, hG⟩
   dsimp only at hi hG ⊢
   by_cases hlt : i < l.length
   · obtain ⟨x, hx⟩ : ∃ x, l[i] = x := ⟨_, rfl⟩
     have hxm : x ∈ l := by rw [← hx]; exact List.getElem_mem hlt
     obtain ⟨x1, x2, x3, x4⟩ := hr x hxm
     have w1 := wS i (by omega)
     refine Ae 0 [(0, AG l), (1, AA dp), (2, .ptr p 0), (7, AA i)] (B c) n ?_ (fun m hm => ?_)
     · simp [go_sem, Fz.same, hm, hlt]
     refine AX 0 (α := Int) (fun _ => [(0, AG l), (1, AA dp), (2, .ptr p 0), (7, AA i)]) (fun c => B c) (fun c m => n ≤ m ∧ (0 ≤ c0 ∧ c0 ≤ 150 → 0 ≤ c ∧ c + (i + 1) ≤ c0 ∧ T3 N x)) ?_ (fun c m hm => ?_)
     · refine Ab ?_
       refine BM 0 (α := Int) (fun _ => [(0, AG l), (1, AA dp), (2, .ptr p 0), (7, AA i)]) (fun c => B c) (fun c' m => n ≤ m ∧ (0 ≤ c0 ∧ c0 ≤ 150 → c' = c - 1)) ?_ (fun c' m hm => ?_)
       · simp [go_sem, Fz.same, hm, hBp, hBs]
         exact ⟨_, fun g1 g2 => by obtain ⟨q1, q2, _⟩ := hG ⟨g1, g2⟩; rw [C8] <;> omega, AB⟩
       obtain ⟨hm, hc'⟩ := hm
       refine AX 0 (α := Int) (fun _ => [(0, AG l), (1, AA dp), (2, .ptr p 0), (7, AA i)]) (fun c => B c) (fun c2 m => n ≤ m ∧ (0 ≤ c0 ∧ c0 ≤ 150 → 0 ≤ c2 ∧ c2 ≤ c' ∧ (x.text.size ≤ 1000 ∧ x.rows.length ≤ 20) ∧ Lz N x.flow)) ?_ (fun c m hm => ?_)
       · refine BM 0 (α := Bx × Int) (fun q => [(0, AG l), (1, AA dp), (2, .ptr p 0), (7, AA i), (68, .bool q.1.b)]) (fun q => B q.2) (fun q m => n ≤ m ∧ (q.1.b = false → 0 ≤ c0 ∧ c0 ≤ 150 → 0 ≤ q.2 ∧ q.2 ≤ c' ∧ (x.text.size ≤ 1000 ∧ x.rows.length ≤ 20) ∧ Lz N x.flow)) ?_ (fun q m hm => ?_)
         · generalize c' = c at hc' ⊢
           by_cases a1 : c < 0
           · simp [go_sem, Fz.same, hm, hBp, a1]
             exact ⟨⟨true⟩, c, by simp, rfl, AB⟩
           by_cases a2 : dp = 0
           · simp [go_sem, Fz.same, hm, hBp, a1, a2]
             exact ⟨⟨true⟩, c, by simp, rfl, AB⟩
           by_cases a3 : (1000 : Int) < x.text.size
           · simp [go_sem, Fz.same, hm, hBp, a1, a2, hlt, hx, AE.enc_eq, a3]
             exact ⟨⟨true⟩, c, by simp, rfl, AB⟩
           by_cases a4 : (60 : Int) < x.head.props.length
           · simp [go_sem, Fz.same, hm, hBp, a1, a2, hlt, hx, AE.enc_eq, a3, a4]
             exact ⟨⟨true⟩, c, by simp, rfl, AB⟩
           by_cases a5 : (20 : Int) < x.rows.length
           · simp [go_sem, Fz.same, hm, hBp, a1, a2, hlt, hx, AE.enc_eq, a3, a4, a5]
             exact ⟨⟨true⟩, c, by simp, rfl, AB⟩
           simp [go_sem, hBp, a1, a2, hlt, hx, AE.enc_eq, a3, a4, a5]
           refine SC.use (x2 _ p c (B c) m (hBp c)) ?_
           rintro v H' n' ⟨b, c2, rfl, rfl, rfl, hb⟩
           rw [hBs]
           simp [go_sem, Fz.same, hm]
           exact ⟨⟨!b⟩, c2, fun g ga gb => by
            have g1 : 0 ≤ c0 ∧ c0 ≤ 150 := ⟨ga, gb⟩
            obtain ⟨q1, q2, q3⟩ := hG g1
            have e1 := hc' g1
            obtain ⟨r1, r2, r3⟩ := hb (by simpa using g) ⟨by omega, by omega⟩
            exact ⟨r1, r2, ⟨by omega, by omega⟩, r3⟩, rfl, AB⟩
         obtain ⟨⟨b⟩, c2⟩ := q
         obtain ⟨hm, hb⟩ := hm
         dsimp only at hb ⊢
         cases b with
         | true => exact AH (by simp [go_sem]; exact ret c2 _)
         | false => exact AH (by simp [go_sem, Fz.same, hm]; exact ⟨_, fun g1 g2 => hb rfl ⟨g1, g2⟩, AB⟩)
       obtain ⟨hm, hx2⟩ := hm
       have hG2 : 0 ≤ c0 ∧ c0 ≤ 150 → 0 ≤ c ∧ c + (i + 1) ≤ c0 ∧ (x.text.size ≤ 1000 ∧ x.rows.length ≤ 20) ∧ Lz N x.flow := fun g => by
        obtain ⟨q1, q2, _⟩ := hG g
        obtain ⟨r1, r2, r3, r4⟩ := hx2 g
        have := hc' g
        exact ⟨r1, by omega, r3, r4⟩
       clear hG hx2 hc'
       refine Ae 0 [(0, AG l), (1, AA dp), (2, .ptr p 0), (7, AA i), (8, AA 0)] (B c) n ?_ (fun m hm => ?_)
       · simp [go_sem, Fz.same, hm]
       refine Ab (Bf 0 (α := Nat × Int) (fun q => [(0, AG l), (1, AA dp), (2, .ptr p 0), (7, AA i), (8, AA q.1)]) (fun q => B q.2) (fun q m => q.1 ≤ x.rows.length ∧ n ≤ m ∧ (0 ≤ c0 ∧ c0 ≤ 150 → 0 ≤ q.2 ∧ q.2 + (i + 1) ≤ c0 ∧ ∀ r ∈ x.rows.take q.1, r.cells.length ≤ 20 ∧ ∀ z ∈ r.cells, Lz N z.flow)) (fun q => x.rows.length - q.1) (0, c) ⟨Nat.zero_le _, hm, fun g => ⟨(hG2 g).1, (hG2 g).2.1, by simp⟩⟩ ?_ AB ?_)
       · simp [go_sem, Ai, Fz.same]
       have hx3 : 0 ≤ c0 ∧ c0 ≤ 150 → (x.text.size ≤ 1000 ∧ x.rows.length ≤ 20) ∧ Lz N x.flow := fun g => (hG2 g).2.2
       clear hG2
       rintro ⟨j, c⟩ m ⟨hj, hm, hG⟩
       dsimp only at hj hG ⊢
       by_cases hjt : j < x.rows.length
       · obtain ⟨y, hy⟩ : ∃ y, x.rows[j] = y := ⟨_, rfl⟩
         have hym : y ∈ x.rows := by rw [← hy]; exact List.getElem_mem hjt
         obtain ⟨y1, y2⟩ := x4 y hym
         have w2 := wS j (by omega)
         refine Ae 0 [(0, AG l), (1, AA dp), (2, .ptr p 0), (7, AA i), (8, AA j)] (B c) n ?_ (fun m hm => ?_)
         · simp [go_sem, Fz.same, hm, hlt, hx, AE.enc_eq, hjt]
         refine AX 0 (α := Int) (fun _ => [(0, AG l), (1, AA dp), (2, .ptr p 0), (7, AA i), (8, AA j)]) (fun c => B c) (fun c m => n ≤ m ∧ (0 ≤ c0 ∧ c0 ≤ 150 → 0 ≤ c ∧ c + (i + 1) ≤ c0 ∧ y.cells.length ≤ 20 ∧ ∀ z ∈ y.cells, Lz N z.flow)) ?_ (fun c m hm => ?_)
         · refine Ab ?_
           refine B5 0 [(0, AG l), (1, AA dp), (2, .ptr p 0), (7, AA i), (8, AA j)] (B c) (fun m => n ≤ m ∧ y.cells.length ≤ 20) (AH ?_) (fun m hm => ?_)
           · by_cases a : (20 : Int) < y.cells.length
             · simp [go_sem, hlt, hx, AE.enc_eq, hjt, hy, AS.enc_eq, a]
               exact ret c _
             · simp [go_sem, hlt, hx, AE.enc_eq, hjt, hy, AS.enc_eq, a, Fz.same, hm]
               omega
           obtain ⟨hm, hyc⟩ := hm
           refine Ae 0 [(0, AG l), (1, AA dp), (2, .ptr p 0), (7, AA i), (8, AA j), (9, AA 0)] (B c) n ?_ (fun m hm => ?_)
           · simp [go_sem, Fz.same, hm]
           refine Ab (Bf 0 (α := Nat × Int) (fun q => [(0, AG l), (1, AA dp), (2, .ptr p 0), (7, AA i), (8, AA j), (9, AA q.1)]) (fun q => B q.2) (fun q m => q.1 ≤ y.cells.length ∧ n ≤ m ∧ (0 ≤ c0 ∧ c0 ≤ 150 → 0 ≤ q.2 ∧ q.2 + (i + 1) ≤ c0 ∧ ∀ z ∈ y.cells.take q.1, Lz N z.flow)) (fun q => y.cells.length - q.1) (0, c) ⟨Nat.zero_le _, hm, fun g => ⟨(hG g).1, (hG g).2.1, by simp⟩⟩ ?_ AB ?_)
           · simp [go_sem, Ai, Fz.same]
           clear hG
           rintro ⟨k, c⟩ m ⟨hk, hm, hG⟩
           dsimp only at hk hG ⊢
           by_cases hkt : k < y.cells.length
           · obtain ⟨z, hz⟩ : ∃ z, y.cells[k] = z := ⟨_, rfl⟩
             have hzm : z ∈ y.cells := by rw [← hz]; exact List.getElem_mem hkt
             have z1 := y2 z hzm
             have w3 := wS k (by omega)
             refine Ae 0 [(0, AG l), (1, AA dp), (2, .ptr p 0), (7, AA i), (8, AA j), (9, AA k)] (B c) n ?_ (fun m hm => ?_)
             · simp [go_sem, Fz.same, hm, hlt, hx, AE.enc_eq, hjt, hy, AS.enc_eq, hkt]
             refine AX 0 (α := Int) (fun _ => [(0, AG l), (1, AA dp), (2, .ptr p 0), (7, AA i), (8, AA j), (9, AA k)]) (fun c => B c) (fun c m => n ≤ m ∧ (0 ≤ c0 ∧ c0 ≤ 150 → 0 ≤ c ∧ c + (i + 1) ≤ c0 ∧ Lz N z.flow)) ?_ (fun c m hm => ?_)
             · refine Ab ?_
               refine BM 0 (α := Int) (fun _ => [(0, AG l), (1, AA dp), (2, .ptr p 0), (7, AA i), (8, AA j), (9, AA k)]) (fun c => B c) (fun c' m => n ≤ m ∧ (0 ≤ c0 ∧ c0 ≤ 150 → c' = c - 1)) ?_ (fun c' m hm => ?_)
               · simp [go_sem, Fz.same, hm, hBp, hBs]
                 exact ⟨_, fun g1 g2 => by obtain ⟨q1, q2, _⟩ := hG ⟨g1, g2⟩; rw [C8] <;> omega, AB⟩
               obtain ⟨hm, hc'⟩ := hm
               refine BM 0 (α := Bx × Int) (fun q => [(0, AG l), (1, AA dp), (2, .ptr p 0), (7, AA i), (8, AA j), (9, AA k), (132, .bool q.1.b)]) (fun q => B q.2) (fun q m => n ≤ m ∧ (q.1.b = false → 0 ≤ c0 ∧ c0 ≤ 150 → 0 ≤ q.2 ∧ q.2 ≤ c' ∧ Lz N z.flow)) ?_ (fun q m hm => ?_)
               · generalize c' = c at hc' ⊢
                 by_cases a1 : c < 0
                 · simp [go_sem, Fz.same, hm, hBp, a1]
                   exact ⟨⟨true⟩, c, by simp, rfl, AB⟩
                 simp [go_sem, hBp, a1, hlt, hx, AE.enc_eq, hjt, hy, AS.enc_eq, hkt, hz, AK.enc_eq]
                 refine SC.use (z1 _ p c (B c) m (hBp c)) ?_
                 rintro v H' n' ⟨b, c2, rfl, rfl, rfl, hb⟩
                 rw [hBs]
                 simp [go_sem, Fz.same, hm]
                 exact ⟨⟨!b⟩, c2, fun g ga gb => by
                  have g1 : 0 ≤ c0 ∧ c0 ≤ 150 := ⟨ga, gb⟩
                  obtain ⟨q1, q2, q3⟩ := hG g1
                  have e1 := hc' g1
                  exact hb (by simpa using g) ⟨by omega, by omega⟩, rfl, AB⟩
               obtain ⟨⟨b⟩, c2⟩ := q
               obtain ⟨hm, hb⟩ := hm
               dsimp only at hb ⊢
               cases b with
               | true => exact AH (by simp [go_sem]; exact ret c2 _)
               | false => exact AH (by simp [go_sem, Fz.same, hm]; exact ⟨_, fun g1 g2 => by
                obtain ⟨q1, q2, _⟩ := hG ⟨g1, g2⟩
                obtain ⟨r1, r2, r3⟩ := hb rfl ⟨g1, g2⟩
                have := hc' ⟨g1, g2⟩
                exact ⟨r1, by omega, r3⟩, AB⟩)
             · obtain ⟨hm, hz2⟩ := hm
               refine AH ?_
               simp [go_sem, w3, Fz.same, -Int.natCast_add]
               exact ⟨k + 1, by omega, c, ⟨by omega, hm, fun ga gb => ⟨(hz2 ⟨ga, gb⟩).1, (hz2 ⟨ga, gb⟩).2.1, Lp hkt hz (hG ⟨ga, gb⟩).2.2 (hz2 ⟨ga, gb⟩).2.2⟩⟩, rfl, AB⟩
           · refine AH ?_
             have hkk : k = y.cells.length := by omega
             rw [hkk, List.take_length] at hG
             simp [go_sem, hlt, hx, AE.enc_eq, hjt, hy, AS.enc_eq, hkt, Fz.same, hm]
             exact ⟨c, fun g1 g2 => ⟨(hG ⟨g1, g2⟩).1, (hG ⟨g1, g2⟩).2.1, hyc, (hG ⟨g1, g2⟩).2.2⟩, AB⟩
         · obtain ⟨hm, hy2⟩ := hm
           refine AH ?_
           simp [go_sem, w2, Fz.same, -Int.natCast_add]
           exact ⟨j + 1, by omega, c, ⟨by omega, hm, fun ga gb => ⟨(hy2 ⟨ga, gb⟩).1, (hy2 ⟨ga, gb⟩).2.1, Lp hjt hy (hG ⟨ga, gb⟩).2.2 (hy2 ⟨ga, gb⟩).2.2⟩⟩, rfl, AB⟩
       · refine AH ?_
         have hjj : j = x.rows.length := by omega
         rw [hjj, List.take_length] at hG
         simp [go_sem, hlt, hx, AE.enc_eq, hjt, Fz.same, hm]
         exact ⟨c, fun g1 g2 => ⟨(hG ⟨g1, g2⟩).1, (hG ⟨g1, g2⟩).2.1, (hx3 ⟨g1, g2⟩).1, (hx3 ⟨g1, g2⟩).2, (hG ⟨g1, g2⟩).2.2⟩, AB⟩
     · obtain ⟨hm, hx2⟩ := hm
       refine AH ?_
       simp [go_sem, w1, Fz.same, -Int.natCast_add]
       exact ⟨i + 1, by omega, c, ⟨by omega, hm, fun ga gb => ⟨(hx2 ⟨ga, gb⟩).1, by have := (hx2 ⟨ga, gb⟩).2.1; omega, Lp hlt hx (hG ⟨ga, gb⟩).2.2 (hx2 ⟨ga, gb⟩).2.2⟩⟩, rfl, AB⟩
   · refine AH ?_
     have hii : i = l.length := by omega
     rw [hii, List.take_length] at hG
     simp [go_sem, hlt, hm]
     exact ⟨c, fun g1 g2 => hG ⟨g1, g2⟩, AB⟩
 · obtain ⟨hm, hl2⟩ := hm
   refine AH ?_
   simp [go_sem]
   refine BC true c _ fun _ g => ?_
   obtain ⟨q1, q2, q3⟩ := hl2 g
   exact ⟨q1, by omega, by omega, q3⟩
theorem Tv {B : Nat} (hB : B ≤ 1048576) : ∀ (N : Nat) (l : List AE), EZ AF.sized B N l → SS N l
 | 0, _, h => h.elim
 | N + 1, l, h => by
  obtain ⟨h1, _, h3⟩ := Dl.1 h
  refine d33 N l (by omega) fun x hx => ?_
  obtain ⟨a1, a2, a3, a4⟩ := h3 x hx
  exact ⟨a1.props, Tv hB N x.flow a2, by omega, fun r hr => ⟨by have := (a4 r hr).2.1; omega, fun c hc => Tv hB N c.flow ((a4 r hr).2.2 c hc).2⟩⟩
def Pg (N : Nat) (d : AI) (v : SV) : Prop := ∃ b, v = .bool b ∧ (b = true → JK N d ∧ Lz N d.flow)
set_option maxHeartbeats 4000000 in
theorem t12 (d : AI) {B N : Nat} (hB : B ≤ 1048576) (hl : EZ AF.sized B N d.flow) (hc : TC 24 [d.enc] (Np (JK N d))) : TC 12 [d.enc] (Pg N d) := by
 intro h n
 refine ED Tryz.func12 rfl fun ho => ?_
 have hHb := ho.lt
 have fin : ∀ (b : Bool) (c : BV) (m : Nat), (b = true → JK N d ∧ Lz N d.flow) → CG n (hset h (n + 1) (some c)) m (.bool b) (fun v h' n' => Pg N d v ∧ h' = h ∧ n' = n) := fun b c m hb => GB ho (AL (fun j z e => by have := hHb j z e; omega) AB) (by simp [closed]) ⟨b, rfl, hb⟩
 refine Bn 1 [(1, .iptr ([AG d.flow] ++ d.«end».flat ++ [A3 d.revs] ++ d.settings.flat))] h (fun m => n + 1 = m) ?_ (fun m hm => ?_)
 · simp [go_sem, AI.enc, AF.flat, AM.flat]
   exact ⟨Ac (Af hHb (Nat.le_refl _)) (AC _ _ _), AL hHb AB⟩
 subst hm
 refine Bn 0 [(1, .iptr ([AG d.flow] ++ d.«end».flat ++ [A3 d.revs] ++ d.settings.flat)), (3, .ptr (n + 1) 0)] (hset h (n + 1) (some (.cells [AA 150]))) (fun m => n + 2 = m) ?_ (fun m hm => ?_)
 · simp [go_sem, Fz.same, AC, Aq]
 subst hm
 have hGb : ∀ j y, hset h (n + 1) (some (.cells [AA 150])) j = some y → j < n + 2 := fun j y e => by
  simp only [hset] at e; split at e
  · omega
  · have := hHb j y e; omega
 refine Bn 1 [(1, .iptr ([AG d.flow] ++ d.«end».flat ++ [A3 d.revs] ++ d.settings.flat)), (3, .ptr (n + 1) 0), (4, .iptr d.settings.flat)] (hset h (n + 1) (some (.cells [AA 150]))) (fun m => n + 2 ≤ m) ?_ (fun m hm => ?_)
 · simp [go_sem, Fz.same, AF.flat, AM.flat, AC]
   exact ⟨Ac (Af hGb (Nat.le_refl _)) (AC _ _ _), AL hGb (AL hGb AB)⟩
 refine AH ?_
 have no := fun c m => fin false c m (by simp)
 by_cases a1 : (d.settings.comments.length : Int) ≤ 30
 case neg => simp [go_sem, AF.flat, AM.flat, a1]; exact no _ _
 by_cases a2 : (d.settings.styles.length : Int) ≤ 30
 case neg => simp [go_sem, AF.flat, AM.flat, a1, a2]; exact no _ _
 by_cases a3 : (d.settings.lists.length : Int) ≤ 30
 case neg => simp [go_sem, AF.flat, AM.flat, a1, a2, a3]; exact no _ _
 by_cases a4 : (d.settings.vars.length : Int) ≤ 30
 case neg => simp [go_sem, AF.flat, AM.flat, a1, a2, a3, a4]; exact no _ _
 by_cases a5 : (d.revs.length : Int) ≤ 30
 case neg => simp [go_sem, AF.flat, AM.flat, a1, a2, a3, a4, a5]; exact no _ _
 simp [go_sem, AF.flat, AM.flat, a1, a2, a3, a4, a5]
 refine SC.use (Tv hB N d.flow hl 12 (n + 1) 150 (hset h (n + 1) (some (.cells [AA 150]))) m (AC _ _ _)) ?_
 rintro v H' n' ⟨b, c, rfl, rfl, rfl, hfew⟩
 rw [Aq]
 cases b with
 | false => simp [go_sem]; exact no _ _
 | true =>
 simp [go_sem]
 refine TC.use (by simpa [AI.enc, AF.flat, AM.flat] using hc) ?_
 rintro v ⟨e, rfl, hT⟩
 simp [go_sem]
 exact fin _ _ _ fun g => ⟨hT (by simpa using g), (hfew rfl ⟨by omega, by omega⟩).2.2⟩
def E3 (v : SV) : Prop := ∃ e : Int, v = AA e
def trS : Tr := .pure 0 <| .pure 1 <| .pure 3 <| .pure 4 <| .pure 6 <| .pure 7 <| .pure 9 <| .pure 10 <| .one 2 <| .one 5 <| .one 8 <| .one 11 <| .one 12 <| .one 13 <| .one 14 .nil
theorem t83 (s : AM) (h1 : TC 146 [AT s.styles] E3) (h2 : TC 147 [Dc s.lists] E3) (h3 : TC 148 [BQ s.comments] E3) (h4 : TC 149 [Ey s.vars] E3) : TC 83 [s.enc] E3 := by
 intro h n
 refine ED Tryz.func83 rfl fun ho => ?_
 have hHb := ho.lt
 refine Ae 1 [(1, .iptr s.flat)] h n ?_ (fun m hm => ?_)
 · simp [go_sem, AM.enc, AM.flat]
   exact ⟨Ac (Af hHb (Nat.le_refl _)) (AC _ _ _), AL hHb AB⟩
 refine AX 0 (α := Int) (fun e => [(2, AA e)]) (fun _ => h) (fun _ m => n ≤ m) (CK trS rfl (by kernel_rfl) (by kernel_rfl) ?_) (fun e m hm => ?_)
 · have hHm : ∀ j y, h j = some y → j < m := fun j y e => by have := hHb j y e; omega
   simp [go_sem, trS, AM.flat]
   refine TC.use h1 ?_
   rintro v ⟨e1, rfl⟩
   simp [go_sem]
   refine TC.use h2 ?_
   rintro v ⟨e2, rfl⟩
   simp [go_sem]
   refine TC.use h3 ?_
   rintro v ⟨e3, rfl⟩
   simp [go_sem]
   refine TC.use h4 ?_
   rintro v ⟨e4, rfl⟩
   simp [go_sem]
   refine Ag.fz (bs := [.imm 1 ([e1, e2, e3, e4].map AA) false]) (h2 := h) 1 (AL hHm AB) ⟨?_, trivial⟩ ?_
   · exact Dq (es := [AA e1, AA e2, AA e3, AA e4]) (Af hHm (Nat.le_refl _)) (by simp) (by rw [AC]; simp [SV.cells]) (by simp [SV.storable, SV.cells])
   refine (Ox _ (by simp)).use ?_
   simp [go_sem]
   exact ⟨by omega, _, Fz.same⟩
 · refine AH ?_
   simp [go_sem]
   exact GB ho AB (by simp [closed]) ⟨e, rfl⟩
theorem UT (N : Nat) (hN : N ≤ 1048576) (g : FuncId) (a b : List SV) (hF : ∀ j, j < N → TC g (a ++ [AA j] ++ b) E3) : TC 150 [AA N, .fn (.func g) a b] E3 := by
 intro h n
 refine gq Tryz.func150 rfl fun ho => ?_
 simp [go_sem]
 refine An 0 (α := Nat) (fun k => [(1, .fn (.func g) a b), (7, AA N), (8, AA k)]) (fun _ => h) (fun k m => k ≤ N ∧ n ≤ m) (fun k => N - k) 0 ⟨Nat.zero_le _, Nat.le_refl _⟩ ?_ AB ?_
 · simp [Ai, Fz]
 rintro k m ⟨hk, hnm⟩
 by_cases hlt : k < N
 · have w1 := wS k (by omega)
   have F0 := hF k hlt
   simp only [List.append_assoc, List.singleton_append] at F0
   simp [go_sem, hlt]
   refine F0.use ?_
   rintro v ⟨e, rfl⟩
   by_cases h0 : e = 0
   · simp [go_sem, h0, w1, -Int.natCast_add]
     exact ⟨k + 1, by omega, ⟨by omega, hnm⟩, rfl⟩
   · simp [go_sem, h0]
     exact GB ho AB (by simp [closed]) ⟨e, rfl⟩
 · simp [go_sem, hlt]
   exact GB ho AB (by simp [closed]) ⟨0, rfl⟩
def trQ : Tr := .pure 0 <| .pure 1 <| .pure 2 <| .pure 4 <| .pure 5 <| .pure 6 <| .pure 7 <| .one 3 <| .one 8 <| .one 9 <| .one 10 <| .one 11 .nil
theorem t147 (l : List GY) (hl : l.length ≤ 1048576) (hc : ∀ i, i < l.length → TC 210 [AA i, .iptr [Dc l]] E3) : TC 147 [Dc l] E3 := by
 intro h n
 refine ED Tryz.func147 rfl fun ho => ?_
 have hHb := ho.lt
 refine Ae 1 [(1, .iptr [Dc l])] h n ?_ (fun m hm => ?_)
 · simp [go_sem]
   exact ⟨Ac (Af hHb (Nat.le_refl _)) (AC _ _ _), AL hHb AB⟩
 refine AX 0 (α := Int) (fun e => [(2, AA e)]) (fun _ => h) (fun _ m => n ≤ m) (CK trQ rfl (by kernel_rfl) (by kernel_rfl) ?_) (fun e m hm => ?_)
 · have hHm : ∀ j y, h j = some y → j < m := fun j y e => by have := hHb j y e; omega
   have hN : (if (64 : Int) < l.length then (64 : Int) else l.length) = ((min l.length 64 : Nat) : Int) := by split <;> omega
   simp [go_sem, trQ]
   refine (Iv _ _).use ?_
   simp [go_sem, hN]
   refine (UT (min l.length 64) (by omega) 210 [] [.iptr [Dc l]] (fun j hj => hc j (by omega))).use ?_
   rintro v ⟨e2, rfl⟩
   simp [go_sem]
   generalize (if 64 < (l.length : Int) then (9 : Int) else 0) = e1
   refine Ag.fz (bs := [.imm 1 ([e1, e2].map AA) false]) (h2 := h) 1 (AL hHm AB) ⟨?_, trivial⟩ ?_
   · exact Dq (es := [AA e1, AA e2]) (Af hHm (Nat.le_refl _)) (by simp) (by rw [AC]; simp [SV.cells]) (by simp [SV.storable, SV.cells])
   refine (Ox _ (by simp)).use ?_
   simp [go_sem]
   exact ⟨by omega, _, Fz.same⟩
 · refine AH ?_
   simp [go_sem]
   exact GB ho AB (by simp [closed]) ⟨e, rfl⟩
theorem t148 (l : List Aw) (hl : l.length ≤ 1048576) (hc : ∀ i, i < l.length → TC 213 [AA i, .iptr [BQ l]] E3) : TC 148 [BQ l] E3 := by
 intro h n
 refine ED Tryz.func148 rfl fun ho => ?_
 have hHb := ho.lt
 refine Ae 1 [(1, .iptr [BQ l])] h n ?_ (fun m hm => ?_)
 · simp [go_sem]
   exact ⟨Ac (Af hHb (Nat.le_refl _)) (AC _ _ _), AL hHb AB⟩
 refine AX 0 (α := Int) (fun e => [(2, AA e)]) (fun _ => h) (fun _ m => n ≤ m) (CK trQ rfl (by kernel_rfl) (by kernel_rfl) ?_) (fun e m hm => ?_)
 · have hHm : ∀ j y, h j = some y → j < m := fun j y e => by have := hHb j y e; omega
   have hN : (if (1024 : Int) < l.length then (1024 : Int) else l.length) = ((min l.length 1024 : Nat) : Int) := by split <;> omega
   simp [go_sem, trQ]
   refine (Iv _ _).use ?_
   simp [go_sem, hN]
   refine (UT (min l.length 1024) (by omega) 213 [] [.iptr [BQ l]] (fun j hj => hc j (by omega))).use ?_
   rintro v ⟨e2, rfl⟩
   simp [go_sem]
   generalize (if 1024 < (l.length : Int) then (9 : Int) else 0) = e1
   refine Ag.fz (bs := [.imm 1 ([e1, e2].map AA) false]) (h2 := h) 1 (AL hHm AB) ⟨?_, trivial⟩ ?_
   · exact Dq (es := [AA e1, AA e2]) (Af hHm (Nat.le_refl _)) (by simp) (by rw [AC]; simp [SV.cells]) (by simp [SV.storable, SV.cells])
   refine (Ox _ (by simp)).use ?_
   simp [go_sem]
   exact ⟨by omega, _, Fz.same⟩
 · refine AH ?_
   simp [go_sem]
   exact GB ho AB (by simp [closed]) ⟨e, rfl⟩
theorem t149 (l : List GV) (hl : l.length ≤ 1048576) (hc : ∀ i, i < l.length → TC 218 [AA i, .iptr [Ey l]] E3) : TC 149 [Ey l] E3 := by
 intro h n
 refine ED Tryz.func149 rfl fun ho => ?_
 have hHb := ho.lt
 refine Ae 1 [(1, .iptr [Ey l])] h n ?_ (fun m hm => ?_)
 · simp [go_sem]
   exact ⟨Ac (Af hHb (Nat.le_refl _)) (AC _ _ _), AL hHb AB⟩
 refine AX 0 (α := Int) (fun e => [(2, AA e)]) (fun _ => h) (fun _ m => n ≤ m) (CK trQ rfl (by kernel_rfl) (by kernel_rfl) ?_) (fun e m hm => ?_)
 · have hHm : ∀ j y, h j = some y → j < m := fun j y e => by have := hHb j y e; omega
   have hN : (if (128 : Int) < l.length then (128 : Int) else l.length) = ((min l.length 128 : Nat) : Int) := by split <;> omega
   simp [go_sem, trQ]
   refine (Iv _ _).use ?_
   simp [go_sem, hN]
   refine (UT (min l.length 128) (by omega) 218 [] [.iptr [Ey l]] (fun j hj => hc j (by omega))).use ?_
   rintro v ⟨e2, rfl⟩
   simp [go_sem]
   generalize (if 128 < (l.length : Int) then (9 : Int) else 0) = e1
   refine Ag.fz (bs := [.imm 1 ([e1, e2].map AA) false]) (h2 := h) 1 (AL hHm AB) ⟨?_, trivial⟩ ?_
   · exact Dq (es := [AA e1, AA e2]) (Af hHm (Nat.le_refl _)) (by simp) (by rw [AC]; simp [SV.cells]) (by simp [SV.storable, SV.cells])
   refine (Ox _ (by simp)).use ?_
   simp [go_sem]
   exact ⟨by omega, _, Fz.same⟩
 · refine AH ?_
   simp [go_sem]
   exact GB ho AB (by simp [closed]) ⟨e, rfl⟩
theorem c211 (l : List GY) (i : Nat) (hi : i < l.length) : PC 211 [AA i, .iptr [Dc l]] (AA (l[i]).id) := by
 intro h n
 refine gq Tryz.func211 rfl fun ho => ?_
 simp [go_sem, hi, GY.enc]
 exact BC ho rfl rfl
def trO : Tr := .pure 0 <| .pure 1 <| .pure 3 <| .pure 4 <| .pure 5 <| .pure 6 <| .pure 7 <| .one 2 <| .one 8 <| .one 9 <| .one 10 <| .one 11 .nil
theorem t210 (l : List GY) (hl : l.length ≤ 1048576) (i : Nat) (hi : i < l.length) (hc : TC 212 [Cr (l[i]).levels] E3) : TC 210 [AA i, .iptr [Dc l]] E3 := by
 intro h n
 refine ED Tryz.func210 rfl fun ho => ?_
 have hHb := ho.lt
 obtain ⟨x, hx⟩ : ∃ x, l[i] = x := ⟨_, rfl⟩
 rw [hx] at hc
 refine Ae 0 [(0, AA i), (1, .iptr [Dc l])] h n ?_ (fun m hm => ?_)
 · simp [go_sem, Fz.same]
 refine AX 0 (α := Int) (fun e => [(3, AA e)]) (fun _ => h) (fun _ m => n ≤ m) (CK trO rfl (by kernel_rfl) (by kernel_rfl) ?_) (fun e m hm => ?_)
 · have hHm : ∀ j y, h j = some y → j < m := fun j y e => by have := hHb j y e; omega
   simp [go_sem, trO, hi, hx, GY.enc]
   have hF : ∀ j, j ≤ i → PC 211 ([] ++ [AA j] ++ [.iptr [Dc l]]) (AA (match l[j]? with | some r => r.id | none => 0)) := fun j hj => by
    have hj2 : j < l.length := by omega
    simpa [hj2] using c211 l j hj2
   refine (To i (by omega) 211 [] [.iptr [Dc l]] (fun j => match l[j]? with | some r => r.id | none => 0) hF).use ?_
   generalize GO (fun j => match l[j]? with | some r => r.id | none => 0) i = e1
   simp [go_sem]
   refine hc.use ?_
   rintro v ⟨e2, rfl⟩
   simp [go_sem]
   refine Ag.fz (bs := [.imm 1 ([e1, e2].map AA) false]) (h2 := h) 1 (AL hHm AB) ⟨?_, trivial⟩ ?_
   · exact Dq (es := [AA e1, AA e2]) (Af hHm (Nat.le_refl _)) (by simp) (by rw [AC]; simp [SV.cells]) (by simp [SV.storable, SV.cells])
   refine (Ox _ (by simp)).use ?_
   simp [go_sem]
   exact ⟨by omega, _, Fz.same⟩
 · refine AH ?_
   simp [go_sem]
   exact GB ho AB (by simp [closed]) ⟨e, rfl⟩
theorem t212 (l : List Cu) (hl : l.length ≤ 1048576) (hc : ∀ x ∈ l, ∀ k : Int, TC 271 [.str x.template, AA k] E3) : TC 212 [Cr l] E3 := by
 intro h n
 refine ED Tryz.func212 rfl fun ho => ?_
 have hHb := ho.lt
 have out : ∀ (e : Int) (m : Nat), CG n h m (AA e) (fun v h' n' => E3 v ∧ h' = h ∧ n' = n) := fun e m => GB ho AB (by simp [closed]) ⟨e, rfl⟩
 refine Ae 0 [(0, Cr l)] h n ?_ (fun m hm => ?_)
 · simp [go_sem, Fz.same]
 refine Bs 0 [(0, Cr l)] h n (AH ?_) (fun m hm => ?_)
 · by_cases c : l = []
   · simp [go_sem, c]; exact out _ _
   · by_cases c2 : (9 : Int) < l.length
     · simp [go_sem, c, c2]; exact out _ _
     · simp [go_sem, c, c2, Fz.same, hm]
 refine Bs 0 [] h n ?_ (fun m hm => ?_)
 · refine Ae 0 [(14, Cr l), (15, AA l.length), (16, AA 0)] h n ?_ (fun m hm => ?_)
   · simp [go_sem, Fz.same, hm]
   refine Ab (Bf 0 (α := Nat) (fun i => [(14, Cr l), (15, AA l.length), (16, AA i)]) (fun _ => h) (fun i m => i ≤ l.length ∧ n ≤ m) (fun i => l.length - i) 0 ⟨Nat.zero_le _, hm⟩ ?_ AB ?_)
   · simp [go_sem, Ai, Fz.same]
   rintro i m ⟨hi, hm⟩
   by_cases hlt : i < l.length
   · obtain ⟨x, hx⟩ : ∃ x, l[i] = x := ⟨_, rfl⟩
     have hxm : x ∈ l := by rw [← hx]; exact List.getElem_mem hlt
     have w1 := wS i (by omega)
     refine Ae 0 [(14, Cr l), (15, AA l.length), (16, AA i), (17, .bool true)] h n ?_ (fun m hm => ?_)
     · simp [go_sem, Fz.same, hm, hlt]
     refine Ae 0 [(14, Cr l), (15, AA l.length), (16, AA i)] h n ?_ (fun m hm => ?_)
     · simp [go_sem, Fz.same, hm]
     refine Bs 0 [(14, Cr l), (15, AA l.length), (16, AA i)] h n ?_ (fun m hm => ?_)
     · refine Ab ?_
       refine Ae 1 [(14, Cr l), (15, AA l.length), (16, AA i), (3, AA i), (4, .iptr [AA x.format, AA x.start, .str x.template, AA x.restart])] h n ?_ (fun m hm => ?_)
       · have hHm : ∀ j y, h j = some y → j < m := fun j y e => by have := hHb j y e; omega
         simp [go_sem, Fz.same, hlt, hx, Cu.enc, AC]
         exact ⟨by omega, Ac (Af hHm (Nat.le_refl _)) (AC _ _ _), AL hHm (AL hHm AB)⟩
       refine AX 0 (α := Unit) (fun _ => [(14, Cr l), (15, AA l.length), (16, AA i), (3, AA i), (4, .iptr [AA x.format, AA x.start, .str x.template, AA x.restart])]) (fun _ => h) (fun _ m => n ≤ m) (Ab (AH ?_)) (fun _ m hm => ?_)
       · by_cases a1 : x.format < 1
         · simp [go_sem, a1]; exact out _ _
         by_cases a2 : 7 < x.format
         · simp [go_sem, a1, a2]; exact out _ _
         by_cases a3 : x.start < 0
         · simp [go_sem, a1, a2, a3]; exact out _ _
         by_cases a4 : 32767 < x.start
         · simp [go_sem, a1, a2, a3, a4]; exact out _ _
         simp [go_sem, a1, a2, a3, a4, Fz.same, hm]
       refine Bs 0 [(14, Cr l), (15, AA l.length), (16, AA i), (3, AA i), (4, .iptr [AA x.format, AA x.start, .str x.template, AA x.restart])] h n (AH ?_) (fun m hm => ?_)
       · simp [go_sem, w1, -Int.natCast_add]
         refine (hc x hxm _).use ?_
         rintro v ⟨e, rfl⟩
         by_cases e0 : e = 0
         · simp [go_sem, e0, Fz.same, hm]
         · simp [go_sem, e0]; exact out _ _
       refine AH ?_
       by_cases a1 : x.restart < 0
       · simp [go_sem, a1]; exact out _ _
       by_cases a2 : (i : Int) < x.restart
       · simp [go_sem, a1, a2]; exact out _ _
       simp [go_sem, a1, a2, Fz.same, hm]
     · refine AH ?_
       simp [go_sem, w1, Fz.same, -Int.natCast_add]
       exact ⟨i + 1, by omega, ⟨by omega, hm⟩, rfl⟩
   · refine AH ?_
     simp [go_sem, hlt, hm]
 · refine AH ?_
   simp [go_sem]
   exact out _ _
theorem c216 (l : List Aw) (i : Nat) (hi : i < l.length) : PC 216 [AA i, .iptr [BQ l]] (AA (l[i]).id) := by
 intro h n
 refine gq Tryz.func216 rfl fun ho => ?_
 simp [go_sem, hi, Aw.enc]
 exact BC ho rfl rfl
theorem c215 (x y : Aw) : PC 215 [y.enc, .iptr [AA x.id, AA x.parent, .str x.author, AA x.time, .str x.text, .bool x.done]] (.bool (decide (y.id = x.parent))) := by
 intro h n
 refine gq Tryz.func215 rfl fun ho => ?_
 simp [go_sem, Aw.enc, AC]
 exact Av ho (AO ho (Nat.le_refl _) AB) (by by_cases h : y.id = x.parent <;> simp [h]) rfl
def trT : Tr := .pure 0 <| .pure 1 <| .pure 3 <| .pure 4 <| .pure 6 <| .pure 7 <| .pure 11 <| .pure 12 <| .pure 16 <| .pure 17 <| .one 2 <| .one 5 <| .one 8 <| .one 9 <| .one 10 <| .one 13 <| .one 14 <| .one 15 <| .one 18 <| .one 19 <| .one 20 <| .one 21 .nil
theorem t213 (l : List Aw) (hl : l.length ≤ 1048576) (hs : ∀ x ∈ l, x.author.size ≤ 1048576 ∧ x.text.size ≤ 1048576) (i : Nat) (hi : i < l.length) : TC 213 [AA i, .iptr [BQ l]] E3 := by
 intro h n
 refine ED Tryz.func213 rfl fun ho => ?_
 have hHb := ho.lt
 obtain ⟨x, hx⟩ : ∃ x, l[i] = x := ⟨_, rfl⟩
 have hxs := hs x (by rw [← hx]; exact List.getElem_mem hi)
 obtain ⟨X, hX⟩ : ∃ X : SV, X = .iptr [AA x.id, AA x.parent, .str x.author, AA x.time, .str x.text, .bool x.done] := ⟨_, rfl⟩
 refine DA 0 [(0, AA i), (1, .iptr [BQ l])] h n ?_ (fun m hm => ?_)
 · simp [go_sem, Fz.same]
 subst hm
 refine Ae 1 [(0, AA i), (1, .iptr [BQ l]), (4, X)] h n ?_ (fun m hm => ?_)
 · rw [hX]
   simp [go_sem, Fz.same, hi, hx, Aw.enc, AC]
   exact ⟨Ac (Af hHb (Nat.le_refl _)) (AC _ _ _), AL hHb (AL hHb AB)⟩
 refine BM 0 (α := Bx) (fun b => [(0, AA i), (1, .iptr [BQ l]), (4, X), (5, .bool b.b)]) (fun _ => h) (fun _ m => n ≤ m) ?_ (fun b m hm => ?_)
 · rw [hX]
   by_cases p0 : x.parent = 0
   · simp [go_sem, p0, Fz.same, hm]; exact ⟨⟨_⟩, rfl⟩
   · have hle : i ≤ l.length := by omega
     have hc := c214 (l.take i) (by simp; omega) 215 [] [.iptr [AA x.id, AA x.parent, .str x.author, AA x.time, .str x.text, .bool x.done]] (fun j => match (l.take i)[j]? with | some y => decide (y.id = x.parent) | none => false) (fun j hj => by rw [List.getElem?_eq_getElem hj]; exact c215 x _)
     generalize QK (fun j => match (l.take i)[j]? with | some y => decide (y.id = x.parent) | none => false) (l.take i).length = ba at hc
     rw [List.map_take] at hc
     simp [go_sem, p0, hle, -List.map_take]
     refine PC.use hc ?_
     simp [go_sem, Fz.same, hm, p0]; exact ⟨⟨ba⟩, Fz.same⟩
 obtain ⟨b⟩ := b
 dsimp only
 refine AX 0 (α := Int) (fun e => [(3, AA e)]) (fun _ => h) (fun _ m => n ≤ m) (CK trT rfl (by kernel_rfl) (by kernel_rfl) ?_) (fun e m hm => ?_)
 · have hHm : ∀ j y, h j = some y → j < m := fun j y e => by have := hHb j y e; omega
   rw [hX]
   simp [go_sem, trT]
   have hF : ∀ j, j ≤ i → PC 216 ([] ++ [AA j] ++ [.iptr [BQ l]]) (AA (match l[j]? with | some r => r.id | none => 0)) := fun j hj => by
    have hj2 : j < l.length := by omega
    simpa [hj2] using c216 l j hj2
   refine (To i (by omega) 216 [] [.iptr [BQ l]] (fun j => match l[j]? with | some r => r.id | none => 0) hF).use ?_
   generalize GO (fun j => match l[j]? with | some r => r.id | none => 0) i = e1
   simp [go_sem]
   refine (Iv _ _).use ?_
   simp [go_sem]
   refine (c154 x.author (by omega)).use ?_
   simp [go_sem]
   refine (Iv _ _).use ?_
   simp [go_sem]
   refine (Je _ _ _).use ?_
   simp [go_sem]
   refine (Iv _ _).use ?_
   simp [go_sem]
   refine (c217 x.text (by omega)).use ?_
   simp [go_sem]
   generalize (if b = false then (8 : Int) else 0) = e2
   generalize (if D6 x.author = false then (39 : Int) else 0) = e3
   generalize (if x.time < 0 ∨ 1099511627776 < x.time then (40 : Int) else 0) = e4
   generalize Nj x.text = e5
   refine Ag.fz (bs := [.imm 1 ([e1, e2, e3, e4, e5].map AA) false]) (h2 := h) 1 (AL hHm AB) ⟨?_, trivial⟩ ?_
   · exact Dq (es := [AA e1, AA e2, AA e3, AA e4, AA e5]) (Af hHm (Nat.le_refl _)) (by simp) (by rw [AC]; simp [SV.cells]) (by simp [SV.storable, SV.cells])
   refine (Ox _ (by simp)).use ?_
   simp [go_sem]
   exact ⟨by omega, _, Fz.same⟩
 · refine AH ?_
   simp [go_sem]
   exact GB ho AB (by simp [closed]) ⟨e, rfl⟩
section
variable {P : Program} {E : Bl} {evs : Operand → SV} {o : Oper} {h : Hp} {n : Nat} {K : SV → Hp → Nat → Prop}
abbrev Dy (b : UInt8) : SV := .int .u8 b.toNat
theorem Qe {src dst e : TypeId} {x : Operand} {s : ByteArray} (ho : o.op = .convert src dst x) (hs : Ep P src = true) (hd : BA P dst = some e) (he : Kd P e = some .u8) (hx : evs x = .str s)
 (hk : K (.imm 1 (s.data.toList.map Dy) false) h n) : Dw E P evs o h n K := by
 refine ⟨by rw [ho]; simp, fun c ev _ _ R F hv => ?_⟩
 have hvx := hv x
 rw [hx] at hvx
 have hvx := Kf hvx
 have hrun := Lib.run_convert_string_bytes (P := P) c.w src dst e s (Er hs) (As hd) (Fw he)
 have hsz := Lib.bytesWorld_size c.w e s
 have X : DV c { c with w := Lib.bytesWorld c.w e s } := by
  refine ⟨fun _ _ e => e, by simp [hsz], fun b hb hn => ⟨hn, Lib.bytesWorld_at_old c.w e s b hb⟩, fun b => ?_, ?_, ?_⟩
  · unfold rm
    rcases Nat.lt_or_ge b c.w.heap.size with hx | hx
    · simp only [Lib.bytesWorld_at_old c.w e s b hx]; exact Nat.le_refl _
    · simp [Array.getElem?_eq_none hx]
  · simp only [Lib.bytesWorld, World.freeze]; split <;> rfl
  · simp only [Lib.bytesWorld, World.freeze]; split <;> rfl
 have hcap : s.size ≤ grownCap c.w s.size 0 e := by unfold grownCap; exact Nat.le_add_right _ _
 have hlen : s.data.toList.length = s.size := by rw [Array.length_toList]; rfl
 refine ⟨.slice (some ⟨c.w.heap.size, 0, none⟩) s.size (grownCap c.w s.size 0 e), .imm 1 (s.data.toList.map Dy) false, h, n, { c with w := Lib.bytesWorld c.w e s }, by simp only [execOp, ho, hvx, Sem.run_bind, hrun, Result.andThen_ok, Sem.run_pure], ?_, ⟨fun o x e => (R.obj o x e).mono X fun b st hb => ?_, R.inj, R.own⟩, F, ⟨X, Nat.le_refl _, fun _ _ => rfl⟩, hk⟩
 · rw [V]
   refine .inr ⟨⟨c.w.heap.size, 0, none⟩, grownCap c.w s.size 0 e, s.data.toList.map (fun b => Value.int .u8 b.toNat), by simp [hlen], by simp [hlen]; exact hcap, by simp, ⟨fun _ => rfl, fun _ hb => ?_, fun i x hi => ?_, fun x hx => ?_⟩, ?_⟩
   · obtain ⟨o', x, st, e1, e2⟩ := (R.own _).1 hb
     obtain ⟨b', st', h1, h2⟩ := (R.obj o' x e1).block
     rw [e2] at h1; cases h1; exact Nat.lt_irrefl _ h2
   · rw [List.getElem?_map, Option.map_eq_some_iff] at hi
     obtain ⟨b, hb, rfl⟩ := hi
     have hil := (List.getElem?_eq_some_iff.1 hb).1
     have := Lib.bytesWorld_cell c.w e s i (by omega)
     rw [List.getD_eq_getElem?_getD, hb] at this
     simpa using this
   · obtain ⟨b, _, rfl⟩ := List.mem_map.1 hx; rfl
   · rw [IM]
     refine ⟨s.data.toList.map (fun b => Value.int .u8 b.toNat), AQ.map (R := fun a b => a = b) (fun a b e => by subst e; simp [V]) ?_, ?_, ?_, ?_⟩
     · have : ∀ l : List UInt8, AQ (fun a b => a = b) l l := fun l => by induction l with | nil => trivial | cons a l ih => exact ⟨rfl, ih⟩
       exact this _
     · intro u hu; obtain ⟨b, _, rfl⟩ := List.mem_map.1 hu; rfl
     · intro u hu; obtain ⟨b, _, rfl⟩ := List.mem_map.1 hu; rfl
     · have : ∀ l : List UInt8, l.map (fun b => Value.int .u8 b.toNat) = (l.map (fun b => Value.int .u8 b.toNat)).flatMap (·.cells.toList) := fun l => by induction l with | nil => rfl | cons a l ih => rw [List.map_cons, List.flatMap_cons, ← ih]; rfl
       exact this _
 · obtain ⟨b', st', h1, h2⟩ := (R.obj o x e).block
   rw [hb] at h1; cases h1
   exact Lib.bytesWorld_at_old c.w _ s b h2
theorem MD {x : Operand} {ts : Array TypeId} {j off z len : Nat} {full : Bool} (ho : o.op = .call { callee := .builtin .unsafeSliceData, args := #[x], argTypes := ts }) (hx : evs x = .sl j off z len full) (hl : len ≠ 0)
 (hk : K (.ptr j off) h n) : Dw E P evs o h n K := by
 refine ⟨by rw [ho]; simp, fun c ev _ _ R F hv => ?_⟩
 have hvx := hv x
 rw [hx, V] at hvx
 obtain ⟨b, st, cap, hρ, hu, hcap, _⟩ := hvx
 refine ⟨.pointer (some ⟨b, st + off, none⟩), .ptr j off, h, n, c, ?_, by rw [V]; exact ⟨b, st, hρ, rfl⟩, R, F, FY.refl n c, hk⟩
 refine BW (P := P) (ev := ev) ho _ _ _ fun cs => ?_
 have hr := Lib.run_unsafeSliceData_row (P := P) c.w ts o.type ⟨b, st + off, none⟩ len cap (by omega)
 simp only [BigFrame.builtin_unsafeSliceData, Sem.run_bind, Sem.run_pure]
 simp only [List.map_toArray, List.map_cons, List.map_nil, hu] at hr ⊢
 rw [hr]; rfl
theorem J0 {x y : Operand} {pt it e : TypeId} {j : Nat} {bs : List UInt8} (ho : o.op = .call { callee := .builtin .unsafeString, args := #[x, y], argTypes := #[pt, it] }) (hpt : P.underlying pt = some (.pointer e)) (hc : P.cellsOf e = 1)
 (hx : evs x = .ptr j 0) (hy : evs y = .int .i64 bs.length) (hj : h j = some (.cells (bs.map Dy) (some e))) (hne : bs ≠ []) (h63 : bs.length ≤ 9223372036854775807)
 (hk : K (.str ⟨bs.toArray⟩) (hset h j none) n) : Dw E P evs o h n K := by
 refine ⟨by rw [ho]; simp, fun c ev _ _ R F hv => ?_⟩
 have hvx := hv x
 rw [hx, V] at hvx
 obtain ⟨b, st, hρ, hu⟩ := hvx
 have hvy := hv y
 rw [hy] at hvy
 have hvy := C9 hvy
 obtain ⟨b', st', arr, e', vs, g1, g2, g3, g4, g5, g6⟩ := R.obj _ _ hj
 rw [hρ] at g1; cases g1
 obtain ⟨hst, rfl⟩ := g6 e rfl
 subst hst
 have hl := g4.length
 rw [List.length_map] at hl
 have hblt := (Array.getElem?_eq_some_iff.1 g2).1
 have hsz : bs.length ≤ arr.size := by
  rcases Nat.eq_zero_or_pos bs.length with h0 | h0
  · omega
  · have hlast : vs[bs.length - 1]? = some vs[bs.length - 1] := List.getElem?_eq_getElem (by omega)
    have := (Array.getElem?_eq_some_iff.1 (g3 _ _ hlast)).1
    omega
 have hcell : ∀ i x, bs[i]? = some x → c.w.cell? ((⟨b, 0, none⟩ : Addr).add i) = some (.int .u8 x.toNat) := fun i x hi => by
  have h1 : (bs.map Dy)[i]? = some (Dy x) := by rw [List.getElem?_map, hi]; rfl
  obtain ⟨v, hv1, hv2⟩ := g4.get h1
  have := C9 hv2
  subst this
  have h3 := g3 i _ hv1
  rw [CY rfl]
  simp only [World.cell?, g2]
  simpa using h3
 have hr := Lib.run_unsafeString_row (P := P) c.w pt it o.type e' hpt hc b arr.size (by simp [World.shape?, g2]) bs hne hsz h63 hcell
 have hfz : ∀ k, k ≠ b → (c.w.freeze ⟨b, 0, none⟩ bs.length).heap[k]? = c.w.heap[k]? := fun k hk => by
  unfold World.freeze; split
  · rfl
  · simp only [Array.getElem?_modify]; rw [if_neg (Ne.symm hk)]
 have hfs : (c.w.freeze ⟨b, 0, none⟩ bs.length).heap.size = c.w.heap.size := by unfold World.freeze; split <;> simp
 have hown : c.own b := (R.own b).2 ⟨j, _, 0, hj, hρ⟩
 have Rk := R.kill j hj
 have hrm : ∀ k, rm c.w k ≤ rm (c.w.freeze ⟨b, 0, none⟩ bs.length) k := fun k => by
  by_cases hk : k = b
  · subst hk
    have h0 : ¬ bs.length = 0 := by simpa using hne
    unfold rm World.freeze
    rw [if_neg h0]
    simp only [Array.getElem?_modify, if_true, g2, Option.map_some]
    exact Nat.le_refl _
  · unfold rm; rw [hfz k hk]; exact Nat.le_refl _
 have hko : ∀ k, ¬ c.own k → ¬ (c.kill j).own k := fun k hk h2 => by
  obtain ⟨o', x', st', e1, e2⟩ := (Rk.own k).1 h2
  simp only [hset] at e1
  split at e1
  · cases e1
  · exact hk ((R.own k).2 ⟨o', x', st', e1, e2⟩)
 have X : DV c { (c.kill j) with w := c.w.freeze ⟨b, 0, none⟩ bs.length } :=
  ⟨fun _ _ e => e, by simp [hfs], fun k hk hn => ⟨hko k hn, hfz k (by rintro rfl; exact hn hown)⟩, hrm, by unfold World.freeze; split <;> rfl, by unfold World.freeze; split <;> rfl⟩
 refine ⟨.string ⟨bs.toArray⟩, .str ⟨bs.toArray⟩, hset h j none, n, { (c.kill j) with w := c.w.freeze ⟨b, 0, none⟩ bs.length }, ?_, by rw [V], ⟨fun o x e => ?_, Rk.inj, Rk.own⟩, F, ⟨X, Nat.le_refl _, fun _ _ => rfl⟩, hk⟩
 · refine BW (P := P) (ev := ev) ho _ _ _ fun cs => ?_
   simp only [BigFrame.builtin_unsafeString, Sem.run_bind, Sem.run_pure]
   simp only [List.map_toArray, List.map_cons, List.map_nil, hu, hvy, Nat.add_zero] at hr ⊢
   rw [hr]; rfl
 · simp only [hset] at e
   split at e
   · cases e
   · rename_i hoj
     refine (R.obj o x e).mono0 X.to0 fun k st hk => hfz k ?_
     intro e0
     rw [e0] at hk
     exact hoj (R.inj o j x _ b st 0 e hj hk hρ)
end
set_option maxRecDepth 100000 in
set_option maxHeartbeats 2000000 in
theorem Sg (b : Nat) (w : World) (h0 : w.cell? ⟨b, 2, none⟩ = some (.pointer (some ⟨b, 2, none⟩))) :
 Calls Tryz.prog 335 #[.pointer (some ⟨b, 2, none⟩)] w fun e w' => e = .returned (.tuple #[]) ∧ w' = w := by
 obtain ⟨j, hj, _⟩ := Option.map_eq_some_iff.1 (show (Tryz.prog.info? 386).map (·.size) = some 2 by kernel_rfl)
 go_enter Tryz.func335, Tryz.ntmps335
 go_wp2
 rw [Lib.run_neq_ptr_same w _ Tryz.underlying384 hj]
 go_wp2
 go_end0
 exact ⟨rfl, rfl⟩
theorem liesB (m : Nat) : liesAt Tryz.prog Tryz.prog.depth 388 (m + 1) 2 386 1 = true := by kernel_rfl
theorem RI : Tryz.prog.cellsOf 388 = 7 := by kernel_rfl
set_option maxRecDepth 100000 in
set_option maxHeartbeats 2000000 in
theorem RH (b k : Nat) (w : World) (h0 : w.cell? ⟨b, 2, none⟩ = some (.pointer none)) (hsh : w.shape? b = some (388, k)) (hk : 7 ≤ k) (hfz : w.frozen? ⟨b, 2, none⟩ = false) :
 Calls Tryz.prog 335 #[.pointer (some ⟨b, 2, none⟩)] w fun e w' => e = .returned (.tuple #[]) ∧ w' = w.setCell ⟨b, 2, none⟩ (.pointer (some ⟨b, 2, none⟩)) := by
 obtain ⟨j, hj, hjs⟩ := Option.map_eq_some_iff.1 (show (Tryz.prog.info? 386).map (·.size) = some 2 by kernel_rfl)
 obtain ⟨m, hm⟩ : ∃ m, k / Tryz.prog.cellsOf 388 = m + 1 := ⟨k / 7 - 1, by rw [RI]; omega⟩
 have hlies := liesB m
 rw [← hm] at hlies
 go_enter Tryz.func335, Tryz.ntmps335
 go_wp2
 rw [Lib.run_to_unsafe w ⟨b, 2, none⟩ Tryz.underlying384 Tryz.underlying403 hj (by rw [hjs]; decide) hsh (by simp; omega)]
 simp only [Result.andThen]
 rw [Oper.upon_value]
 go_wp2
 rw [run_callFunc_extern Tryz.func341 (by kernel_rfl) (by kernel_rfl) (by kernel_rfl) (e := Extern.AbiNoEscape.same) (by kernel_rfl)]
 rw [Lib.run_noEscape]
 simp only [Result.andThen]
 rw [Oper.upon_value]
 go_wp2
 rw [Lib.run_from_unsafe w ⟨b, 2, none⟩ Tryz.underlying403 Tryz.underlying384 hj hsh hlies]
 simp only [Result.andThen]
 rw [Oper.upon_value]
 go_wp2
 go_end0
 exact ⟨rfl, rfl⟩
theorem ok335 : L8 Tryz.prog 335 = true := by unfold L8; rw [Tryz.func335]; kernel_rfl
theorem d335 {H : Hp} {n q : Nat} {a b p buf : SV} {r : List SV} (hH : H q = some (.cells (a :: b :: p :: buf :: r) (some 388))) (hp : p = .nilp ∨ p = .ptr q 2) (hr : r.length = 3) :
 BO Tryz.prog 335 [.ptr q 2] H n (fun v h' n' => v = .tup [] ∧ h' = hset H q (some (.cells (a :: b :: .ptr q 2 :: buf :: r) (some 388))) ∧ n' = n) := by
 refine ⟨ok335, fun c vs _ R F A => ?_⟩
 obtain ⟨u, rfl, hv⟩ := A.single
 rw [V] at hv
 obtain ⟨b0, st, hρ, rfl⟩ := hv
 obtain ⟨b', st', arr, e, us, g1, g2, g3, g4, g5, g6⟩ := R.obj q _ hH
 rw [hρ] at g1; cases g1
 obtain ⟨hst, rfl⟩ := g6 388 rfl
 subst hst
 obtain ⟨v2, hv2, hvp⟩ := g4.get (i := 2) (a := p) rfl
 have h2 := g3 2 _ hv2
 have hcell : c.w.cell? ⟨b0, 2, none⟩ = some v2 := by simp only [World.cell?, g2]; simpa using h2
 have hlen := g4.length
 simp only [List.length_cons, hr] at hlen
 have hsz : 7 ≤ arr.size := by
  have hlast : us[6]? = some us[6] := List.getElem?_eq_getElem (by omega)
  have := (Array.getElem?_eq_some_iff.1 (g3 _ _ hlast)).1
  omega
 have hself : V c (.ptr q 2) (.pointer (some ⟨b0, 2, none⟩)) := by rw [V]; exact ⟨b0, 0, hρ, by simp⟩
 simp only [Nat.zero_add]
 rcases hp with rfl | rfl
 · rw [V] at hvp
   subst hvp
   obtain ⟨w', hrun, R', X⟩ := IE (P := Tryz.prog) (off := 2) (xs := [.ptr q 2]) (us := [.pointer (some ⟨b0, 2, none⟩)]) R hH hρ (by simp) (by simp) ⟨hself, trivial⟩ (by simp [Value.oneCell'])
   have hrun2 := run_storeCells_cells (P := Tryz.prog) b0 2 [.pointer (some ⟨b0, 2, none⟩)] 0 c.w (by intro j hj; simp at hj; subst hj; simp [hcell]) (by intro j hj; simp at hj; subst hj; simp [World.frozen?, g2]) (by simp [Value.oneCell'])
   simp only [Nat.zero_add, Nat.add_zero] at hrun hrun2
   rw [hrun] at hrun2
   simp only [Result.ok.injEq, true_and] at hrun2
   refine (RH b0 arr.size c.w hcell (by simp [World.shape?, g2]) hsz (by simp [World.frozen?, g2])).mono ?_
   rintro e w2 ⟨rfl, rfl⟩
   have hw : w' = c.w.setCell ⟨b0, 2, none⟩ (.pointer (some ⟨b0, 2, none⟩)) := by rw [hrun2]; rfl
   subst hw
   exact ⟨.tuple #[], .tup [], _, n, { c with w := c.w.setCell ⟨b0, 2, none⟩ (.pointer (some ⟨b0, 2, none⟩)) }, rfl, ⟨rfl, rfl, rfl⟩, rfl, by simp [V, VL], by simpa using R', F, ⟨X, Nat.le_refl _, fun _ _ => rfl⟩⟩
 · rw [V] at hvp
   obtain ⟨b1, st1, hρ1, rfl⟩ := hvp
   rw [hρ] at hρ1; cases hρ1
   have hself2 : hset H q (some (.cells (a :: b :: .ptr q 2 :: buf :: r) (some 388))) = H := by
    funext k
    by_cases hk : k = q
    · subst hk; rw [OM, hH]
    · simp [hset, hk]
   refine (Sg b0 c.w (by simpa using hcell)).mono ?_
   rintro e w2 ⟨rfl, rfl⟩
   exact ⟨.tuple #[], .tup [], _, n, c, rfl, ⟨rfl, hself2.symm, rfl⟩, rfl, by simp [V, VL], R, F, FY.refl n c⟩
def EY (ob : Option Nat) (bs : List UInt8) : SV := Aa 1 ob (bs.map Dy)
theorem appB {H : Hp} {k p : Nat} {ob : Option Nat} {bs : List UInt8} {x : UInt8} (h0 : ob = none → bs = []) (h1 : H k = some (.cells [Dy x])) (h2 : ∀ j, ob = some j → H j = some (.cells (bs.map Dy) (some 5))) (hroom : bs.length + 1 ≤ 1073741824) :
 AZ Tryz.prog H p .append [381, 381] [EY ob bs, .sl k 0 1 1 true] = some { val := .sl p 0 1 (bs.length + 1) false, upd := ob.map fun j => (j, none), new := some (.cells ((bs ++ [x]).map Dy) (some 5)) } := by
 have e1 : BA Tryz.prog 381 = some 5 := by simp [go_sem]
 have e2 : Bb Tryz.prog 5 = 1 := by simp [go_sem]
 have e3 : (BN Tryz.prog 5).storable = true := by simp [go_sem]
 have e4 : (BN Tryz.prog 5).cells.length = 1 := by simp [go_sem]
 have e5 : Bj Tryz.prog 5 ≤ 65536 := by simp [go_sem]
 have e6 : II 5 = some 5 := by rfl
 have hfl : flat H (.sl k 0 1 1 true) = some [Dy x] := by simp [flat, h1, Bi]
 have hr : EW (bs.length + 1) (Bj Tryz.prog 5) = true := by simp only [EW, Bool.and_eq_true, decide_eq_true_eq]; exact ⟨by omega, e5⟩
 simp only [AZ, e1, Option.isSome_some, if_true, Ed, F7, hfl, e2, e3, e4]
 cases ob with
 | none =>
  have := h0 rfl
  subst this
  simp [EY, Aa, J6, e6]
  simpa using hr
 | some j =>
  have hj := h2 j rfl
  have hf : flat H (.sl j 0 1 bs.length false) = some (bs.map Dy) := by simp [flat, hj, Bi]; exact List.take_of_length_le (by simp)
  have ht : HL H 5 j 0 = some 5 := by simp [HL, e6, UW, hj]
  simp [EY, Aa, J6, hf, hr, ht]
theorem d329 {G : Hp} {n q : Nat} {a at_ p pr pl e : SV} {ob : Option Nat} {bs : List UInt8} {x : UInt8} (hG : G q = some (.cells [a, at_, p, EY ob bs, pr, pl, e] (some 388))) (hp : p = .nilp ∨ p = .ptr q 2)
 (h0 : ob = none → bs = []) (h2 : ∀ j, ob = some j → j ≠ q ∧ G j = some (.cells (bs.map Dy) (some 5))) (hroom : bs.length + 1 ≤ 1073741824) :
 BO Tryz.prog 329 [.ptr q 2, Dy x] G n (fun _ h' n' => ∃ j, (∀ o y, o ≠ q → ob ≠ some o → G o = some y → h' o = some y) ∧ h' q = some (.cells [a, at_, .ptr q 2, EY (some j) (bs ++ [x]), pr, pl, e] (some 388)) ∧
  h' j = some (.cells ((bs ++ [x]).map Dy) (some 5)) ∧ n ≤ j ∧ j < n') := by
 refine ED Tryz.func329 rfl fun ho => ?_
 have hqn : q < n := (ho q _ hG).1
 have hjn : ∀ j, ob = some j → j < n := fun j e => (ho j _ (h2 j e).2).1
 refine DA 0 [(0, .ptr q 2), (1, Dy x)] G n ?_ (fun m hm => ?_)
 · simp [go_sem, Fz.same]
 subst hm
 refine DA 0 [(0, .ptr q 2), (1, Dy x)] (hset G q (some (.cells [a, at_, .ptr q 2, EY ob bs, pr, pl, e] (some 388)))) n ?_ (fun m hm => ?_)
 · simp [go_sem]
   refine SC.use (d335 hG hp rfl) ?_
   rintro v H' n' ⟨rfl, rfl, rfl⟩
   simp [go_sem, Fz.same]
 subst hm
 refine AH ?_
 have hne : q ≠ n := by omega
 have hne1 : q ≠ n + 1 := by omega
 simp [go_sem, AC]
 have hap : ∀ p, AZ Tryz.prog (hset (hset G q (some (.cells [a, at_, .ptr q 2, EY ob bs, pr, pl, e] (some 388)))) n (some (.cells [Dy x]))) p .append [381, 381] [EY ob bs, .sl n 0 1 1 true] = _ := fun p =>
  appB h0 (AC _ _ _) (fun j e => by rw [AD _ _ (by have := hjn j e; omega), AD _ _ (h2 j e).1]; exact (h2 j e).2) hroom
 have hbv : EY (some (n + 1)) (bs ++ [x]) = .sl (n + 1) 0 1 (bs.length + 1) false := by simp [EY, Aa]
 cases ob with
 | none =>
  simp [go_sem, hap, AC, AD, hne, hne1]
  refine .inl ⟨fun o y h1 h3 => ?_, n + 1, by rw [AC, hbv], by rw [AD _ _ (Ne.symm hne1), AC], by omega, by omega⟩
  have := (ho o y h3).1
  rw [AD _ _ h1, AD _ _ (by omega), AD _ _ (by omega), AD _ _ h1]; exact h3
 | some j =>
  have hjq := (h2 j rfl).1
  have hjl := hjn j rfl
  have hqj : q ≠ j := Ne.symm hjq
  simp [go_sem, hap, AC, AD, hne, hne1, hqj]
  refine .inl ⟨fun o y h1 h2 h3 => ?_, n + 1, by rw [AC, hbv], by rw [AD _ _ (Ne.symm hne1), AC], by omega, by omega⟩
  have := (ho o y h3).1
  rw [AD _ _ h1, AD _ _ (by omega), AD _ _ (Ne.symm h2), AD _ _ (by omega), AD _ _ h1]; exact h3
theorem Tw : Tryz.prog.cellsOf 5 = 1 := by kernel_rfl
theorem d336 {G : Hp} {n q : Nat} {a at_ p pr pl e : SV} {ob : Option Nat} {bs : List UInt8} (hG : G q = some (.cells [a, at_, p, EY ob bs, pr, pl, e] (some 388))) (h0 : ob = none → bs = []) :
 BO Tryz.prog 336 [.ptr q 2] G n (fun v h' n' => v = AA bs.length ∧ h' = G ∧ n' = n) := by
 refine ED Tryz.func336 rfl fun ho => ?_
 have hqn : q < n := (ho q _ hG).1
 refine AH ?_
 cases ob with
 | none =>
  have := h0 rfl
  subst this
  simp [go_sem, hG, EY, Aa]
  exact BC ho rfl rfl
 | some j =>
  simp [go_sem, hG, EY, Aa]
  exact BC ho rfl rfl
def trSt : Tr := .pure 0 (.pure 1 (.pure 2 (.pure 5 (.pure 6 (.pure 7 (.two 3 8 (.two 4 8 (.one 8 (.one 9 (.one 10 (.one 11 .nil)))) (.two 4 9 (.one 9 (.one 10 (.one 11 .nil))) (.one 4 (.one 10 (.one 11 .nil))))) (.two 3 9 (.two 4 9 (.one 9 (.one 10 (.one 11 .nil))) (.one 4 (.one 10 (.one 11 .nil)))) (.one 3 (.one 4 (.one 10 (.one 11 .nil)))))))))))
theorem d337 {G : Hp} {n q j : Nat} {a at_ p pr pl e : SV} {bs : List UInt8} (hG : G q = some (.cells [a, at_, p, EY (some j) bs, pr, pl, e] (some 388))) (hj : G j = some (.cells (bs.map Dy) (some 5))) (_hjq : j ≠ q) (hne : bs ≠ []) (hlen : bs.length ≤ 1073741824) :
 BO Tryz.prog 337 [.ptr q 2] G n (fun v h' n' => v = .str ⟨bs.toArray⟩ ∧ h' = hset G j none ∧ n' = n) := by
 refine ED Tryz.func337 rfl fun ho => ?_
 have hqn : q < n := (ho q _ hG).1
 have hl0 : bs.length ≠ 0 := by simpa using hne
 refine DA 0 [(0, .ptr q 2)] G n ?_ (fun m hm => ?_)
 · simp [go_sem, Fz.same]
 subst hm
 refine AX 0 (α := Unit) (fun _ => [(2, .str ⟨bs.toArray⟩)]) (fun _ => hset G j none) (fun _ m => n = m) (CK trSt rfl (by kernel_rfl) (by kernel_rfl) ?_) (fun _ m hm => ?_)
 · have hb : EY (some j) bs = .sl j 0 1 bs.length false := by simp [EY, Aa]
   rw [hb] at hG
   simp [go_sem, trSt, hG]
   have hA : ∀ {E : Bl} {evs : Operand → SV} {o : Oper} {n : Nat} {K : SV → Hp → Nat → Prop} {x : Operand} {ts : Array TypeId}, o.op = .call { callee := .builtin .unsafeSliceData, args := #[x], argTypes := ts } → evs x = .sl j 0 1 bs.length false → K (.ptr j 0) G n → Dw E Tryz.prog evs o G n K := fun e1 e2 k => MD e1 e2 hl0 k
   have hB : ∀ {E : Bl} {evs : Operand → SV} {o : Oper} {n : Nat} {K : SV → Hp → Nat → Prop} {x y : Operand} {it : TypeId}, o.op = .call { callee := .builtin .unsafeString, args := #[x, y], argTypes := #[405, it] } → evs x = .ptr j 0 → evs y = AA bs.length → K (.str ⟨bs.toArray⟩) (hset G j none) n → Dw E Tryz.prog evs o G n K := fun e1 e2 e3 k => J0 e1 Tryz.underlying405 Tw e2 e3 hj hne (by omega) k
   refine ⟨⟨?_, ?_, ?_⟩, ⟨?_, ?_⟩, ?_⟩
   all_goals
    refine hA rfl rfl ?_
    simp [go_sem, hG]
    refine hB rfl rfl rfl ?_
    simp [go_sem, Fz.same]
 subst hm
 refine AH ?_
 simp [go_sem]
 refine .inl ⟨rfl, rfl, rfl⟩
theorem d338 {G : Hp} {n q : Nat} {a at_ p b pr pl e : SV} (hG : G q = some (.cells [a, at_, p, b, pr, pl, e] (some 388))) :
 BO Tryz.prog 338 [.ptr q 2] G n (fun v h' n' => v = .tup [] ∧ h' = hset G q (some (.cells [a, at_, .nilp, .imm 0 [] true, pr, pl, e] (some 388))) ∧ n' = n) := by
 refine ED Tryz.func338 rfl fun ho => ?_
 refine AH ?_
 simp [go_sem, hG, AC, Aq]
 refine .inl ⟨rfl, rfl, rfl⟩
end Go.Proofs.YtgakninlhfkkmaaGreat.Sh
