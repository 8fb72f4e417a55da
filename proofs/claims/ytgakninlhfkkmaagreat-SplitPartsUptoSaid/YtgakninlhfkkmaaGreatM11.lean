/- SplitPartsUptoSaid: a part of its proof (part 11 of 14). -/
import Derived.Test.YtgakninlhfkkmaaGreatM10
namespace Go.Proofs.YtgakninlhfkkmaaGreat.Sh
open Proofs
set_option maxRecDepth 10000
theorem My {E : Bl} {N : Nat} {a : Code} {Q : CZ} {sa : SA} {h : Hp} {n : Nat} (H : Fd h n → SP E N a Q sa h n) : SP E N a Q sa h n :=
 fun hd c act I R F A => H (fun o x e => Gx F (R.obj o x e)) hd c act I R F A
structure Scd (G : Hp) (q B : Nat) (s : ByteArray) (at_ : Int) (bs : List UInt8) (ps : List Bm) (pl e : Int) (p : SV) (ob op : Option Nat) : Prop where
 le : B ≤ q
 cells : G q = some (.cells [.str s, AA at_, p, EY ob bs, Aa 3 op (ps.map Bm.enc), AA pl, AA e] (some 388))
 p : p = .nilp ∨ p = .ptr q 2
 b0 : ob = none → bs = []
 b1 : ∀ j, ob = some j → B ≤ j ∧ j ≠ q ∧ bs ≠ [] ∧ G j = some (.cells (bs.map Dy) (some 5))
 o0 : op = none → ps = []
 o1 : ∀ j, op = some j → B ≤ j ∧ j ≠ q ∧ ob ≠ some j ∧ G j = some (.cells ((ps.map Bm.enc).flatMap SV.cells))
def Q2 (G : Hp) (q B : Nat) (s : ByteArray) (at_ : Int) (bs : List UInt8) (ps : List Bm) (pl e : Int) : Prop := ∃ p ob op, Scd G q B s at_ bs ps pl e p ob op
def TP (q B : Nat) (s : ByteArray) (G : Hp) (n : Nat) (R : Int → List UInt8 → List Bm → Int → Int → Prop) : SV → Hp → Nat → Prop := fun _ h' n' =>
 ∃ at_ bs ps pl e, R at_ bs ps pl e ∧ Q2 h' q B s at_ bs ps pl e ∧ (∀ o y, o < B → G o = some y → h' o = some y) ∧ n ≤ n'
theorem Bm.len (p : Bm) : p.enc.cells.length = 3 := rfl
theorem Bm.size (ps : List Bm) : ∀ e ∈ ps.map Bm.enc, e.storable = true ∧ e.cells.length = 3 := fun e he => by obtain ⟨x, _, rfl⟩ := List.mem_map.1 he; exact ⟨rfl, rfl⟩
theorem appP {X : Hp} {k p : Nat} {op : Option Nat} {ps : List Bm} {x : Bm} (h0 : op = none → ps = []) (h1 : X k = some (.cells x.enc.cells)) (h2 : ∀ j, op = some j → X j = some (.cells ((ps.map Bm.enc).flatMap SV.cells))) (hroom : ps.length + 1 ≤ 1073741824) :
 AZ Tryz.prog X p .append [361, 361] [Aa 3 op (ps.map Bm.enc), .sl k 0 3 1 true] = some { val := .sl p 0 3 (ps.length + 1) false, upd := op.map fun j => (j, none), new := some (.cells ((ps.map Bm.enc).flatMap SV.cells ++ x.enc.cells)) } := by
 have hA : BZ 0 ((op.getD 0) + 1) 3 op (ps.map Bm.enc) := ⟨fun e => by rw [h0 e]; rfl, fun j e => by rw [e]; simp, Bm.size ps⟩
 have := HH (P := Tryz.prog) (H := X) (t := 361) (t2 := 361) (el := 366) (e := x.enc) (by simp [go_sem]) (by simp [go_sem]) (by simp [go_sem]) (by simp) (by simp [go_sem]) (by simp [go_sem]) (by simp [go_sem]) (by simpa using hroom) hA (Bm.len x) h1 h2 p
 simpa using this
def FlP (G : Hp) (B q n : Nat) (C : Nat → List SV) (es : List SV) (z : Hp × Nat) (m : Nat) : Prop :=
 n ≤ m ∧ z.1 q = some (.cells (C z.2) (some 388)) ∧ z.1 z.2 = some (.cells (es.flatMap SV.cells)) ∧ n ≤ z.2 ∧ z.2 < m ∧ ∀ o y, o < B → G o = some y → z.1 o = some y
def UV : Tr := .pure 0 (.pure 1 (.pure 2 (.pure 3 (.pure 5 (.pure 6 (.pure 7 (.two 4 8 (.one 8 (.one 9 (.one 10 (.one 11 (.one 12 (.one 13 (.one 14 .nil))))))) (.two 4 9 (.one 9 (.one 10 (.one 11 (.one 12 (.one 13 (.one 14 .nil)))))) (.two 4 10 (.one 10 (.one 11 (.one 12 (.one 13 (.one 14 .nil))))) (.one 4 (.one 11 (.one 12 (.one 13 (.one 14 .nil))))))))))))))
set_option maxHeartbeats 1000000 in
theorem d330 {G : Hp} {n q B : Nat} {s : ByteArray} {at_ pl e : Int} {bs : List UInt8} {ps : List Bm} (S : Q2 G q B s at_ bs ps pl e) (hb : bs.length ≤ 1048576) (hps : ps.length ≤ 1048576) :
 BO Tryz.prog 330 [.ptr q 0] G n (TP q B s G n fun at' bs' ps' pl' e' => at' = at_ ∧ bs' = [] ∧ ps'.length ≤ ps.length + 1 ∧ pl' = pl ∧ e' = e) := by
 refine ED Tryz.func330 rfl fun ho => ?_
 obtain ⟨p, ob, op, S⟩ := S
 have hqn : q < n := (ho q _ S.cells).1
 by_cases c : bs = []
 · refine DA 0 [(0, .ptr q 0), (6, .bool false)] G n ?_ (fun m hm => ?_)
   · simp [go_sem]
     refine SC.use (d336 S.cells S.b0) ?_
     rintro v H' n' ⟨rfl, rfl, rfl⟩
     simp [go_sem, Fz.same, c]
   subst hm
   refine AH ?_
   simp [go_sem]
   exact .inl ⟨at_, [], ps, pl, e, ⟨rfl, rfl, by omega, rfl, rfl⟩, ⟨p, ob, op, by rw [← c]; exact S⟩, fun o y _ h => h, Nat.le_refl _⟩
 · refine DA 0 [(0, .ptr q 0), (6, .bool true)] G n ?_ (fun m hm => ?_)
   · simp [go_sem]
     refine SC.use (d336 S.cells S.b0) ?_
     rintro v H' n' ⟨rfl, rfl, rfl⟩
     have : 0 < bs.length := by cases bs <;> simp at c ⊢
     simp [go_sem, Fz.same, this]
   subst hm
   refine Ak (b := true) (by simp [go_sem]) ?_
   simp only [if_true]
   cases ob with
   | none => exact absurd (S.b0 rfl) c
   | some j =>
   obtain ⟨j1, j2, j3, j4⟩ := S.b1 j rfl
   have hjn : j < n := (ho j _ j4).1
   have hcells := S.cells
   have x1 : q ≠ j := Ne.symm j2
   have x2 : q ≠ n := by omega
   have x3 : q ≠ n + 1 := by omega
   obtain ⟨x, hx⟩ : ∃ x : Bm, x = ⟨⟨bs.toArray⟩, 0, false⟩ := ⟨_, rfl⟩
   obtain ⟨E, hE⟩ : ∃ E, E = (ps ++ [x]).map Bm.enc := ⟨_, rfl⟩
   have hle := S.le
   refine AX 0 (α := Hp × Nat) (fun _ => [(0, .ptr q 0)]) (fun z => z.1) (FlP G B q n (fun k => [.str s, AA at_, p, EY (some j) bs, Aa 3 (some k) E, AA pl, AA e]) E)
    (CK UV rfl (by kernel_rfl) (by kernel_rfl) ?_) (fun z m hm => ?_)
   · have hap : ∀ (X : Hp) (k p : Nat), X k = some (.cells [.str ⟨bs.toArray⟩, AA 0, .bool false]) → (∀ j, op = some j → X j = some (.cells ((ps.map Bm.enc).flatMap SV.cells))) → _ := fun X k p g1 g2 => appP (x := x) (p := p) S.o0 (by rw [hx]; exact g1) g2 (by omega)
     have hfin : ∀ (X : Hp), X q = some (.cells [.str s, AA at_, p, EY (some j) bs, .sl (n + 1) 0 3 (ps.length + 1) false, AA pl, AA e] (some 388)) → X (n + 1) = some (.cells ((ps.map Bm.enc).flatMap SV.cells ++ x.enc.cells)) → (∀ o y, o < B → G o = some y → X o = some y) →
      FlP G B q n (fun k => [.str s, AA at_, p, EY (some j) bs, Aa 3 (some k) E, AA pl, AA e]) E (X, n + 1) (n + 2) := fun X g1 g2 g3 => ⟨by omega, by show X q = _; rw [g1, hE]; simp [Aa], by show X (n + 1) = _; rw [g2, hE]; simp, by show n ≤ n + 1; omega, by show n + 1 < n + 2; omega, g3⟩
     have step : Ag (Bl.plain.call false 0) Tryz.prog 337 [.ptr q 2] G n (fun v h' n' => v = .str ⟨bs.toArray⟩ ∧ h' = hset G j none ∧ n = n') := SC.use (d337 hcells j4 j2 j3 (by omega)) fun v h' n' ⟨a, b, c⟩ => ⟨a, b, c.symm⟩
     cases op with
     | none =>
      have leaf : ∃ a, (∃ x_1, FlP G B q n (fun k => [.str s, AA at_, p, EY (some j) bs, Aa 3 (some k) E, AA pl, AA e]) E (a, x_1) (n + 1 + 1)) ∧ ∀ (o : Nat) (y : BV), a o = some y → hset (hset (hset (hset G j none) n (some (BV.cells [.str ⟨bs.toArray⟩, AA 0, .bool false]))) (n + 1) (some (.cells (List.flatMap SV.cells (List.map Bm.enc ps) ++ x.enc.cells)))) q (some (.cells [.str s, AA at_, p, EY (some j) bs, .sl (n + 1) 0 3 (ps.length + 1) false, AA pl, AA e] (some 388))) o = some y :=
       ⟨_, ⟨_, hfin _ (AC _ _ _) ((AD _ _ (Ne.symm x3)).trans (AC _ _ _)) fun o y g1 g2 => by have := (ho o y g2).1; rw [AD _ _ (by omega), AD _ _ (by omega), AD _ _ (by omega), AD _ _ (by omega)]; exact g2⟩, AB⟩
      simp [go_sem, UV, hcells]
      refine ⟨?_, ?_⟩
      · refine Ag.mono step ?_
        rintro v H' n' ⟨rfl, rfl, rfl⟩
        simp [go_sem, hap, AC, AD, hcells, x1, x2, x3]
        exact leaf
      · refine Ag.mono step ?_
        rintro v H' n' ⟨rfl, rfl, rfl⟩
        simp [go_sem, hap, AC, AD, hcells, x1, x2, x3]
        exact leaf
     | some i =>
      obtain ⟨i1, i2, i3, i4⟩ := S.o1 i rfl
      have hin : i < n := (ho i _ i4).1
      have hij : i ≠ j := by rintro rfl; exact i3 rfl
      have y1 : i ≠ n := by omega
      have y2 : q ≠ i := Ne.symm i2
      have leaf : ∃ a, (∃ x_1, FlP G B q n (fun k => [.str s, AA at_, p, EY (some j) bs, Aa 3 (some k) E, AA pl, AA e]) E (a, x_1) (n + 1 + 1)) ∧ ∀ (o : Nat) (y : BV), a o = some y → hset (hset (hset (hset (hset G j none) n (some (BV.cells [.str ⟨bs.toArray⟩, AA 0, .bool false]))) i none) (n + 1) (some (.cells (List.flatMap SV.cells (List.map Bm.enc ps) ++ x.enc.cells)))) q (some (.cells [.str s, AA at_, p, EY (some j) bs, .sl (n + 1) 0 3 (ps.length + 1) false, AA pl, AA e] (some 388))) o = some y :=
       ⟨_, ⟨_, hfin _ (AC _ _ _) ((AD _ _ (Ne.symm x3)).trans (AC _ _ _)) fun o y g1 g2 => by have := (ho o y g2).1; rw [AD _ _ (by omega), AD _ _ (by omega), AD _ _ (by omega), AD _ _ (by omega), AD _ _ (by omega)]; exact g2⟩, AB⟩
      simp [go_sem, UV, hcells]
      refine ⟨?_, ?_⟩
      · refine Ag.mono step ?_
        rintro v H' n' ⟨rfl, rfl, rfl⟩
        simp [go_sem, hap, AC, AD, hcells, x1, x2, x3, y1, y2, hij, i4]
        exact leaf
      · refine Ag.mono step ?_
        rintro v H' n' ⟨rfl, rfl, rfl⟩
        simp [go_sem, hap, AC, AD, hcells, x1, x2, x3, y1, y2, hij, i4]
        exact leaf
   obtain ⟨H, k⟩ := z
   obtain ⟨m1, m2, m3, m4, m5, m6⟩ := hm
   dsimp only at m2 m3 m4 m6 ⊢
   rw [hE] at m2 m3
   refine AH ?_
   simp [go_sem]
   refine SC.use (d338 m2) ?_
   rintro v H' n' ⟨rfl, rfl, rfl⟩
   simp [go_sem]
   have := S.le
   refine .inl ⟨at_, [], ps ++ [x], pl, e, ⟨rfl, rfl, ?_, rfl, rfl⟩, ⟨.nilp, none, some k, ⟨S.le, by rw [AC]; simp [EY, Aa], .inl rfl, fun _ => rfl, by simp, by simp, ?_⟩⟩, fun o y g1 g2 => ?_, by omega⟩
   · simp
   · rintro i hi; cases hi
     exact ⟨by omega, by omega, by simp, by rw [AD _ _ (by omega)]; exact m3⟩
   · rw [AD _ _ (by omega)]; exact m6 o y g1 g2
def DgQ (s : ByteArray) (k : Int) (G : Hp) (n : Nat) : SV → Hp → Nat → Prop := fun v h' n' => (∃ b, v = .bool b ∧ (b = true → k < s.size)) ∧ h' = G ∧ n' = n
theorem d333 {G : Hp} {n q B : Nat} {s : ByteArray} {at_ pl e : Int} {bs : List UInt8} {ps : List Bm} (S : Q2 G q B s at_ bs ps pl e) (k : Int) (hk : 0 ≤ k) :
 BO Tryz.prog 333 [.ptr q 0, AA k] G n (DgQ s k G n) := by
 refine ED Tryz.func333 rfl fun ho => ?_
 obtain ⟨p, ob, op, S⟩ := S
 have hc := S.cells
 refine AH ?_
 by_cases c : k < s.size
 · have hkl : k.toNat < s.size := by omega
   obtain ⟨x, hx⟩ : ∃ x, s[k.toNat]'hkl = x := ⟨_, rfl⟩
   have hb : s[k.toNat]? = some x := by rw [RF hkl, hx]
   by_cases c1 : (49 : Int) ≤ x.toNat
   · simp [go_sem, hc, c, hk, hx, c1]
     exact .inl ⟨⟨_, rfl, fun _ => c⟩, rfl, rfl⟩
   · simp [go_sem, hc, c, hk, hx, c1]
     exact .inl ⟨⟨_, rfl, fun _ => c⟩, rfl, rfl⟩
 · simp [go_sem, hc, c]
   exact .inl ⟨⟨false, rfl, by simp⟩, rfl, rfl⟩
def PlP (G : Hp) (B q n : Nat) (s : ByteArray) (at_ pl e : Int) (N : Nat) (z : Hp × List Bm) (m : Nat) : Prop := n ≤ m ∧ Q2 z.1 q B s at_ [] z.2 pl e ∧ z.2.length ≤ N ∧ ∀ o y, o < B → G o = some y → z.1 o = some y
set_option maxHeartbeats 1000000 in
theorem d334 {G : Hp} {n q B : Nat} {s : ByteArray} {at_ pl e d : Int} {b : Bool} {bs : List UInt8} {ps : List Bm} (S : Q2 G q B s at_ bs ps pl e) (hb : bs.length ≤ 1048576) (hps : ps.length ≤ 1048576) :
 BO Tryz.prog 334 [.ptr q 0, .int .u8 d, .bool b] G n (TP q B s G n fun at' bs' ps' _ e' => at' = at_ ∧ bs' = [] ∧ ps'.length ≤ ps.length + 2 ∧ e' = e) := by
 refine ED Tryz.func334 rfl fun ho => ?_
 refine BM 0 (α := Hp × List Bm) (fun _ => [(0, .ptr q 0), (1, .int .u8 d), (2, .bool b)]) (fun z => z.1) (PlP G B q n s at_ pl e (ps.length + 1)) ?_ (fun z m hm => ?_)
 · simp [go_sem]
   refine SC.use (d330 S hb hps) ?_
   rintro v H' n' ⟨a1, a2, a3, a4, a5, ⟨rfl, rfl, r3, rfl, rfl⟩, r6, r7, r8⟩
   simp [go_sem, Fz.same]
   exact ⟨H', ⟨a3, r8, r6, r3, r7⟩, AB⟩
 obtain ⟨X, ps1⟩ := z
 obtain ⟨hm, S1, hl1, hk1⟩ := hm
 dsimp only at S1 hl1 hk1 ⊢
 refine My fun hX => ?_
 have hlt : ∀ o y, X o = some y → o < m := fun o y e => (hX o y e).1
 refine BM 0 (α := Hp × List Bm) (fun _ => [(0, .ptr q 0)]) (fun z => z.1) (PlP G B q n s at_ pl e (ps.length + 2)) ?_ (fun z m hm => ?_)
 · have hle0 := S1.choose_spec.choose_spec.choose_spec.le
   obtain ⟨p, ob, op, S1⟩ := S1
   cases ob with
   | some j => exact absurd rfl (S1.b1 j rfl).2.2.1
   | none =>
   have hcells := S1.cells
   obtain ⟨x, hx⟩ : ∃ x : Bm, x = ⟨.empty, IntKind.i64.wrap (IntKind.u8.wrap (d - 48)), b⟩ := ⟨_, rfl⟩
   have hap : ∀ (X : Hp) (k p : Nat), X k = some (.cells [.str .empty, AA (IntKind.i64.wrap (IntKind.u8.wrap (d - 48))), .bool b]) → (∀ j, op = some j → X j = some (.cells ((ps1.map Bm.enc).flatMap SV.cells))) → _ := fun X k p g1 g2 => appP (x := x) (p := p) S1.o0 (by rw [hx]; exact g1) g2 (by omega)
   have hqm : q < m := hlt q _ hcells
   have x2 : q ≠ m := by omega
   have x3 : q ≠ m + 1 := by omega
   have hsc : ∀ (Y : Hp), Y q = some (.cells [.str s, AA at_, p, EY none [], .sl (m + 1) 0 3 (ps1.length + 1) false, AA pl, AA e] (some 388)) → Y (m + 1) = some (.cells ((ps1.map Bm.enc).flatMap SV.cells ++ x.enc.cells)) → Q2 Y q B s at_ [] (ps1 ++ [x]) pl e := fun Y g1 g2 =>
    ⟨p, none, some (m + 1), S1.le, by rw [g1]; simp [Aa], S1.p, fun _ => rfl, by simp, by simp, by rintro i hi; cases hi; exact ⟨by omega, by omega, by simp, by rw [g2]; simp⟩⟩
   cases op with
   | none =>
    have leaf : ∃ a, (∃ x_1, PlP G B q n s at_ pl e (ps.length + 2) (a, x_1) (m + 1 + 1)) ∧ ∀ (o : Nat) (y : BV), a o = some y → hset (hset (hset X m (some (BV.cells [.str .empty, AA (IntKind.i64.wrap (IntKind.u8.wrap (d - 48))), .bool b]))) (m + 1) (some (.cells (List.flatMap SV.cells (List.map Bm.enc ps1) ++ x.enc.cells)))) q (some (.cells [.str s, AA at_, p, EY none [], .sl (m + 1) 0 3 (ps1.length + 1) false, AA pl, AA e] (some 388))) o = some y :=
     ⟨_, ⟨ps1 ++ [x], by omega, hsc _ (AC _ _ _) ((AD _ _ (Ne.symm x3)).trans (AC _ _ _)), by simp; omega, fun o y g1 g2 => by have := (ho o y g2).1; dsimp only; rw [AD _ _ (by omega), AD _ _ (by omega), AD _ _ (by omega)]; exact hk1 o y g1 g2⟩, AB⟩
    simp [go_sem, hcells, AC, AD, x2, x3, hap]
    exact leaf
   | some i =>
    obtain ⟨i1, i2, i3, i4⟩ := S1.o1 i rfl
    have hin : i < m := hlt i _ i4
    have y1 : i ≠ m := by omega
    have y2 : q ≠ i := Ne.symm i2
    have leaf : ∃ a, (∃ x_1, PlP G B q n s at_ pl e (ps.length + 2) (a, x_1) (m + 1 + 1)) ∧ ∀ (o : Nat) (y : BV), a o = some y → hset (hset (hset (hset X m (some (BV.cells [.str .empty, AA (IntKind.i64.wrap (IntKind.u8.wrap (d - 48))), .bool b]))) i none) (m + 1) (some (.cells (List.flatMap SV.cells (List.map Bm.enc ps1) ++ x.enc.cells)))) q (some (.cells [.str s, AA at_, p, EY none [], .sl (m + 1) 0 3 (ps1.length + 1) false, AA pl, AA e] (some 388))) o = some y :=
     ⟨_, ⟨ps1 ++ [x], by omega, hsc _ (AC _ _ _) ((AD _ _ (Ne.symm x3)).trans (AC _ _ _)), by simp; omega, fun o y g1 g2 => by have := (ho o y g2).1; dsimp only; rw [AD _ _ (by omega), AD _ _ (by omega), AD _ _ (by omega), AD _ _ (by omega)]; exact hk1 o y g1 g2⟩, AB⟩
    simp [go_sem, hcells, AC, AD, x2, x3, hap, y1, y2, i4]
    exact leaf
 obtain ⟨X2, ps2⟩ := z
 obtain ⟨hm2, S2, hl2, hk2⟩ := hm
 dsimp only at S2 hl2 hk2 ⊢
 refine AH ?_
 obtain ⟨p, ob, op, S2⟩ := S2
 have hc2 := S2.cells
 simp [go_sem, hc2]
 have hle := S2.le
 refine .inl ⟨at_, [], ps2, IntKind.i64.wrap (pl + 1), e, ⟨rfl, rfl, hl2, rfl⟩, ⟨p, ob, op, S2.le, AC _ _ _, S2.p, S2.b0, fun j g => absurd rfl (S2.b1 j g).2.2.1, S2.o0, fun j g => ?_⟩, fun o y g1 g2 => ?_, hm2⟩
 · obtain ⟨i1, i2, i3, i4⟩ := S2.o1 j g
   exact ⟨i1, i2, i3, by rw [AD _ _ i2]; exact i4⟩
 · rw [AD _ _ (by omega)]; exact hk2 o y g1 g2
def PreT (a b : ByteArray) (v : SV) : Prop := ∃ x, v = .bool x ∧ (x = true → b.size ≤ a.size)
theorem t340 (a b : ByteArray) : TC 340 [.str a, .str b] (PreT a b) := by
 intro h n
 refine ED Tryz.func340 rfl fun ho => ?_
 refine AH ?_
 by_cases c : (b.size : Int) ≤ a.size
 · simp [go_sem, c]
   exact GB ho AB (by simp [closed]) ⟨_, rfl, fun _ => by omega⟩
 · simp [go_sem, c]
   exact GB ho AB (by simp [closed]) ⟨_, rfl, by simp⟩
theorem t332 (a b : ByteArray) : TC 332 [.str a, .str b] (PreT a b) := by
 intro h n
 refine ED Tryz.func332 rfl fun ho => ?_
 refine AH ?_
 simp [go_sem]
 refine TC.use (t340 a b) ?_
 rintro v ⟨x, rfl, hx⟩
 simp [go_sem]
 exact GB ho AB (by simp [closed]) ⟨x, rfl, hx⟩
theorem Scd.upd {G : Hp} {q B : Nat} {s : ByteArray} {at_ pl e : Int} {bs : List UInt8} {ps : List Bm} {p : SV} {ob op : Option Nat} (S : Scd G q B s at_ bs ps pl e p ob op) (at' pl' e' : Int) :
 Q2 (hset G q (some (.cells [.str s, AA at', p, EY ob bs, Aa 3 op (ps.map Bm.enc), AA pl', AA e'] (some 388)))) q B s at' bs ps pl' e' :=
 ⟨p, ob, op, S.le, AC _ _ _, S.p, S.b0, fun j g => by obtain ⟨a, b, c, d⟩ := S.b1 j g; exact ⟨a, b, c, by rw [AD _ _ b]; exact d⟩, S.o0, fun j g => by obtain ⟨a, b, c, d⟩ := S.o1 j g; exact ⟨a, b, c, by rw [AD _ _ b]; exact d⟩⟩
theorem TW {G : Hp} {n q B : Nat} {s : ByteArray} {at_ pl e : Int} {bs : List UInt8} {ps : List Bm} (S : Q2 G q B s at_ bs ps pl e) (ho : Fd G n) (hb : bs.length ≤ 1048576) (x : UInt8) :
 BO Tryz.prog 329 [.ptr q 2, Dy x] G n (TP q B s G n fun at' bs' ps' pl' e' => at' = at_ ∧ bs' = bs ++ [x] ∧ ps' = ps ∧ pl' = pl ∧ e' = e) := by
 obtain ⟨p, ob, op, S⟩ := S
 have hqn := (ho q _ S.cells).1
 have hle := S.le
 refine (d329 (x := x) S.cells S.p S.b0 (fun j g => ⟨(S.b1 j g).2.1, (S.b1 j g).2.2.2⟩) (by omega)).mono ?_
 rintro v h' n' ⟨j, g1, g2, g3, g4, g5⟩
 refine ⟨at_, bs ++ [x], ps, pl, e, ⟨rfl, rfl, rfl, rfl, rfl⟩, ⟨.ptr q 2, some j, op, S.le, g2, .inr rfl, by simp, fun i hi => ?_, S.o0, fun i hi => ?_⟩, fun o y h1 h2 => g1 o y (by omega) (fun g => ?_) h2, by omega⟩
 · cases hi; exact ⟨by omega, by omega, by simp, g3⟩
 · obtain ⟨i1, i2, i3, i4⟩ := S.o1 i hi
   have := (ho i _ i4).1
   exact ⟨i1, i2, fun g => by cases g; omega, g1 i _ i2 i3 i4⟩
 · have := (S.b1 o g).1; omega
def trPa : Tr := .pure 0 (.pure 1 (.pure 2 (.pure 4 (.pure 5 (.pure 6 (.two 3 7 (.one 7 (.one 8 (.one 9 (.pure 10 .nil)))) (.one 3 (.one 8 (.one 9 (.pure 10 .nil))))))))))
def TH : Tr := .pure 0 (.pure 1 (.pure 2 (.pure 3 (.pure 5 (.pure 6 (.pure 7 (.two 4 8 (.one 8 (.pure 9 (.one 10 (.one 11 .nil)))) (.pure 9 (.one 4 (.one 10 (.one 11 .nil)))))))))))
def trPc : Tr := .pure 0 (.pure 1 (.pure 2 (.pure 4 (.pure 5 (.pure 6 (.two 3 7 (.one 7 (.one 8 (.one 9 (.pure 10 (.pure 11 (.pure 12 (.pure 13 (.pure 14 (.one 15 (.pure 16 (.one 17 (.pure 18 (.pure 19 .nil))))))))))))) (.one 3 (.one 8 (.one 9 (.pure 10 (.pure 11 (.pure 12 (.pure 13 (.pure 14 (.one 15 (.pure 16 (.one 17 (.pure 18 (.pure 19 .nil)))))))))))))))))))
def BkP (n : Nat) (P : Prop) (b : Bx) (m : Nat) : Prop := n ≤ m ∧ (b.b = true → P)
def SU (G : Hp) (q B n : Nat) (s : ByteArray) (R : Int → List UInt8 → List Bm → Int → Int → Prop) (z : Hp) (m : Nat) : Prop := n ≤ m ∧ ∃ at_ bs ps pl e, R at_ bs ps pl e ∧ Q2 z q B s at_ bs ps pl e ∧ ∀ o y, o < B → G o = some y → z o = some y
theorem TP.st {q B : Nat} {s : ByteArray} {G : Hp} {n0 n : Nat} {R : Int → List UInt8 → List Bm → Int → Int → Prop} {v : SV} {h' : Hp} {n' : Nat} (H : TP q B s G n R v h' n') (hn : n0 ≤ n) : SU G q B n0 s R h' n' := by
 obtain ⟨a1, a2, a3, a4, a5, h1, h2, h3, h4⟩ := H
 exact ⟨by omega, a1, a2, a3, a4, a5, h1, h2, h3⟩
def PcR (s : ByteArray) (at_ e : Int) (bs : List UInt8) (ps : List Bm) : Int → List UInt8 → List Bm → Int → Int → Prop := fun at' bs' ps' _ e' =>
 ((at_ < at' ∧ at' ≤ s.size ∧ e' = e) ∨ (at' = at_ ∧ e' = 14)) ∧ bs'.length ≤ bs.length + 1 ∧ ps'.length ≤ ps.length + 2
set_option maxHeartbeats 2000000 in
theorem d328 {G : Hp} {n q B : Nat} {s : ByteArray} {at_ pl e : Int} {bs : List UInt8} {ps : List Bm} (S : Q2 G q B s at_ bs ps pl e) (h0 : 0 ≤ at_) (h1 : at_ < s.size) (hs : s.size ≤ 1048576) (hb : bs.length ≤ 1048576) (hps : ps.length ≤ 1048576) :
 BO Tryz.prog 328 [.ptr q 0] G n (TP q B s G n (PcR s at_ e bs ps)) := by
 refine ED Tryz.func328 rfl fun ho => ?_
 obtain ⟨p0, ob0, op0, S0⟩ := id S
 have hc := S0.cells
 have w1 : IntKind.i64.wrap (at_ + 1) = at_ + 1 := by rw [C8] <;> omega
 have w2 : IntKind.i64.wrap (at_ + 2) = at_ + 2 := by rw [C8] <;> omega
 have w3 : IntKind.i64.wrap (at_ + 3) = at_ + 3 := by rw [C8] <;> omega
 have fin : ∀ (z : Hp) (m : Nat) (a1 e1 at' pl1 pl' e' : Int) (bs' : List UInt8) (ps' : List Bm) (p : SV) (ob op : Option Nat), Scd z q B s a1 bs' ps' pl1 e1 p ob op → (∀ o y, o < B → G o = some y → z o = some y) → n ≤ m → PcR s at_ e bs ps at' bs' ps' pl' e' →
  CG n (hset z q (some (.cells [.str s, AA at', p, EY ob bs', Aa 3 op (ps'.map Bm.enc), AA pl', AA e'] (some 388)))) m (.tup []) (TP q B s G n (PcR s at_ e bs ps)) := fun z m a1 e1 at' pl1 pl' e' bs' ps' p ob op T hk hm hR =>
  .inl ⟨at', bs', ps', pl', e', hR, T.upd at' pl' e', fun o y g1 g2 => by have := T.le; rw [AD _ _ (by omega)]; exact hk o y g1 g2, hm⟩
 refine Ab ?_
 refine AX 0 (α := Bx) (fun b => [(0, .ptr q 0), (5, .bool b.b)]) (fun _ => G) (BkP n (at_ + 2 ≤ s.size)) (CK trPa rfl (by kernel_rfl) (by kernel_rfl) ?_) (fun b m hm => ?_)
 · have hpre : ∀ {K : SV → Hp → Nat → Prop}, (∀ b : Bx, BkP n (at_ + 2 ≤ s.size) b n → K (.bool b.b) G n) → Ag (Bl.plain.call false 0) Tryz.prog 332 [.str (s.extract at_.toNat s.size), .str ⟨#[37, 37]⟩] G n K := fun hK =>
    TC.use (t332 _ _) fun v ⟨x, e1, e2⟩ => by
     rw [e1]
     refine hK ⟨x⟩ ⟨Nat.le_refl _, fun g => ?_⟩
     have := e2 g
     simp at this
     have h9 : (⟨#[37, 37]⟩ : ByteArray).size = 2 := rfl
     omega
   simp [go_sem, trPa, hc, h0]
   have := Int.le_of_lt h1
   simp [this]
   refine ⟨?_, ?_⟩ <;>
   · refine hpre fun b hb => ?_
     simp [go_sem, Fz.same]
     exact ⟨b, hb, rfl⟩
 obtain ⟨b⟩ := b
 obtain ⟨hm, hbb⟩ := hm
 dsimp only at hbb ⊢
 cases b with
 | true =>
  have hbb := hbb rfl
  refine Ak (b := true) (by simp [go_sem]) ?_
  simp only [if_true]
  refine My fun hom => ?_
  refine BM 0 (α := Hp) (fun _ => [(0, .ptr q 0)]) (fun z => z) (SU G q B n s fun at' bs' ps' pl' e' => at' = at_ ∧ bs' = bs ++ [37] ∧ ps' = ps ∧ pl' = pl ∧ e' = e) ?_ (fun z m hm => ?_)
  · simp [go_sem]
    refine SC.use (show BO Tryz.prog 329 [.ptr q 2, .int .u8 37] G _ _ from TW S hom hb 37) ?_
    rintro v H' n' hq
    simp [go_sem, Fz.same]
    exact ⟨H', hq.st hm, AB⟩
  obtain ⟨hm, a1, a2, a3, a4, a5, ⟨rfl, rfl, rfl, rfl, rfl⟩, ⟨p, ob, op, T⟩, hk⟩ := hm
  refine AH ?_
  have hT := T.cells
  simp [go_sem, hT, w2]
  exact fin _ _ _ _ _ _ _ _ _ _ _ _ _ T hk hm ⟨.inl ⟨by omega, hbb, rfl⟩, by simp, by omega⟩
 | false =>
  refine Ak (b := false) (by simp [go_sem]) ?_
  simp only [Bool.false_eq_true, if_false]
  refine BM 0 (α := Bx) (fun b => [(0, .ptr q 0), (27, .bool b.b)]) (fun _ => G) (BkP n (at_ + 1 < s.size)) ?_ (fun b m hm => ?_)
  · simp [go_sem, hc, w1]
    refine SC.use (d333 S (at_ + 1) (by omega)) ?_
    rintro v H' n' ⟨⟨b, rfl, IB⟩, rfl, rfl⟩
    simp [go_sem, Fz.same]
    exact ⟨⟨b⟩, ⟨hm, IB⟩, rfl⟩
  obtain ⟨b⟩ := b
  obtain ⟨hm, hbb⟩ := hm
  dsimp only at hbb ⊢
  cases b with
  | true =>
   have hbb := hbb rfl
   refine Ak (b := true) (by simp [go_sem]) ?_
   simp only [if_true]
   refine AX 0 (α := Hp) (fun _ => [(0, .ptr q 0)]) (fun z => z) (SU G q B n s fun at' bs' ps' _ e' => at' = at_ ∧ bs' = [] ∧ ps'.length ≤ ps.length + 2 ∧ e' = e) (CK TH rfl (by kernel_rfl) (by kernel_rfl) ?_) (fun z m hm => ?_)
   · have hkl : (at_ + 1).toNat < s.size := by omega
     obtain ⟨x, hx⟩ : ∃ x, s[(at_ + 1).toNat]'hkl = x := ⟨_, rfl⟩
     have hgx : s[(at_ + 1).toNat]? = some x := by rw [RF hkl, hx]
     have h01 : 0 ≤ at_ + 1 := by omega
     simp [go_sem, TH, hc, w1, h01, hgx]
     refine ⟨?_, ?_⟩ <;>
     · refine SC.use (d334 S hb hps) ?_
       rintro v H' n' hq
       simp [go_sem, Fz.same]
       exact ⟨H', hq.st hm, AB⟩
   obtain ⟨hm, a1, a2, a3, a4, a5, ⟨rfl, rfl, hl, rfl⟩, ⟨p, ob, op, T⟩, hk⟩ := hm
   refine AH ?_
   have hT := T.cells
   simp [go_sem, hT, w2]
   exact fin _ _ _ _ _ _ _ _ _ _ _ _ _ T hk hm ⟨.inl ⟨by omega, by omega, rfl⟩, by simp, hl⟩
  | false =>
   refine Ak (b := false) (by simp [go_sem]) ?_
   simp only [Bool.false_eq_true, if_false]
   refine AX 0 (α := Bx) (fun b => [(0, .ptr q 0), (54, .bool b.b)]) (fun _ => G) (BkP n (at_ + 2 < s.size)) (CK trPc rfl (by kernel_rfl) (by kernel_rfl) ?_) (fun b m hm => ?_)
   · have h1' := Int.le_of_lt h1
     simp [go_sem, trPc, hc, h0, h1']
     refine ⟨?_, ?_⟩ <;>
     · refine TC.use (t332 _ _) ?_
       rintro v ⟨b, rfl, _⟩
       cases b with
       | false =>
        simp [go_sem, Fz.same]
        exact ⟨⟨false⟩, ⟨hm, by simp⟩, rfl⟩
       | true =>
        simp [go_sem, hc, w2]
        refine SC.use (d333 S (at_ + 2) (by omega)) ?_
        rintro v H' n' ⟨⟨b, rfl, IB⟩, rfl, rfl⟩
        simp [go_sem, Fz.same]
        exact ⟨⟨b⟩, ⟨hm, IB⟩, rfl⟩
   obtain ⟨b⟩ := b
   obtain ⟨hm, hbb⟩ := hm
   dsimp only at hbb ⊢
   cases b with
   | true =>
    have hbb := hbb rfl
    refine Ak (b := true) (by simp [go_sem]) ?_
    simp only [if_true]
    refine AX 0 (α := Hp) (fun _ => [(0, .ptr q 0)]) (fun z => z) (SU G q B n s fun at' bs' ps' _ e' => at' = at_ ∧ bs' = [] ∧ ps'.length ≤ ps.length + 2 ∧ e' = e) (CK TH rfl (by kernel_rfl) (by kernel_rfl) ?_) (fun z m hm => ?_)
    · have hkl : (at_ + 2).toNat < s.size := by omega
      obtain ⟨x, hx⟩ : ∃ x, s[(at_ + 2).toNat]'hkl = x := ⟨_, rfl⟩
      have hgx : s[(at_ + 2).toNat]? = some x := by rw [RF hkl, hx]
      have h01 : 0 ≤ at_ + 2 := by omega
      simp [go_sem, TH, hc, w2, h01, hgx]
      refine ⟨?_, ?_⟩ <;>
      · refine SC.use (d334 S hb hps) ?_
        rintro v H' n' hq
        simp [go_sem, Fz.same]
        exact ⟨H', hq.st hm, AB⟩
    obtain ⟨hm, a1, a2, a3, a4, a5, ⟨rfl, rfl, hl, rfl⟩, ⟨p, ob, op, T⟩, hk⟩ := hm
    refine AH ?_
    have hT := T.cells
    simp [go_sem, hT, w3]
    exact fin _ _ _ _ _ _ _ _ _ _ _ _ _ T hk hm ⟨.inl ⟨by omega, by omega, rfl⟩, by simp, hl⟩
   | false =>
    refine Ak (b := false) (by simp [go_sem]) ?_
    simp only [Bool.false_eq_true, if_false]
    refine AH ?_
    simp [go_sem, hc]
    exact fin _ _ _ _ _ _ _ _ _ _ _ _ _ S0 (fun _ _ _ h => h) hm ⟨.inr ⟨rfl, rfl⟩, by omega, by omega⟩
def SG : Tr := .pure 0 (.pure 1 (.pure 2 (.pure 4 (.pure 5 (.pure 6 (.two 3 7 (.one 7 (.one 8 (.pure 9 (.pure 10 (.pure 11 (.pure 12 (.pure 13 (.one 14 (.pure 15 (.pure 16 .nil)))))))))) (.two 3 8 (.one 8 (.pure 9 (.pure 10 (.pure 11 (.pure 12 (.pure 13 (.one 14 (.pure 15 (.pure 16 .nil))))))))) (.one 3 (.pure 9 (.pure 10 (.pure 11 (.pure 12 (.pure 13 (.one 14 (.pure 15 (.pure 16 .nil))))))))))))))))
def trSb : Tr := .pure 0 (.pure 1 (.pure 2 (.pure 4 (.pure 5 (.pure 6 (.two 3 7 (.one 7 (.one 8 (.pure 9 .nil))) (.one 3 (.one 8 (.pure 9 .nil)))))))))
def trSc : Tr := .pure 0 (.pure 1 (.pure 2 (.pure 3 (.pure 4 (.pure 5 (.pure 7 (.pure 8 (.pure 9 (.two 6 10 (.one 10 (.one 11 (.one 12 .nil))) (.one 6 (.one 11 (.one 12 .nil))))))))))))
def SnR (s : ByteArray) (z : Int × Int) : Int → List UInt8 → List Bm → Int → Int → Prop := fun at_ bs ps _ e =>
 at_ = z.1 ∧ e = z.2 ∧ 0 ≤ at_ ∧ at_ ≤ s.size ∧ (e = 0 → (bs.length : Int) ≤ at_ ∧ (ps.length : Int) ≤ 2 * at_) ∧ (bs.length : Int) ≤ at_ + 1 ∧ (ps.length : Int) ≤ 2 * at_ + 2
def SnI (G : Hp) (q B n : Nat) (s : ByteArray) (z : Hp × Int × Int) (m : Nat) : Prop := SU G q B n s (SnR s z.2) z.1 m
def SnM (s : ByteArray) (z : Hp × Int × Int) : Nat := 2 * (s.size - z.2.1).toNat + (if z.2.2 = 0 then 1 else 0)
set_option maxHeartbeats 2000000 in
theorem d320 {G : Hp} {n q B : Nat} {s : ByteArray} {pl : Int} (S : Q2 G q B s 0 [] [] pl 0) (hs : s.size ≤ 1024) :
 BO Tryz.prog 320 [.ptr q 0] G n (TP q B s G n fun _ _ ps' _ _ => ps'.length ≤ 1048576) := by
 refine ED Tryz.func320 rfl fun ho => ?_
 refine AX 0 (α := Hp × Int × Int) (fun _ => [(0, .ptr q 0)]) (fun z => z.1) (SnI G q B n s) ?_ (fun z m hm => ?_)
 · refine Ab (Bf 0 (α := Hp × Int × Int) (fun _ => [(0, .ptr q 0)]) (fun z => z.1) (SnI G q B n s) (SnM s) (G, 0, 0) ⟨Nat.le_refl _, 0, [], [], pl, 0, ⟨rfl, rfl, by omega, by simp, by simp, by simp, by simp⟩, S, fun _ _ _ h => h⟩ ?_ AB ?_)
   · simp [go_sem, Ai, Fz.same]
   rintro ⟨z, a0, e0⟩ m ⟨hm, at_, bs, ps, pl2, e, ⟨h1, h2, h3, h4, h5, h6, h7⟩, T, hk⟩
   dsimp only at h1 h2 T hk ⊢
   subst h1; subst h2
   obtain ⟨p, ob, op, T0⟩ := id T
   have hc := T0.cells
   by_cases c : at_ < s.size ∧ e = 0
   · obtain ⟨c1, rfl⟩ := c
     have hl := h5 rfl
     have hbl : bs.length ≤ 1024 ∧ ps.length ≤ 2048 := by omega
     refine Bs 0 [(0, .ptr q 0)] z m ?_ (fun m3 hm3 => ?_)
     · refine AX 0 (α := Unit) (fun _ => [(0, .ptr q 0), (18, .bool true)]) (fun _ => z) (fun _ m2 => m ≤ m2) (CK SG rfl (by kernel_rfl) (by kernel_rfl) ?_) (fun _ m2 hm2 => ?_)
       · simp [go_sem, SG, hc, c1, Fz.same]
       refine AH ?_
       simp [go_sem, Fz.same, hm2]
     refine Ab ?_
     have hkl : at_.toNat < s.size := by omega
     obtain ⟨x, hx⟩ : ∃ x, s[at_.toNat]'hkl = x := ⟨_, rfl⟩
     have hgx : s[at_.toNat]? = some x := by rw [RF hkl, hx]
     refine Bs 0 [(0, .ptr q 0)] z m ?_ (fun m4 hm4 => ?_)
     · refine AX 0 (α := Bx) (fun b => [(0, .ptr q 0), (28, .bool b.b)]) (fun _ => z) (fun _ m4 => m3 ≤ m4) (CK trSb rfl (by kernel_rfl) (by kernel_rfl) ?_) (fun b m4 hm4 => ?_)
       · simp [go_sem, trSb, hc, h3, hgx, Fz.same]
         exact ⟨⟨_⟩, rfl⟩
       obtain ⟨b⟩ := b
       refine AH ?_
       cases b with
       | false => simp [go_sem, Fz.same]; omega
       | true =>
        simp [go_sem]
        refine SC.use (d328 T h3 c1 (by omega) (by omega) (by omega)) ?_
        rintro v H' n' ⟨a1, a2, a3, a4, a5, ⟨hor, r2, r3⟩, r6, r7, r8⟩
        simp [go_sem, Fz.same]
        have hk2 : ∀ o y, o < B → G o = some y → H' o = some y := fun o y g1 g2 => r7 o y g1 (hk o y g1 g2)
        refine ⟨H', a1, a5, ?_, ⟨by omega, a1, a2, a3, a4, a5, ⟨rfl, rfl, by omega, by omega, fun g => by omega, by omega, by omega⟩, r6, hk2⟩, AB⟩
        rcases hor with ⟨g1, g2, rfl⟩ | ⟨rfl, rfl⟩
        · simp [SnM]; omega
        · simp [SnM]
     refine My fun hom => ?_
     refine AX 0 (α := Hp) (fun _ => [(0, .ptr q 0)]) (fun y => y) (SU z q B m s fun at' bs' ps' pl' e' => at' = at_ ∧ bs' = bs ++ [x] ∧ ps' = ps ∧ pl' = pl2 ∧ e' = 0) (CK trSc rfl (by kernel_rfl) (by kernel_rfl) ?_) (fun y m5 hm5 => ?_)
     · simp [go_sem, trSc, hc, h3, hgx]
       refine ⟨?_, ?_⟩ <;>
       · refine SC.use (TW T hom (by omega) x) ?_
         rintro v H' n' hq
         simp [go_sem, Fz.same]
         exact ⟨H', hq.st hm4, AB⟩
     obtain ⟨hm5, a1, a2, a3, a4, a5, ⟨rfl, rfl, rfl, rfl, rfl⟩, ⟨p1, ob1, op1, T1⟩, hk1⟩ := hm5
     have hT := T1.cells
     have w1 : IntKind.i64.wrap (a1 + 1) = a1 + 1 := by rw [C8] <;> omega
     refine AH ?_
     simp [go_sem, hT, w1, Fz.same]
     refine ⟨_, a1 + 1, 0, by simp [SnM]; omega, ⟨by omega, a1 + 1, bs ++ [x], a3, a4, 0, ⟨rfl, rfl, by omega, by omega, fun _ => by simp; omega, by simp; omega, by omega⟩, T1.upd (a1 + 1) a4 0, fun o w g1 g2 => ?_⟩, AB⟩
     have := T1.le
     exact (AD _ _ (show o ≠ q by omega)).trans (hk1 o w g1 (hk o w g1 g2))
   · refine B5 0 [] z (fun _ => False) ?_ (fun _ hF => hF.elim)
     refine AX 0 (α := Unit) (fun _ => [(0, .ptr q 0), (18, .bool false)]) (fun _ => z) (fun _ m2 => m ≤ m2) (CK SG rfl (by kernel_rfl) (by kernel_rfl) ?_) (fun _ m2 hm2 => ?_)
     · by_cases c1 : at_ < s.size
       · have c2 : ¬ e = 0 := fun g => c ⟨c1, g⟩
         have c3 : (e == 0) = false := by simpa using c2
         simp [go_sem, SG, hc, c1, c3, Fz.same]
       · simp [go_sem, SG, hc, c1, Fz.same]
     refine AH ?_
     simp [go_sem, Fz.same]
     exact ⟨z, ⟨at_, e, by omega, at_, bs, ps, pl2, e, ⟨rfl, rfl, h3, h4, h5, h6, h7⟩, T, hk⟩, AB⟩
 · obtain ⟨z, a0, e0⟩ := z
   obtain ⟨hm, at_, bs, ps, pl2, e, ⟨h1, h2, h3, h4, h5, h6, h7⟩, T, hk⟩ := hm
   dsimp only at h1 h2 T hk ⊢
   refine BM 0 (α := Hp) (fun _ => [(0, .ptr q 0)]) (fun y => y) (SU z q B m s fun _ _ ps' _ _ => ps'.length ≤ 1048576) ?_ (fun y m2 hm2 => ?_)
   · simp [go_sem]
     refine SC.use (d330 T (by omega) (by omega)) ?_
     rintro v H' n' ⟨b1, b2, b3, b4, b5, ⟨r1, r2, r3, r4, r5⟩, r6, r7, r8⟩
     simp [go_sem, Fz.same]
     exact ⟨H', ⟨r8, b1, b2, b3, b4, b5, by dsimp only; omega, r6, r7⟩, AB⟩
   obtain ⟨hm2, b1, b2, b3, b4, b5, hps, ⟨p1, ob1, op1, T1⟩, hk1⟩ := hm2
   have hc := T1.cells
   refine AH ?_
   by_cases c1 : b5 = 0
   · by_cases c2 : 9 < b4
     · simp [go_sem, hc, c1, c2]
       refine .inl ⟨b1, b2, b3, b4, 9, hps, T1.upd b1 b4 9, fun o y g1 g2 => ?_, by omega⟩
       have := T1.le
       rw [AD _ _ (by omega)]; exact hk1 o y g1 (hk o y g1 g2)
     · simp [go_sem, hc, c1, c2]
       exact .inl ⟨b1, b2, b3, b4, b5, hps, ⟨p1, ob1, op1, T1⟩, fun o y g1 g2 => hk1 o y g1 (hk o y g1 g2), by omega⟩
   · simp [go_sem, hc, c1]
     exact .inl ⟨b1, b2, b3, b4, b5, hps, ⟨p1, ob1, op1, T1⟩, fun o y g1 g2 => hk1 o y g1 (hk o y g1 g2), by omega⟩
theorem c319 (b : Int) : PC 319 [IK b] (.bool (decide (b < 32) || decide (b = 127))) := by
 intro h n
 refine gq Tryz.func319 rfl fun ho => ?_
 by_cases c : b < 32
 · simp [go_sem, c]
   exact BC ho rfl rfl
 · simp [go_sem, c]
   exact BC ho rfl (by by_cases c2 : b = 127 <;> simp [c2])
def PaT (v : SV) : Prop := ∃ (ps : List Bm) (e : Int), v = .tup [.imm 3 (ps.map Bm.enc) false, AA e] ∧ ps.length ≤ 1048576
def trPr : Tr := .pure 0 (.pure 1 (.pure 2 (.pure 4 (.one 3 (.pure 5 .nil)))))
theorem t302 (s : ByteArray) (hs : s.size ≤ 1048576) : TC 302 [.str s] PaT := by
 intro h n
 refine ED Tryz.func302 rfl fun ho => ?_
 have out : ∀ (H : Hp) (m : Nat) (e : Int), (∀ j y, h j = some y → H j = some y) → CG n H m (.tup [.imm 0 [] true, AA e]) (fun v h' n' => PaT v ∧ h' = h ∧ n' = n) := fun H m e hh =>
  Tg 2 ho hh (v := .tup [.imm 3 [] false, AA e]) (.inr ⟨Ba (by simp), Fz.same, trivial⟩) (by simp [closed, closedL]) ⟨[], e, rfl, by simp⟩
 refine Ae 0 [(0, .str s)] h n ?_ (fun m hm => ?_)
 · simp [go_sem, Fz.same]
 refine AX 0 (α := Unit) (fun _ => [(0, .str s)]) (fun _ => h) (fun _ m => n ≤ m ∧ s.size ≤ 64) (Ab ?_) (fun _ m hm => ?_)
 · by_cases a1 : (64 : Int) < s.size
   · refine AH ?_
     simp [go_sem, a1]
     exact out _ _ _ AB
   have hl : s.size ≤ 64 := by omega
   refine AH ?_
   simp [go_sem, a1]
   refine (O8 s (by omega)).use ?_
   cases BL s with
   | false =>
    simp [go_sem]
    exact out _ _ _ AB
   | true =>
   simp [go_sem]
   have hby : ∀ b : List UInt8, b.map Dy = (b.map fun x => (x.toNat : Int)).map IK := fun b => by rw [List.map_map]; rfl
   refine Qe (s := s) (e := 5) rfl (by simp [go_sem]) (by simp [go_sem]) (by simp [go_sem]) rfl ?_
   rw [hby]
   have hlen : s.data.toList.length = s.size := by rw [Array.length_toList]; rfl
   have h318 := c318 (s.data.toList.map fun x => (x.toNat : Int)) (by simp [hlen]; omega) 319 [] [] (fun i => match (s.data.toList.map fun x => (x.toNat : Int))[i]? with | some b => decide (b < 32) || decide (b = 127) | none => false) (fun i hi => by rw [List.getElem?_eq_getElem hi]; exact c319 _)
   generalize QK _ _ = b at h318
   generalize (s.data.toList.map fun x => (x.toNat : Int)).map IK = L at h318 ⊢
   simp [go_sem]
   refine PC.use h318 ?_
   cases b with
   | true =>
    simp [go_sem]
    exact out _ _ _ AB
   | false =>
    simp [go_sem, Fz.same, hm, hl]
 obtain ⟨hm, hl⟩ := hm
 refine My fun hom => ?_
 refine BM 0 (α := Hp) (fun _ => [(4, .ptr m 0)]) (fun z => z) (fun z m2 => m < m2 ∧ Q2 z m m s 0 [] [] 0 0 ∧ ∀ o y, h o = some y → z o = some y) ?_ (fun z m2 hm2 => ?_)
 · simp [go_sem, Fz.same]
   exact ⟨_, ⟨⟨.nilp, none, none, Nat.le_refl _, AC _ _ _, .inl rfl, fun _ => rfl, by simp, fun _ => rfl, by simp⟩, AL (fun j y e => (hom j y e).1) AB⟩, AB⟩
 obtain ⟨hm2, S, hk⟩ := hm2
 refine AX 0 (α := Hp) (fun _ => [(4, .ptr m 0)]) (fun y => y) (SU z m m m2 s fun _ _ ps' _ _ => ps'.length ≤ 1048576) ?_ (fun y m3 hm3 => ?_)
 · refine BM 0 (α := Hp) (fun _ => [(4, .ptr m 0)]) (fun y => y) (SU z m m m2 s fun _ _ ps' _ _ => ps'.length ≤ 1048576) ?_ (fun y m3 hm3 => ?_)
   · simp [go_sem]
     refine SC.use (d320 S (by omega)) ?_
     rintro v H' n' hq
     simp [go_sem, Fz.same]
     exact ⟨H', hq.st (Nat.le_refl _), AB⟩
   obtain ⟨hm3, b1, b2, ps, b4, e, hps, ⟨p1, ob1, op1, T⟩, hk1⟩ := hm3
   have hc := T.cells
   have hkk : ∀ o w, h o = some w → y o = some w := fun o w g => hk1 o w (hom o w g).1 (hk o w g)
   by_cases c1 : e = 0
   · refine AH ?_
     simp [go_sem, hc, c1, Fz.same]
     exact ⟨y, ⟨by omega, b1, b2, ps, b4, e, hps, ⟨p1, ob1, op1, T⟩, hk1⟩, AB⟩
   · have c2 : (e != 0) = true := by simpa using c1
     refine Bn 0 [(4, .ptr m 0), (26, .bool true)] y (fun _ => True) ?_ (fun m4 _ => ?_)
     · simp [go_sem, hc, c2, Fz.same]
     refine Ak (b := true) (by simp [go_sem]) ?_
     simp only [if_true]
     refine AX 0 (α := Unit) (fun _ => [(2, .imm 0 [] true), (3, AA e)]) (fun _ => y) (fun _ _ => True) (CK trPr rfl (by kernel_rfl) (by kernel_rfl) ?_) (fun _ m5 _ => ?_)
     · simp [go_sem, trPr, hc, Fz.same]
     refine AH ?_
     simp [go_sem]
     exact out _ _ _ hkk
 obtain ⟨hm3, b1, b2, ps, b4, e, hps, ⟨p1, ob1, op1, T⟩, hk1⟩ := hm3
 have hc := T.cells
 have hkk : ∀ o w, h o = some w → y o = some w := fun o w g => hk1 o w (hom o w g).1 (hk o w g)
 refine AH ?_
 simp [go_sem, hc]
 have hA : BZ n (m3 + (op1.getD 0) + 1) 3 op1 (ps.map Bm.enc) := ⟨fun e => by rw [T.o0 e]; rfl, fun j e => ⟨by have := (T.o1 j e).1; omega, by rw [e]; simp; omega⟩, Bm.size ps⟩
 have hh : ∀ j w, Aj op1 (ps.map Bm.enc) h j = some w → y j = some w := fun j w g => by
  cases op1 with
  | none => exact hkk j w g
  | some i =>
   simp only [Aj, hset] at g
   split at g
   · rename_i hji; subst hji; rw [(T.o1 j rfl).2.2.2]; exact g
   · exact hkk j w g
 exact Tg 2 ho hkk (v := .tup [.imm 3 (ps.map Bm.enc) false, AA 0]) (.inr ⟨Aa.fz ho hA hh, Fz.same, trivial⟩) (by simp [closed, closedL]; exact DY.2 fun s hs => by obtain ⟨x, _, rfl⟩ := List.mem_map.1 hs; rfl) ⟨ps, 0, rfl, hps⟩
theorem c304 (p : Bm) (k : Int) : PC 304 [p.enc, .iptr [AA k]] (.bool (decide (k < p.level))) := by
 intro h n
 refine gq Tryz.func304 rfl fun ho => ?_
 simp [go_sem, Bm.enc, AC]
 exact Av ho (AO ho (Nat.le_refl _) AB) rfl rfl
theorem t271 (s : ByteArray) (hs : s.size ≤ 1048576) (k : Int) : TC 271 [.str s, AA k] E3 := by
 intro h n
 refine ED Tryz.func271 rfl fun ho => ?_
 have hHb := ho.lt
 have out : ∀ (e : Int) (m : Nat), CG n h m (AA e) (fun v h' n' => E3 v ∧ h' = h ∧ n' = n) := fun e m => GB ho AB (by simp [closed]) ⟨e, rfl⟩
 refine Ae 1 [(0, .str s), (3, .iptr [AA k])] h n ?_ (fun m hm => ?_)
 · simp [go_sem, Fz.same]
   exact ⟨Ac (Af hHb (Nat.le_refl _)) (AC _ _ _), AL hHb AB⟩
 refine Bs 0 [(0, .str s), (3, .iptr [AA k])] h n (AH ?_) (fun m hm => ?_)
 · by_cases a1 : k < 1
   · simp [go_sem, a1]; exact out _ _
   by_cases a2 : 9 < k
   · simp [go_sem, a1, a2]; exact out _ _
   simp [go_sem, a1, a2, Fz.same, hm]
 refine AH ?_
 simp [go_sem]
 refine TC.use (t302 s hs) ?_
 rintro v ⟨ps, e, rfl, hps⟩
 by_cases c : e = 0
 · have h303 := c303 ps hps 304 [] [.iptr [AA k]] (fun i => match ps[i]? with | some p => decide (k < p.level) | none => false) (fun i hi => by rw [List.getElem?_eq_getElem hi]; exact c304 _ k)
   generalize QK _ _ = b at h303
   simp [go_sem, c]
   refine PC.use h303 ?_
   cases b <;> simp [go_sem] <;> exact out _ _
 · have c2 : (e == 0) = false := by simpa using c
   simp [go_sem, c2]
   exact out _ _
theorem Jf {E : Bl} {ops : Array Oper} {K : SA → Hp → Nat → Prop} {sa : SA} {h : Hp} {n : Nat} {b : Bool} {e : Int} {rest : List Oper} {tr : List CH} {dst : Option Tmp}
 (hk : ∀ r : Int, JB E Tryz.prog ops K rest tr sa { dst := dst, val := AA r } h n) : Bg E Tryz.prog ops K sa h n 87 [.bool b, AA e] rest tr dst :=
 Bg.pure _ _ _ _ _ _ (Iv b e) (hk _)
theorem Pv {E : Bl} {ops : Array Oper} {K : SA → Hp → Nat → Prop} {sa : SA} {h : Hp} {n : Nat} {s : ByteArray} (hs : s.size ≤ 1048576) {rest : List Oper} {tr : List CH} {dst : Option Tmp}
 (hk : ∀ r : Int, JB E Tryz.prog ops K rest tr sa { dst := dst, val := AA r } h n) : Bg E Tryz.prog ops K sa h n 217 [.str s] rest tr dst :=
 Bg.pure _ _ _ _ _ _ (c217 s (by omega)) (hk _)
set_option maxHeartbeats 2000000 in
theorem t218 (l : List GV) (hl : l.length ≤ 1048576) (hs : ∀ x ∈ l, x.name.size ≤ 1048576 ∧ x.value.size ≤ 1048576) (i : Nat) (hi : i < l.length) : TC 218 [AA i, .iptr [Ey l]] E3 := by
 intro h n
 refine gq Tryz.func218 rfl fun ho => ?_
 obtain ⟨x, hx⟩ : ∃ x, l[i] = x := ⟨_, rfl⟩
 have hxs := hs x (by rw [← hx]; exact List.getElem_mem hi)
 by_cases h0 : i = 0
 · subst h0
   simp [go_sem, hi, hx, GV.enc]
   repeat first | refine nq ?_ | refine sq ?_
   refine Bg.pure _ _ _ _ _ _ (Tt x.name) ?_
   simp [go_sem]
   repeat first | refine nq ?_ | refine sq ?_
   refine Jf fun e1 => ?_
   simp [go_sem]
   repeat first | refine nq ?_ | refine sq ?_
   refine Jf fun e2 => ?_
   simp [go_sem]
   repeat first | refine nq ?_ | refine sq ?_
   refine Jf fun e3 => ?_
   simp [go_sem, hi, hx, GV.enc]
   repeat first | refine nq ?_ | refine sq ?_
   refine Pv hxs.2 fun e4 => ?_
   simp [go_sem]
   repeat first | refine nq ?_ | refine sq ?_
   refine Bg.lend _ _ _ _ _ _ 2 [n] (Ox [e1, e2, e3, e4] (by simp)) rfl (by simp) (fun h' hh => ?_) ?_
   · have := hh n (by simp)
     simp [hset] at this
     simp [AQ, Fz, this, Bi, SV.storable, SV.cells]
   simp [go_sem]
   repeat first | refine nq ?_ | refine sq ?_
   exact GB ho (AO ho (Nat.le_refl _) AB) (by simp [closed]) ⟨_, rfl⟩
 · have hip : 0 < i := by omega
   have hmx : (if (1 : Int) > i then (1 : Int) else i) = i := by split <;> omega
   have hmx2 : (if (1 : Int) < i then (i : Int) else 1) = i := by split <;> omega
   have w1 : IntKind.i64.wrap ((i : Int) - 1) = ((i - 1 : Nat) : Int) := by rw [C8] <;> omega
   have hi1 : i - 1 < l.length := by omega
   obtain ⟨y, hy⟩ : ∃ y, l[i - 1] = y := ⟨_, rfl⟩
   simp [go_sem, hi, hx, GV.enc]
   repeat first | refine nq ?_ | refine sq ?_
   refine Bg.pure _ _ _ _ _ _ (Tt x.name) ?_
   simp [go_sem]
   repeat first | refine nq ?_ | refine sq ?_
   refine Jf fun e1 => ?_
   simp [go_sem, hi, hx, GV.enc, hip, w1, hi1, hy, hmx]
   repeat first | refine nq ?_ | refine sq ?_
   refine Jf fun e2 => ?_
   simp [go_sem, hi, hx, GV.enc, hip, w1, hi1, hy, hmx]
   repeat first | refine nq ?_ | refine sq ?_
   refine Jf fun e3 => ?_
   simp [go_sem, hi, hx, GV.enc]
   repeat first | refine nq ?_ | refine sq ?_
   refine Pv hxs.2 fun e4 => ?_
   simp [go_sem]
   repeat first | refine nq ?_ | refine sq ?_
   refine Bg.lend _ _ _ _ _ _ 2 [n] (Ox [e1, e2, e3, e4] (by simp)) rfl (by simp) (fun h' hh => ?_) ?_
   · have := hh n (by simp)
     simp [hset] at this
     simp [AQ, Fz, this, Bi, SV.storable, SV.cells]
   simp [go_sem]
   repeat first | refine nq ?_ | refine sq ?_
   exact GB ho (AO ho (Nat.le_refl _) AB) (by simp [closed]) ⟨_, rfl⟩
def Qz : Tr := .pure 0 (.pure 1 (.pure 2 (.pure 3 (.pure 4 (.pure 5 (.pure 6 (.pure 7 (.pure 8 (.pure 9 (.pure 10 (.pure 11 (.pure 12 (.pure 13 .nil)))))))))))))
def trO2 : Tr := .pure 0 (.pure 1 (.pure 3 (.pure 4 (.pure 5 (.pure 6 (.one 2 (.one 7 (.pure 8 (.pure 9 (.pure 10 (.pure 11 (.pure 12 .nil))))))))))))
def trO3 : Tr := .pure 0 (.pure 1 (.pure 3 (.pure 4 (.one 2 (.one 5 (.pure 6 .nil))))))
set_option maxHeartbeats 2000000 in
theorem t207 (l : List A6) (hl : l.length ≤ 1048576) (hs : ∀ x ∈ l, x.props.length ≤ 1048576) (i : Nat) (hi : i < l.length) : TC 207 [AT l, AA i] E3 := by
 intro h n
 refine ED Tryz.func207 rfl fun ho => ?_
 have hHb := ho.lt
 obtain ⟨s, hx⟩ : ∃ s, l[i] = s := ⟨_, rfl⟩
 have hps := hs s (by rw [← hx]; exact List.getElem_mem hi)
 have out : ∀ (e : Int) (m : Nat), CG n h m (AA e) (fun v h' n' => E3 v ∧ h' = h ∧ n' = n) := fun e m => GB ho AB (by simp [closed]) ⟨e, rfl⟩
 obtain ⟨X, hX⟩ : ∃ X : SV, X = .iptr [AA s.id, AA s.kind, .str s.name, AA s.base, AA s.next, Ah s.props] := ⟨_, rfl⟩
 refine Ae 0 [(0, AT l), (1, AA i)] h n ?_ (fun m hm => ?_)
 · simp [go_sem, Fz.same]
 refine Ae 1 [(0, AT l), (1, AA i), (5, X)] h n ?_ (fun m hm => ?_)
 · have hHm : ∀ j y, h j = some y → j < m := fun j y e => by have := hHb j y e; omega
   rw [hX]
   simp [go_sem, Fz.same, hi, hx, A6.enc, AC]
   exact ⟨by omega, Ac (Af hHm (Nat.le_refl _)) (AC _ _ _), AL hHm (AL hHm AB)⟩
 have w1 : 0 < i → IntKind.i64.wrap ((i : Int) - 1) = ((i - 1 : Nat) : Int) := fun g => by rw [C8] <;> omega
 refine AX 0 (α := Unit) (fun _ => [(0, AT l), (1, AA i), (5, X)]) (fun _ => h) (fun _ m => n ≤ m) (Ab ?_) (fun _ m hm => ?_)
 · refine BM 0 (α := Bx) (fun b => [(0, AT l), (1, AA i), (5, X), (14, .bool b.b)]) (fun _ => h) (fun _ m => n ≤ m) ?_ (fun b m hm => ?_)
   · rw [hX]
     by_cases a1 : s.id < 1
     · simp [go_sem, Fz.same, a1, hm]; exact ⟨⟨_⟩, rfl⟩
     · simp [go_sem, Fz.same, a1, hm]; exact ⟨⟨_⟩, rfl⟩
   obtain ⟨b⟩ := b
   dsimp only
   cases b with
   | true => exact AH (by simp [go_sem]; exact out _ _)
   | false =>
   refine Ak (b := false) (by simp [go_sem]) ?_
   simp only [Bool.false_eq_true, if_false]
   refine AX 0 (α := Bx) (fun b => [(0, AT l), (1, AA i), (5, X), (23, .bool b.b)]) (fun _ => h) (fun _ m => n ≤ m) (CK Qz rfl (by kernel_rfl) (by kernel_rfl) ?_) (fun b m hm => ?_)
   · rw [hX]
     by_cases a1 : 0 < i
     · have hi1 : i - 1 < l.length := by omega
       simp [go_sem, Qz, Fz.same, a1, w1, hm, hi1, A6.enc]; exact ⟨⟨_⟩, rfl⟩
     · simp [go_sem, Qz, Fz.same, a1, hm]; exact ⟨⟨_⟩, rfl⟩
   obtain ⟨b⟩ := b
   dsimp only
   cases b with
   | true => exact AH (by simp [go_sem]; exact out _ _)
   | false =>
   refine Ak (b := false) (by simp [go_sem]) ?_
   simp only [Bool.false_eq_true, if_false]
   refine AX 0 (α := Bx) (fun b => [(0, AT l), (1, AA i), (5, X), (37, .bool b.b)]) (fun _ => h) (fun _ m => n ≤ m) (CK Qz rfl (by kernel_rfl) (by kernel_rfl) ?_) (fun b m hm => ?_)
   · rw [hX]
     by_cases a1 : 0 < i
     · have hi1 : i - 1 < l.length := by omega
       simp [go_sem, Qz, Fz.same, a1, w1, hm, hi1, A6.enc]; exact ⟨⟨_⟩, rfl⟩
     · simp [go_sem, Qz, Fz.same, a1, hm]; exact ⟨⟨_⟩, rfl⟩
   obtain ⟨b⟩ := b
   dsimp only
   cases b with
   | true => exact AH (by simp [go_sem]; exact out _ _)
   | false =>
   refine Ak (b := false) (by simp [go_sem]) ?_
   simp only [Bool.false_eq_true, if_false]
   refine BM 0 (α := Bx) (fun b => [(0, AT l), (1, AA i), (5, X), (51, .bool b.b)]) (fun _ => h) (fun _ m => n ≤ m) ?_ (fun b m hm => ?_)
   · rw [hX]
     by_cases a1 : s.kind = 1
     · simp [go_sem, Fz.same, a1, hm]; exact ⟨⟨_⟩, rfl⟩
     · have a2 : (s.kind != 1) = true := by simpa using a1
       simp [go_sem, Fz.same, a2, hm]; exact ⟨⟨_⟩, rfl⟩
   obtain ⟨b⟩ := b
   dsimp only
   cases b with
   | true => exact AH (by simp [go_sem]; exact out _ _)
   | false =>
   refine Ak (b := false) (by simp [go_sem]) ?_
   simp only [Bool.false_eq_true, if_false]
   refine BM 0 (α := Bx) (fun b => [(0, AT l), (1, AA i), (5, X), (60, .bool b.b)]) (fun _ => h) (fun _ m => n ≤ m) ?_ (fun b m hm => ?_)
   · rw [hX]
     simp [go_sem]
     refine (c266 s.name).use ?_
     simp [go_sem, Fz.same, hm]
     exact ⟨⟨_⟩, rfl⟩
   obtain ⟨b⟩ := b
   dsimp only
   cases b with
   | true => exact AH (by simp [go_sem]; exact out _ _)
   | false => exact AH (by simp [go_sem, Fz.same, hm])
 refine Bs 0 [(0, AT l), (1, AA i), (5, X)] h n ?_ (fun m hm => ?_)
 · refine AX 0 (α := Bx) (fun b => [(0, AT l), (1, AA i), (5, X), (7, .bool b.b)]) (fun _ => h) (fun _ m => n ≤ m) (CK trO2 rfl (by kernel_rfl) (by kernel_rfl) ?_) (fun b m hm => ?_)
   · have hle : i ≤ l.length := by omega
     have hc := c267 (l.take i) s.kind s.name (by simp; omega)
     generalize Cd (l.take i) s.kind s.name = k at hc
     generalize (if 0 ≤ k then k else 0) = k1 at hc
     generalize decide (0 ≤ k) = k2 at hc
     simp only [AT, List.map_take] at hc
     rw [hX]
     simp [go_sem, trO2, hle, -List.map_take]
     refine PC.use hc ?_
     simp [go_sem, Fz.same, hm]
     exact ⟨⟨_⟩, rfl⟩
   obtain ⟨b⟩ := b
   dsimp only
   cases b with
   | true => exact AH (by simp [go_sem]; exact out _ _)
   | false => exact AH (by simp [go_sem, Fz.same, hm])
 refine Bs 0 [(5, X)] h n ?_ (fun m hm => ?_)
 · refine Ae 0 [(5, X), (78, Ah s.props), (79, AA s.props.length), (80, AA 0)] h n ?_ (fun m hm => ?_)
   · rw [hX]; simp [go_sem, Fz.same, hm]
   refine Ab (Bf 0 (α := Nat) (fun k => [(5, X), (78, Ah s.props), (79, AA s.props.length), (80, AA k)]) (fun _ => h) (fun k m => k ≤ s.props.length ∧ n ≤ m) (fun k => s.props.length - k) 0 ⟨Nat.zero_le _, hm⟩ ?_ AB ?_)
   · simp [go_sem, Ai, Fz.same]
   rintro k m ⟨hk, hm⟩
   by_cases hlt : k < s.props.length
   · have w2 := wS k (by omega)
     obtain ⟨p, hp⟩ : ∃ p, s.props[k] = p := ⟨_, rfl⟩
     refine Ae 0 [(5, X), (78, Ah s.props), (79, AA s.props.length), (80, AA k), (81, .bool true)] h n ?_ (fun m hm => ?_)
     · simp [go_sem, Fz.same, hm, hlt]
     refine Ae 0 [(5, X), (78, Ah s.props), (79, AA s.props.length), (80, AA k)] h n ?_ (fun m hm => ?_)
     · simp [go_sem, Fz.same, hm]
     refine AX 0 (α := Unit) (fun _ => [(5, X), (78, Ah s.props), (79, AA s.props.length), (80, AA k)]) (fun _ => h) (fun _ m => n ≤ m) (Ab ?_) (fun _ m hm => ?_)
     · refine Ae 1 [(5, X), (78, Ah s.props), (79, AA s.props.length), (80, AA k), (9, .iptr [AA p.key, AA p.value])] h n ?_ (fun m hm => ?_)
       · have hHm : ∀ j y, h j = some y → j < m := fun j y e => by have := hHb j y e; omega
         simp [go_sem, Fz.same, hlt, hp, FH.enc, AC]
         exact ⟨by omega, Ac (Af hHm (Nat.le_refl _)) (AC _ _ _), AL hHm (AL hHm AB)⟩
       refine AH ?_
       by_cases a1 : p.key = 20
       · simp [go_sem, a1]; exact out _ _
       by_cases a2 : p.key = 1
       · simp [go_sem, a2]; exact out _ _
       have a3 : (p.key == 20) = false := by simpa using a1
       have a4 : (p.key == 1) = false := by simpa using a2
       simp [go_sem, a3, a4, Fz.same, hm]
     · refine AH ?_
       simp [go_sem, w2, Fz.same, -Int.natCast_add]
       exact ⟨k + 1, by omega, ⟨by omega, hm⟩, rfl⟩
   · refine AH ?_
     simp [go_sem, hlt, Fz.same, hm]
 refine AX 0 (α := Int) (fun e => [(4, AA e)]) (fun _ => h) (fun _ m => n ≤ m) (CK trO3 rfl (by kernel_rfl) (by kernel_rfl) ?_) (fun e m hm => ?_)
 · rw [hX]
   simp [go_sem, trO3]
   refine (c268 s.kind).use ?_
   generalize (if s.kind = 1 then (2 : Int) else 1) = el
   simp [go_sem]
   refine (c156 el s.props hps).use ?_
   simp [go_sem, hm]
   exact ⟨_, rfl⟩
 · refine AH ?_
   simp [go_sem]
   exact out _ _
def ChQ (l : List A6) (id : Int) (h : Hp) (n : Nat) : SV → Hp → Nat → Prop := fun v h' n' => ∃ k, v = .fn (.func 270) [] [.iptr [AT l], .ptr k 0] ∧ n ≤ k ∧ k < n' ∧ h' k = some (.cells [AA id]) ∧ ∀ o y, h o = some y → h' o = some y
theorem d209 (l : List A6) (id : Int) {h : Hp} {n : Nat} : BO Tryz.prog 209 [AT l, AA id] h n (ChQ l id h n) := by
 refine ED Tryz.func209 rfl fun ho => ?_
 have hHb := ho.lt
 refine Bn 1 [(2, .iptr [AT l]), (3, .ptr (n + 1) 0)] (hset h (n + 1) (some (.cells [AA id]))) (fun m => n + 1 < m) ?_ (fun m hm => ?_)
 · simp [go_sem, Fz.same]
   refine ⟨Ac (by simp [hset]; exact Af hHb (Nat.le_refl _)) (by simp [hset]), fun j y => ?_⟩
   have := hHb j y; simp only [hset]; grind
 refine AH ?_
 simp [go_sem]
 exact .inl ⟨n + 1, rfl, by omega, hm, AC _ _ _, AL (fun j z e => by have := hHb j z e; omega) AB⟩
structure YS (E : Bl) (yl : Nat) (N : Nat) (J : Nat → Hp → Nat → Prop) (Jx : Hp → Nat → Prop) (D : Nat → Prop) : Prop where
 step : ∀ c (x : A6) h m, J c h m → Ez E Tryz.prog yl [x.enc] h m (fun v h' m' => m ≤ m' ∧ (∀ o, ¬ D o → o < m → h' o = h o) ∧ ((v = .bool true ∧ c + 1 ≤ N ∧ J (c + 1) h' m') ∨ (v = .bool false ∧ Jx h' m')))
 keep : ∀ c h m h' m', J c h m → m ≤ m' → (∀ o, D o → h' o = h o) → J c h' m'
 lt : ∀ c h m, J c h m → ∀ o, D o → o < m
theorem IV {P : Int → Prop} (x : Int) : ∀ (l : List (Int × Int)) (i : Nat), (∀ p ∈ l, P p.2) → Cq (AA x) (GG l) i = some none ∨ ∃ j k, Cq (AA x) (GG l) i = some (some (j, AA k)) ∧ P k
 | [], i, _ => .inl rfl
 | a :: l, i, hP => by
  by_cases e : x = a.1
  · exact .inr ⟨i, a.2, by simp [GG, Cq, Gf, e], hP a (by simp)⟩
  · have : (x == a.1) = false := by simpa using e
    rcases IV x l (i + 1) (fun p hp => hP p (by simp [hp])) with h | ⟨j, k, h, hk⟩
    · left; simp only [GG, List.map_cons, Cq, Gf, if_true, this]; exact h
    · right; refine ⟨j, k, ?_, hk⟩; simp only [GG, List.map_cons, Cq, Gf, if_true, this]; exact h
theorem Qg {P : Int → Prop} (l : List (Int × Int)) (j : Nat) (x v : Int) (hl : ∀ p ∈ l, P p.2) (hv : P v) : ∃ l', Fc (GG l) j (AA x) (AA v) = GG l' ∧ ∀ p ∈ l', P p.2 := by
 refine ⟨l.modify j fun _ => (x, v), ?_, fun p hp => ?_⟩
 · unfold Fc GG
   apply List.ext_getElem?; intro i; simp only [List.getElem?_modify, List.getElem?_map]; by_cases e : j = i <;> cases l[i]? <;> simp [e]
 · obtain ⟨i, hi⟩ := List.getElem?_of_mem hp
   rw [List.getElem?_modify] at hi
   cases hli : l[i]? with
   | none => simp [hli] at hi
   | some q =>
    by_cases e : j = i
    · simp [hli, e] at hi; rw [← hi]; exact hv
    · simp [hli, e] at hi; rw [← hi]; exact hl q (List.mem_of_getElem? hli)
section
variable {E : Bl} {yl N : Nat} {J : Nat → Hp → Nat → Prop} {Jx : Hp → Nat → Prop} {D : Nat → Prop}
def InB (l : List A6) (a : List (Int × Int)) : Prop := ∀ p ∈ a, 0 ≤ p.2 ∧ p.2 < l.length
set_option maxHeartbeats 2000000 in
theorem d270 (Y : YS E yl N J Jx D) (l : List A6) (hl : l.length ≤ 1048576) {H : Hp} {n k : Nat} {id : Int} (hk : H k = some (.cells [AA id])) (hkD : ¬ D k) (hJ : J 0 H n) :
 Ag E Tryz.prog 270 [.fn (.yield yl) [] [], .iptr [AT l], .ptr k 0] H n (fun _ h' m' => n ≤ m' ∧ (∀ o, ¬ D o → o ≠ k → o < n → h' o = H o) ∧ ((∃ c, J c h' m') ∨ Jx h' m')) := by
 refine ED Tryz.func270 rfl fun ho => ?_
 have hHb := ho.lt
 have hkn : k < n := hHb k _ hk
 have hDn := Y.lt _ _ _ hJ
 have nk : k ≠ n := by omega
 refine Bn 0 [(0, .fn (.yield yl) [] []), (1, .iptr [AT l]), (2, .ptr k 0), (4, .map n)] (hset H n (some (.map (GG [])))) (fun m => n < m) ?_ (fun m hm => ?_)
 · simp [go_sem, Fz.same, GG]
 refine AX 0 (α := List (Int × Int)) (fun _ => [(0, .fn (.yield yl) [] []), (1, .iptr [AT l]), (2, .ptr k 0), (4, .map n)]) (fun a => hset H n (some (.map (GG a)))) (fun a m => n < m ∧ InB l a) ?_ (fun a m hm => ?_)
 · refine Bn 0 [(0, .fn (.yield yl) [] []), (1, .iptr [AT l]), (2, .ptr k 0), (4, .map n), (10, AT l), (11, AA l.length), (12, AA 0)] (hset H n (some (.map (GG [])))) (fun m => n < m) ?_ (fun m hm => ?_)
   · simp [go_sem, Fz.same, hm]
   refine Ab (Bf 0 (α := Nat × List (Int × Int)) (fun q => [(0, .fn (.yield yl) [] []), (1, .iptr [AT l]), (2, .ptr k 0), (4, .map n), (10, AT l), (11, AA l.length), (12, AA q.1)]) (fun q => hset H n (some (.map (GG q.2)))) (fun q m => q.1 ≤ l.length ∧ n < m ∧ InB l q.2) (fun q => l.length - q.1) (0, []) ⟨Nat.zero_le _, hm, by simp [InB]⟩ ?_ AB ?_)
   · simp [go_sem, Ai, Fz.same]
   rintro ⟨i, a⟩ m ⟨hi, hm, ha⟩
   dsimp only at hi ha ⊢
   by_cases hlt : i < l.length
   · have w1 := wS i (by omega)
     obtain ⟨x, hx⟩ : ∃ x, l[i] = x := ⟨_, rfl⟩
     refine Bn 0 [(0, .fn (.yield yl) [] []), (1, .iptr [AT l]), (2, .ptr k 0), (4, .map n), (10, AT l), (11, AA l.length), (12, AA i), (13, .bool true)] (hset H n (some (.map (GG a)))) (fun m => n < m) ?_ (fun m hm => ?_)
     · simp [go_sem, Fz.same, hm, hlt]
     refine Bn 0 [(0, .fn (.yield yl) [] []), (1, .iptr [AT l]), (2, .ptr k 0), (4, .map n), (10, AT l), (11, AA l.length), (12, AA i)] (hset H n (some (.map (GG a)))) (fun m => n < m) ?_ (fun m hm => ?_)
     · simp [go_sem, Fz.same, hm]
     refine AX 0 (α := List (Int × Int)) (fun _ => [(0, .fn (.yield yl) [] []), (1, .iptr [AT l]), (2, .ptr k 0), (4, .map n), (10, AT l), (11, AA l.length), (12, AA i)]) (fun a => hset H n (some (.map (GG a)))) (fun a m => n < m ∧ InB l a) (Ab ?_) (fun a m hm => ?_)
     · refine Bn 1 [(0, .fn (.yield yl) [] []), (1, .iptr [AT l]), (2, .ptr k 0), (4, .map n), (10, AT l), (11, AA l.length), (12, AA i), (5, AA i), (6, .iptr [AA x.id, AA x.kind, .str x.name, AA x.base, AA x.next, Ah x.props])] (hset H n (some (.map (GG a)))) (fun m => n < m) ?_ (fun m hm => ?_)
       · have hHm : ∀ j y, hset H n (some (.map (GG a))) j = some y → j < m := fun j y e => by
          simp only [hset] at e; split at e
          · omega
          · have := hHb j y e; omega
         simp [go_sem, Fz.same, hlt, hx, A6.enc, AC]
         exact ⟨by omega, Ac (Af hHm (Nat.le_refl _)) (AC _ _ _), AL hHm (AL hHm AB)⟩
       refine AH ?_
       have hB : ∀ v : Int, v = (i : Int) → 0 ≤ v ∧ v < l.length := fun v hv => by omega
       rcases IV (P := fun v => 0 ≤ v ∧ v < l.length) x.id a 0 ha with hf | ⟨j, v, hf, _⟩
       · have hpush : GG a ++ [(AA x.id, AA (i : Int))] = GG (a ++ [(x.id, (i : Int))]) := by simp [GG]
         simp [go_sem, AC, hf, CD, hpush, Fz.same, Aq]
         refine ⟨a ++ [(x.id, (i : Int))], ⟨hm, fun p hp => ?_⟩, AB⟩
         rcases List.mem_append.1 hp with hp | hp
         · exact ha p hp
         · rw [List.mem_singleton.1 hp]; exact hB _ rfl
       · obtain ⟨a', h1, h2⟩ := Qg (P := fun v => 0 ≤ v ∧ v < l.length) a j x.id i ha (hB _ rfl)
         have h1' : (GG a).modify j (fun _ => (AA x.id, AA i)) = GG a' := h1
         simp [go_sem, AC, hf, CD, h1', Fz.same, Aq]
         exact ⟨a', ⟨hm, h2⟩, AB⟩
     · obtain ⟨hm, ha⟩ := hm
       refine AH ?_
       simp [go_sem, w1, Fz.same, -Int.natCast_add]
       exact ⟨i + 1, by omega, a, ⟨by omega, hm, ha⟩, rfl, AB⟩
   · refine AH ?_
     simp [go_sem, hlt, Fz.same, hm]
     exact ⟨a, ha, AB⟩
 obtain ⟨hm, ha⟩ := hm
 have hnD : ¬ D n := fun g => by have := hDn n g; omega
 refine AH ?_
 simp [go_sem]
 refine An 0 (α := Nat × Int × Hp) (fun _ => [(0, .fn (.yield yl) [] []), (1, .iptr [AT l]), (2, .ptr k 0), (4, .map n)]) (fun q => q.2.2) (fun q m => n < m ∧ J q.1 q.2.2 m ∧ q.2.2 k = some (.cells [AA q.2.1]) ∧ q.2.2 n = some (.map (GG a)) ∧ ∀ o, ¬ D o → o ≠ k → o < n → q.2.2 o = H o) (fun q => N - q.1)
  (0, id, hset H n (some (.map (GG a)))) ⟨hm, Y.keep _ _ _ _ _ hJ (by omega) fun o g => AD _ _ (by have := hDn o g; omega), (AD _ _ nk).trans hk, AC _ _ _, fun o _ _ g => AD _ _ (by omega)⟩ ?_ AB ?_
 · simp [Ai, Fz.same]
 rintro ⟨c, id, G⟩ m ⟨hm, hJ, hGk, hGn, hold⟩
 dsimp only at hJ hGk hGn hold ⊢
 by_cases h0 : id = 0
 · simp [go_sem, hGk, h0]
   exact .inl ⟨by omega, hold, .inl ⟨c, hJ⟩⟩
 have h0' : (id != 0) = true := by simpa using h0
 rcases IV (P := fun v => 0 ≤ v ∧ v < l.length) id a 0 ha with hf | ⟨j, v, hf, hv1, hv2⟩
 · simp [go_sem, hGk, hGn, h0', hf, CD]
   exact .inl ⟨by omega, hold, .inl ⟨c, hJ⟩⟩
 · have hvl : v.toNat < l.length := by omega
   obtain ⟨x, hx⟩ : ∃ x, l[v.toNat]'hvl = x := ⟨_, rfl⟩
   simp [go_sem, hGk, hGn, h0', hf, CD, hv1, hvl, hx, A6.enc]
   have hy := Y.step c x G m hJ
   simp only [A6.enc] at hy
   refine Ez.mono hy ?_
   rintro w G3 m3 ⟨hm3, hfr, ⟨rfl, hcN, hj⟩ | ⟨rfl, hj⟩⟩
   · have g3k : G3 k = some (.cells [AA id]) := by rw [hfr k hkD (by omega)]; exact hGk
     have g3n : G3 n = some (.map (GG a)) := by rw [hfr n hnD (by omega)]; exact hGn
     simp [go_sem, hv1, hvl, hx, A6.enc, g3k]
     refine ⟨c + 1, by omega, x.base, hset G3 k (some (.cells [AA x.base])), ⟨by omega, Y.keep _ _ _ _ _ hj (Nat.le_refl _) fun o g => AD _ _ (by rintro rfl; exact hkD g), AC _ _ _, by rw [AD _ _ (Ne.symm nk)]; exact g3n, fun o g1 g2 g3 => ?_⟩, AB⟩
     rw [AD _ _ g2, hfr o g1 (by omega)]; exact hold o g1 g2 g3
   · simp [go_sem]
     exact .inl ⟨by omega, fun o g1 g2 g3 => by rw [hfr o g1 (by omega)]; exact hold o g1 g2 g3, .inr hj⟩
end
theorem goMS {E : Bl} {f : FuncId} {fn : Func} {code : Code} {args : List SV} {h : Hp} {n : Nat} {K : SV → Hp → Nat → Prop} (hf : Tryz.prog.funcs[f]? = some fn) (hb : fn.body = some code)
 (hn : (fn.name != "runtime.NumGoroutine") = true) (hd : Code.dok fn.ntmps code = true) (hl : args.length ≤ fn.ntmps)
 (H : Fd h n → ∀ B, SP (E.call true B) fn.ntmps code (MB Tryz.prog fn n K) (EH 0 args) h n) : Ag E Tryz.prog f args h n K :=
 Ku hf hb hn hd hl fun _ ho B => H ho B
set_option maxHeartbeats 4000000 in
theorem t146 (l : List A6) (hl : l.length ≤ 1048576) (hs : ∀ x ∈ l, x.props.length ≤ 1048576) : TC 146 [AT l] E3 := by
 intro h n
 refine goMS Tryz.func146 rfl (by kernel_rfl) (by kernel_rfl) (by simp [go_sem]) fun ho B => ?_
 have hHb := ho.lt
 obtain ⟨G, hG⟩ : ∃ G : Int → Hp, ∀ e, G e = hset h (n + 1) (some (.cells [AA e])) := ⟨_, fun _ => rfl⟩
 have hGa : ∀ e, G e (n + 1) = some (.cells [AA e]) := fun e => by rw [hG, AC]
 have hGs : ∀ e e', hset (G e) (n + 1) (some (.cells [AA e'])) = G e' := fun e e' => by rw [hG, hG, Aq]
 have hGk : ∀ e j y, h j = some y → G e j = some y := fun e j y g => by rw [hG, AD _ _ (by have := hHb j y g; omega)]; exact g
 have hGb : ∀ e j y, G e j = some y → j < n + 2 := fun e j y g => by
  rw [hG] at g; simp only [hset] at g; split at g
  · omega
  · have := hHb j y g; omega
 have out : ∀ (e : Int) (m : Nat), CG n (G e) m (AA e) (fun v h' n' => E3 v ∧ h' = h ∧ n' = n) := fun e m => GB ho (hGk e) (by simp [closed]) ⟨e, rfl⟩
 refine Bn 1 [(1, .iptr [AT l]), (2, .ptr (n + 1) 0)] (G 0) (fun m => n + 1 < m) ?_ (fun m hm => ?_)
 · rw [hG]
   simp [go_sem, Fz.same]
   refine ⟨Ac (by simp [hset]; exact Af hHb (Nat.le_refl _)) (by simp [hset]), fun j y => ?_⟩
   have := hHb j y; simp only [hset]; grind
 refine B5 0 [(1, .iptr [AT l]), (2, .ptr (n + 1) 0)] (G 0) (fun m => n + 1 < m) (AH ?_) (fun m hm => ?_)
 · by_cases a1 : (128 : Int) < l.length
   · simp [go_sem, a1, hGa, hGs]; exact out _ _
   · simp [go_sem, a1, Fz.same, hm]
 refine B5 0 [(1, .iptr [AT l]), (2, .ptr (n + 1) 0)] (G 0) (fun m => n + 1 < m) ?_ (fun m hm => ?_)
 · refine Bn 0 [(1, .iptr [AT l]), (2, .ptr (n + 1) 0), (14, AA l.length), (15, AA 0)] (G 0) (fun m => n + 1 < m) ?_ (fun m hm => ?_)
   · simp [go_sem, Fz.same, hm]
   refine Ab (Bf 0 (α := Nat) (fun i => [(1, .iptr [AT l]), (2, .ptr (n + 1) 0), (14, AA l.length), (15, AA i)]) (fun _ => G 0) (fun i m => i ≤ l.length ∧ n + 1 < m) (fun i => l.length - i) 0 ⟨Nat.zero_le _, hm⟩ ?_ AB ?_)
   · simp [go_sem, Ai, Fz.same]
   rintro i m ⟨hi, hm⟩
   by_cases hlt : i < l.length
   · have w1 := wS i (by omega)
     refine AH ?_
     simp [go_sem, hlt]
     refine TC.use (t207 l hl hs i hlt) ?_
     rintro v ⟨e, rfl⟩
     by_cases e0 : e = 0
     · simp [go_sem, e0, w1, Fz.same, -Int.natCast_add]
       exact ⟨i + 1, by omega, ⟨by omega, hm⟩, rfl⟩
     · have e1 : (e != 0) = true := by simpa using e0
       simp [go_sem, e1, hGa, hGs]
       exact out _ _
   · refine AH ?_
     simp [go_sem, hlt, Fz.same, hm]
 refine B5 0 [(1, .iptr [AT l]), (2, .ptr (n + 1) 0)] (G 0) (fun m => n + 1 < m) ?_ (fun m hm => ?_)
 · refine Bn 0 [(1, .iptr [AT l]), (2, .ptr (n + 1) 0), (25, AT l), (26, AA l.length), (27, AA 0)] (G 0) (fun m => n + 1 < m) ?_ (fun m hm => ?_)
   · simp [go_sem, Fz.same, hm]
   refine Ab (Bf 0 (α := Nat) (fun i => [(1, .iptr [AT l]), (2, .ptr (n + 1) 0), (25, AT l), (26, AA l.length), (27, AA i)]) (fun _ => G 0) (fun i m => i ≤ l.length ∧ n + 1 < m) (fun i => l.length - i) 0 ⟨Nat.zero_le _, hm⟩ ?_ AB ?_)
   · simp [go_sem, Ai, Fz.same]
   rintro i m ⟨hi, hm⟩
   by_cases hlt : i < l.length
   · have w1 := wS i (by omega)
     obtain ⟨x, hx⟩ : ∃ x, l[i] = x := ⟨_, rfl⟩
     obtain ⟨X, hX⟩ : ∃ X : SV, X = .iptr [AA x.id, AA x.kind, .str x.name, AA x.base, AA x.next, Ah x.props] := ⟨_, rfl⟩
     refine Bn 0 [(1, .iptr [AT l]), (2, .ptr (n + 1) 0), (25, AT l), (26, AA l.length), (27, AA i), (28, .bool true)] (G 0) (fun m => n + 1 < m) ?_ (fun m hm => ?_)
     · simp [go_sem, Fz.same, hm, hlt]
     refine Bn 0 [(1, .iptr [AT l]), (2, .ptr (n + 1) 0), (25, AT l), (26, AA l.length), (27, AA i)] (G 0) (fun m => n + 1 < m) ?_ (fun m hm => ?_)
     · simp [go_sem, Fz.same, hm]
     refine AX 0 (α := Unit) (fun _ => [(1, .iptr [AT l]), (2, .ptr (n + 1) 0), (25, AT l), (26, AA l.length), (27, AA i)]) (fun _ => G 0) (fun _ m => n + 1 < m) (Ab ?_) (fun _ m hm => ?_)
     · refine Bn 1 [(1, .iptr [AT l]), (2, .ptr (n + 1) 0), (25, AT l), (26, AA l.length), (27, AA i), (6, X)] (G 0) (fun m => n + 1 < m) ?_ (fun m hm => ?_)
       · have hHm : ∀ j y, G 0 j = some y → j < m := fun j y e => by have := hGb 0 j y e; omega
         rw [hX]
         simp [go_sem, Fz.same, hlt, hx, A6.enc, AC]
         exact ⟨by omega, Ac (Af hHm (Nat.le_refl _)) (AC _ _ _), AL hHm (AL hHm AB)⟩
       refine BM 0 (α := Bx) (fun b => [(1, .iptr [AT l]), (2, .ptr (n + 1) 0), (25, AT l), (26, AA l.length), (27, AA i), (59, .bool b.b)]) (fun _ => G 0) (fun _ m => n + 1 < m) ?_ (fun b m hm => ?_)
       · rw [hX]
         have e208 : ∀ (kd id : Int) {m : Nat} {K : SV → Hp → Nat → Prop}, (∀ b, K (.bool b) (G 0) m) → Ag (Bl.plain.call true B) Tryz.prog 208 [AT l, AA kd, AA id] (G 0) m K := fun kd id m K hK => PC.use (c208 l kd id hl) (hK _)
         have second : x.next = 0 ∨ (x.next ≠ 0 ∧ x.kind = 2) ∨ (x.next ≠ 0 ∧ x.kind ≠ 2) := by
          by_cases c1 : x.next = 0
          · exact .inl c1
          · by_cases c2 : x.kind = 2
            · exact .inr (.inl ⟨c1, c2⟩)
            · exact .inr (.inr ⟨c1, c2⟩)
         by_cases b0 : x.base = 0
         · rcases second with c1 | ⟨c1, c2⟩ | ⟨c1, c2⟩
           · simp [go_sem, b0, c1, Fz.same, hm]; exact ⟨⟨_⟩, rfl⟩
           · have c1' : (x.next != 0) = true := by simpa using c1
             simp [go_sem, b0, c1', c2, Fz.same, hm]; exact ⟨⟨_⟩, rfl⟩
           · have c1' : (x.next != 0) = true := by simpa using c1
             have c2' : (x.kind == 2) = false := by simpa using c2
             simp [go_sem, b0, c1', c2']
             refine e208 _ _ fun b => ?_
             cases b <;> simp [go_sem, Fz.same, hm] <;> exact ⟨⟨_⟩, rfl⟩
         · have b0' : (x.base != 0) = true := by simpa using b0
           simp [go_sem, b0']
           refine e208 _ _ fun b => ?_
           cases b with
           | false => simp [go_sem, Fz.same, hm]; exact ⟨⟨_⟩, rfl⟩
           | true =>
            rcases second with c1 | ⟨c1, c2⟩ | ⟨c1, c2⟩
            · simp [go_sem, c1, Fz.same, hm]; exact ⟨⟨_⟩, rfl⟩
            · have c1' : (x.next != 0) = true := by simpa using c1
              simp [go_sem, c1', c2, Fz.same, hm]; exact ⟨⟨_⟩, rfl⟩
            · have c1' : (x.next != 0) = true := by simpa using c1
              have c2' : (x.kind == 2) = false := by simpa using c2
              simp [go_sem, c1', c2']
              refine e208 _ _ fun b => ?_
              cases b <;> simp [go_sem, Fz.same, hm] <;> exact ⟨⟨_⟩, rfl⟩
       obtain ⟨b⟩ := b
       dsimp only
       refine AH ?_
       cases b with
       | true => simp [go_sem, hGa, hGs]; exact out _ _
       | false => simp [go_sem, Fz.same, hm]
     · refine AH ?_
       simp [go_sem, w1, Fz.same, -Int.natCast_add]
       exact ⟨i + 1, by omega, ⟨by omega, hm⟩, rfl⟩
   · refine AH ?_
     simp [go_sem, hlt, Fz.same, hm]
 refine B5 0 [(2, .ptr (n + 1) 0)] (G 0) (fun m => n + 1 < m) ?_ (fun m hm => ?_)
 · refine Bn 0 [(1, .iptr [AT l]), (2, .ptr (n + 1) 0), (61, AT l), (62, AA l.length), (63, AA 0)] (G 0) (fun m => n + 1 < m) ?_ (fun m hm => ?_)
   · simp [go_sem, Fz.same, hm]
   refine Ab (Bf 0 (α := Nat) (fun i => [(1, .iptr [AT l]), (2, .ptr (n + 1) 0), (61, AT l), (62, AA l.length), (63, AA i)]) (fun _ => G 0) (fun i m => i ≤ l.length ∧ n + 1 < m) (fun i => l.length - i) 0 ⟨Nat.zero_le _, hm⟩ ?_ AB ?_)
   · simp [go_sem, Ai, Fz.same]
   rintro i m ⟨hi, hm⟩
   by_cases hlt : i < l.length
   · have w1 := wS i (by omega)
     obtain ⟨x, hx⟩ : ∃ x, l[i] = x := ⟨_, rfl⟩
     refine Bn 0 [(1, .iptr [AT l]), (2, .ptr (n + 1) 0), (61, AT l), (62, AA l.length), (63, AA i), (64, .bool true)] (G 0) (fun m => n + 1 < m) ?_ (fun m hm => ?_)
     · simp [go_sem, Fz.same, hm, hlt]
     refine Bn 0 [(1, .iptr [AT l]), (2, .ptr (n + 1) 0), (61, AT l), (62, AA l.length), (63, AA i)] (G 0) (fun m => n + 1 < m) ?_ (fun m hm => ?_)
     · simp [go_sem, Fz.same, hm]
     refine AX 0 (α := Unit) (fun _ => [(1, .iptr [AT l]), (2, .ptr (n + 1) 0), (61, AT l), (62, AA l.length), (63, AA i)]) (fun _ => G 0) (fun _ m => n + 1 < m) (Ab ?_) (fun _ m hm => ?_)
     · refine Bn 1 [(1, .iptr [AT l]), (2, .ptr (n + 1) 0), (61, AT l), (62, AA l.length), (63, AA i), (8, .iptr [AA x.id, AA x.kind, .str x.name, AA x.base, AA x.next, Ah x.props])] (G 0) (fun m => n + 1 < m) ?_ (fun m hm => ?_)
       · have hHm : ∀ j y, G 0 j = some y → j < m := fun j y e => by have := hGb 0 j y e; omega
         simp [go_sem, Fz.same, hlt, hx, A6.enc, AC]
         exact ⟨by omega, Ac (Af hHm (Nat.le_refl _)) (AC _ _ _), AL hHm (AL hHm AB)⟩
       refine Bn 0 [(1, .iptr [AT l]), (2, .ptr (n + 1) 0), (61, AT l), (62, AA l.length), (63, AA i), (8, .iptr [AA x.id, AA x.kind, .str x.name, AA x.base, AA x.next, Ah x.props]), (9, .ptr m 0)] (hset (G 0) m (some (.cells [AA 0]))) (fun m2 => m < m2) ?_ (fun m2 hm2 => ?_)
       · simp [go_sem, Fz.same, AC, Aq]
       refine BM 0 (α := Hp × Nat) (fun z => [(1, .iptr [AT l]), (2, .ptr (n + 1) 0), (61, AT l), (62, AA l.length), (63, AA i), (9, .ptr m 0), (70, .fn (.func 270) [] [.iptr [AT l], .ptr z.2 0])]) (fun z => z.1) (fun z m3 => m2 ≤ z.2 ∧ z.2 < m3 ∧ z.1 z.2 = some (.cells [AA x.id]) ∧ ∀ o y, hset (G 0) m (some (.cells [AA 0])) o = some y → z.1 o = some y) ?_ (fun z m3 hm3 => ?_)
       · simp [go_sem]
         refine SC.use (d209 l x.id) ?_
         rintro v H' n' ⟨k, rfl, g1, g2, g3, g4⟩
         simp [go_sem, Fz.same]
         exact ⟨H', k, ⟨g1, g2, g3, g4⟩, rfl, AB⟩
       obtain ⟨z, k⟩ := z
       obtain ⟨k1, k2, k3, k4⟩ := hm3
       dsimp only at k1 k2 k3 k4 ⊢
       refine Ab ?_
       refine FC rfl rfl rfl fun E1 yl R hY => ?_
       have za : z (n + 1) = some (.cells [AA 0]) := k4 _ _ (by rw [AD _ _ (by omega)]; exact hGa 0)
       have zm : z m = some (.cells [AA 0]) := k4 _ _ (AC _ _ _)
       let D : Nat → Prop := fun o => o = n + 1 ∨ o = m ∨ o = m3
       let J : Nat → Hp → Nat → Prop := fun c hh mm => m3 < mm ∧ c ≤ l.length ∧ hh (n + 1) = some (.cells [AA 0]) ∧ hh m = some (.cells [AA c]) ∧ hh m3 = some (.loop (R .ready none))
       let Jx : Hp → Nat → Prop := fun hh mm => m3 < mm ∧ hh (n + 1) = some (.cells [AA 16]) ∧ hh m3 = some (.loop (R .done (some .ret)))
       have Y : YS E1 yl l.length J Jx D := by
        refine ⟨fun c y hh mm hJ => ?_, ?_, ?_⟩
        · obtain ⟨g0, gc, g1, g2, g3⟩ := hJ
          have q1 : n + 1 ≠ mm := by omega
          have q2 : m ≠ mm := by omega
          have q3 : m3 ≠ mm := by omega
          have q3' := q3.symm
          have q4 : m ≠ m3 := by omega
          have q5 : n + 1 ≠ m3 := by omega
          have q6 : n + 1 ≠ m := by omega
          have w2 := wS c (by omega)
          refine hY _ _ _ _ g3 rfl (IF ?_)
          by_cases hc : c + 1 ≤ l.length
          · have hc' : ¬ (((l.length : Nat) : Int) < ((c + 1 : Nat) : Int)) := by omega
            simp [go_sem, JY, A6.enc, AC, AD, g2, g3, q4, w2, hc', Hl, -Int.natCast_add]
            refine ⟨by rw [AD _ _ q4.symm, AC], fun o g1 g2 => ?_, hc, ?_⟩
            · have e1 : o ≠ m := fun e => g1 (.inr (.inl e))
              have e2 : o ≠ m3 := fun e => g1 (.inr (.inr e))
              have e3 : o ≠ mm := by omega
              simp [hset, e1, e2]
            · exact ⟨by omega, hc, by simp [hset, q5, q6, g1], by simp [hset, q4], by simp [hset]⟩
          · have hc' : (((l.length : Nat) : Int) < ((c + 1 : Nat) : Int)) := by omega
            simp [go_sem, JY, A6.enc, AC, AD, g1, g2, g3, q4, q5, q6, w2, hc', Hl, -Int.natCast_add]
            refine ⟨by rw [AD _ _ q5.symm, AD _ _ q4.symm, AC], fun o g1 g2 => ?_, ?_⟩
            · have e0 : o ≠ n + 1 := fun e => g1 (.inl e)
              have e1 : o ≠ m := fun e => g1 (.inr (.inl e))
              have e2 : o ≠ m3 := fun e => g1 (.inr (.inr e))
              have e3 : o ≠ mm := by omega
              simp [hset, e0, e1, e2]
            · exact ⟨by omega, by simp [hset, q5], by simp [hset]⟩
        · rintro c hh mm h' m' ⟨g0, gc, g1, g2, g3⟩ hmm hD
          exact ⟨by omega, gc, by rw [hD _ (.inl rfl)]; exact g1, by rw [hD _ (.inr (.inl rfl))]; exact g2, by rw [hD _ (.inr (.inr rfl))]; exact g3⟩
        · rintro c hh mm ⟨g0, gc, g1, g2, g3⟩ o (rfl | rfl | rfl) <;> omega
       have hkm3 : k ≠ m3 := by omega
       refine Ag.mono (d270 Y l hl (id := x.id) (k := k) (by rw [AD _ _ hkm3]; exact k3) (by rintro (g | g | g) <;> omega) ⟨by omega, Nat.zero_le _, by rw [AD _ _ (by omega)]; exact za, by rw [AD _ _ (by omega)]; exact zm, AC _ _ _⟩) ?_
       rintro v h' m' ⟨hm', hfr, ⟨c, g0, gc, g1, g2, g3⟩ | ⟨g0, g1, g3⟩⟩
       · refine ⟨_, _, g3, by simp, ?_⟩
         simp [go_sem]
         refine ⟨by omega, fun o y e => ?_⟩
         have o1 : o < n + 2 := hGb 0 o y e
         by_cases o2 : o = n + 1
         · subst o2; rw [AD _ _ (by omega), g1, ← e, hGa]
         · rw [AD _ _ (by omega), hfr o (by rintro (g | g | g) <;> omega) (by omega) (by omega), AD _ _ (by omega)]
           exact k4 _ _ ((AD _ _ (by omega)).trans e)
       · refine ⟨_, _, g3, by simp, ?_⟩
         simp [go_sem]
         rw [AD _ _ (by omega : n + 1 ≠ m3), g1]
         refine ⟨_, rfl, GB ho (fun o y e => ?_) (by simp [closed]) ⟨16, rfl⟩⟩
         have o1 : o < n := hHb o y e
         rw [AD _ _ (by omega), hfr o (by rintro (g | g | g) <;> omega) (by omega) (by omega), AD _ _ (by omega)]
         exact k4 _ _ ((AD _ _ (by omega)).trans (hGk 0 _ _ e))
     · refine AH ?_
       simp [go_sem, w1, Fz.same, -Int.natCast_add]
       exact ⟨i + 1, by omega, ⟨by omega, hm⟩, rfl⟩
   · refine AH ?_
     simp [go_sem, hlt, Fz.same, hm]
 refine AH ?_
 simp [go_sem, hGa, hGs]
 exact out _ _
structure AM.sizedT (s : AM) : Prop extends AM.sized s where
 tpl : ∀ x ∈ s.lists, ∀ y ∈ x.levels, y.template.size ≤ 1048576
 com : ∀ x ∈ s.comments, x.author.size ≤ 1048576 ∧ x.text.size ≤ 1048576
 var : ∀ x ∈ s.vars, x.name.size ≤ 1048576 ∧ x.value.size ≤ 1048576
theorem t83s (s : AM) (hs : s.sizedT) : TC 83 [s.enc] E3 :=
 t83 s (t146 _ hs.styles hs.props)
  (t147 _ hs.lists fun i hi => t210 _ hs.lists i hi (t212 _ (hs.levels _ (List.getElem_mem hi)) fun x hx k => t271 x.template (hs.tpl _ (List.getElem_mem hi) x hx) k))
  (t148 _ hs.comments fun i hi => t213 _ hs.comments hs.com i hi)
  (t149 _ hs.vars fun i hi => t218 _ hs.vars hs.var i hi)
structure AI.sizedT (B N : Nat) (d : AI) : Prop where
 flow : EZ AF.sized B N d.flow
 «end» : d.«end».sized
 revs : d.revs.length ≤ 1048576
 authors : ∀ r ∈ d.revs, r.author.size ≤ 1048576
 settings : d.settings.sizedT
theorem t12s (d : AI) {B N : Nat} (hB : B ≤ 1048576) (hd : d.sizedT B N) : TC 12 [d.enc] (Pg N d) :=
 t12 d hB hd.flow (t24 d hB hd.flow hd.end hd.settings.styles hd.settings.lists hd.revs hd.authors (t83s _ hd.settings))
structure Qy (h : AF) : Prop where
 move : h.move = 0
 dels : h.dels = []
 layers : h.layers = []
theorem c44 (x : AF) (hx : Qy x) : PC 44 [x.enc] (.imm 0 [] true) := by
 intro h n
 refine gq Tryz.func44 rfl fun ho => ?_
 have hh : ∀ a b c, ∀ o y, h o = some y → hset (hset (hset h n a) (n + 1) b) (n + 1) c o = some y := fun a b c => AO ho (by omega) (AO ho (by omega) (AO ho (Nat.le_refl _) AB))
 obtain ⟨h1, h2, _⟩ := hx
 simp [go_sem, AF.enc, AF.flat, AC, AD, h1, h2]
 refine An 1 (α := Unit) (fun k => [(3, .imm 0 [] true), (22, Ao []), (23, AA 0), (24, AA 0)]) (fun _ => h) (fun k m => n ≤ m) (fun k => 0) () ?_ ?_ ?_ ?_
 · omega
 · simp [Ai]
 · exact hh _ _ _
 rintro _ m hm
 simp [go_sem]
 exact Av ho AB rfl rfl
theorem d43 (p : Br) (hp : Qy p.head) (t : Nat) {H : Hp} {n : Nat} : BO Tryz.prog 43 [p.enc, .ptr t 0] H n (fun v h' n' => v = .tup [] ∧ h' = H ∧ n' = n) := by
 refine ED Tryz.func43 rfl fun ho => ?_
 refine Ae 1 [(1, .ptr t 0), (2, .iptr (p.head.flat ++ [.bool p.mid, AA p.units]))] H n ?_ (fun m hm => ?_)
 · simp [go_sem, Br.enc, AF.flat, Fz.same]
   refine ⟨Ac (ho.none (Nat.le_refl n)) (by simp [hset]), AL (fun j z e => (ho j z e).1) AB⟩
 refine AH ?_
 simp [go_sem, AF.flat]
 refine PC.use (by simpa [AF.enc, AF.flat] using c44 p.head hp) ?_
 simp [go_sem]
 refine An 0 (α := Unit) (fun k => [(8, .imm 0 [] true), (9, AA 0), (10, AA 0)]) (fun _ => H) (fun k m => n ≤ m) (fun k => 0) () ?_ ?_ AB ?_
 · omega
 · simp [Ai, Fz.same]
 rintro _ m hm
 simp [go_sem]
 exact Cb ho (by simp [closed, closedL]) AB
def st0 : Unit → Nat → Option BV := fun _ _ => none
theorem up0 (s : Unit) (H : Hp) : Az st0 s H = H := rfl
theorem v43 (n0 t : Nat) : Vis st0 n0 43 [] [.ptr t 0] (fun s _ => s) Qy where
 lt _ _ _ := rfl
 dom _ _ _ _ := rfl
 cl _ _ _ e := by cases e
 call s p H n hp hn hs := by rw [up0]; exact d43 p hp t
theorem c48 (a x : Int) : PC 48 [AA x, .iptr [AA a]] (.bool (x == a)) := by
 intro h n
 refine gq Tryz.func48 rfl fun ho => ?_
 simp [go_sem]
 exact Av ho AB (by by_cases e : x = a <;> simp [e]) rfl
theorem c254 : PC 254 [.imm 2 [] false, AA 0, AA 0, .fn (.func 120) [] []] (.tup []) := by
 intro h n
 refine gq Tryz.func254 rfl fun ho => ?_
 simp [go_sem]
 refine An 1 (α := Unit) (fun k => [(2, AA 0), (8, AA 1)]) (fun _ => h) (fun k m => n ≤ m) (fun k => 0) () ?_ ?_ AB ?_
 · omega
 · simp [Ai, show IntKind.i64.wrap 1 = 1 from by decide, Fz.same]
 rintro _ m hm
 simp [go_sem]
 exact Av ho AB rfl rfl
theorem c188 : PC 188 [.imm 2 [] false, AA 0, .fn (.func 120) [] []] (.tup []) := by
 intro h n
 refine gq Tryz.func188 rfl fun ho => ?_
 simp [go_sem]
 refine An 1 (α := Unit) (fun k => [(0, .imm 2 [] false), (1, AA 0), (2, .fn (.func 120) [] []), (6, AA 20), (7, AA 0), (8, AA 20)]) (fun _ => h) (fun k m => n ≤ m) (fun k => 0) () ?_ ?_ AB ?_
 · omega
 · simp [Ai]
 rintro _ m hm
 simp [go_sem]
 refine PC.use c254 ?_
 simp [go_sem]
 refine An 1 (α := Unit) (fun k => [(1, AA 0), (6, AA 20)]) (fun _ => h) (fun k m => n ≤ m) (fun k => 0) () ?_ ?_ AB ?_
 · omega
 · simp [Ai]
 rintro _ m hm
 simp [go_sem]
 exact Av ho AB rfl rfl
theorem c119 : PC 119 [.imm 2 [] false, .fn (.func 120) [] []] (.tup []) := by
 intro h n
 refine gq Tryz.func119 rfl fun ho => ?_
 simp [go_sem]
 refine PC.use c188 ?_
 simp [go_sem]
 exact Av ho AB rfl rfl
def JO (a id : Int) (h : AF) : AF := { h with ins := if h.ins ≠ 0 ∧ h.ins = a then id else h.ins }
set_option maxHeartbeats 2000000 in
theorem c47 (x : AF) (hs : x.sized) (hx : Qy x) (a id : Int) : PC 47 [x.enc, AA id, .fn (.func 48) [] [.iptr [AA a]]] (JO a id x).enc := by
 intro h n
 refine ED Tryz.func47 rfl fun ho => ?_
 have hHb := ho.lt
 have q1 : n + 1 ≠ n := by omega
 have q2 : n ≠ n + 1 := by omega
 obtain ⟨x1, x2, x3⟩ := hx
 obtain ⟨G, hG⟩ : ∃ G : Int → Hp, ∀ y, G y = hset (hset h n (some (.cells [Ah x.props, AA y, AA 0, Ao [], AV []]))) (n + 1) (some (.cells [.imm 0 [] true, AA 0, AA 0, .imm 0 [] true, .imm 0 [] true])) := ⟨_, fun _ => rfl⟩
 have hGa : ∀ y, G y n = some (.cells [Ah x.props, AA y, AA 0, Ao [], AV []]) := fun y => by rw [hG, AD _ _ q2, AC]
 have hGb : ∀ y, G y (n + 1) = some (.cells [.imm 0 [] true, AA 0, AA 0, .imm 0 [] true, .imm 0 [] true]) := fun y => by rw [hG, AC]
 have hGs : ∀ y z, hset (G y) n (some (.cells [Ah x.props, AA z, AA 0, Ao [], AV []])) = G z := fun y z => by rw [hG, hG]; funext j; simp only [hset]; grind
 have hGk : ∀ y j z, h j = some z → G y j = some z := fun y j z e => by have := hHb j z e; rw [hG, AD _ _ (by omega), AD _ _ (by omega)]; exact e
 obtain ⟨F, hF⟩ : ∃ F : SV, F = .fn (.func 48) [] [.iptr [AA a]] := ⟨_, rfl⟩
 rw [← hF]
 refine Bn 0 [(1, AA id), (2, F), (3, .ptr n 0), (6, .ptr (n + 1) 0)] (G x.ins) (fun m => n + 2 = m) ?_ (fun m hm => ?_)
 · simp [go_sem, AF.enc, AF.flat, hG, x1, x2, x3, Fz.same]
 subst hm
 refine Bn 0 [(1, AA id), (2, F), (3, .ptr n 0), (6, .ptr (n + 1) 0)] (G x.ins) (fun m => n + 2 ≤ m) ?_ (fun m hm => ?_)
 · simp [go_sem, hGa]
   refine PC.use (by simpa [AF.enc, AF.flat, x1, x2, x3] using N1 x hs) ?_
   simp [go_sem, hGa, hGs, Fz.same]
 refine Bn 0 [(1, AA id), (2, F), (3, .ptr n 0), (6, .ptr (n + 1) 0), (7, .ptr n 1)] (G x.ins) (fun m => n + 2 ≤ m) ?_ (fun m hm => ?_)
 · simp [go_sem, Fz.same, hm]
 refine B5 0 [(1, AA id), (2, F), (3, .ptr n 0), (6, .ptr (n + 1) 0), (7, .ptr n 1)] (G (JO a id x).ins) (fun m => n + 2 ≤ m) ?_ (fun m hm => ?_)
 · refine AH ?_
   by_cases i0 : x.ins = 0
   · have hr : (JO a id x).ins = x.ins := by simp [JO, i0]
     rw [hr]
     simp [go_sem, hGa, i0, Fz.same, hm]
   · have i1 : (x.ins != 0) = true := by simpa using i0
     rw [hF]
     by_cases ia : x.ins = a
     · have hr : (JO a id x).ins = id := (by simp only [JO]; rw [if_pos ⟨i0, ia⟩])
       rw [hr]
       simp [go_sem, hGa, i1]
       refine PC.use (c48 a x.ins) ?_
       simp [go_sem, hGa, hGs, ia, Fz.same, hm]
     · have hr : (JO a id x).ins = x.ins := by simp [JO, ia]
       have ib : (x.ins == a) = false := by simpa using ia
       rw [hr]
       simp [go_sem, hGa, i1]
       refine PC.use (c48 a x.ins) ?_
       simp [go_sem, ib, Fz.same, hm]
 have hv : (JO a id x).enc = .agg [Ah x.props, AA (JO a id x).ins, AA 0, Ao [], AV []] := by simp [JO, AF.enc, AF.flat, x1, x2, x3]
 rw [hv]
 generalize (JO a id x).ins = y
 refine B5 0 [(1, AA id), (2, F), (3, .ptr n 0), (6, .ptr (n + 1) 0), (7, .ptr n 1)] (G y) (fun m => n + 2 ≤ m) ?_ (fun m hm => ?_)
 · refine AH ?_
   simp [go_sem, hGa]
   refine An 0 (α := Unit) (fun _ => [(1, AA id), (2, F), (3, .ptr n 0), (6, .ptr (n + 1) 0), (7, .ptr n 1), (34, AA 0), (35, AA 0)]) (fun _ => G y) (fun _ m => n + 2 ≤ m) (fun _ => 0) () hm ?_ AB ?_
   · simp [Ai, Fz.same]
   rintro _ m hm
   simp [go_sem, Fz.same, hm]
 refine Bn 0 [(1, AA id), (2, F), (3, .ptr n 0), (6, .ptr (n + 1) 0), (7, .ptr n 1)] (G y) (fun m => n + 2 ≤ m) ?_ (fun m hm => ?_)
 · simp [go_sem, hGa]
   refine PC.use c119 ?_
   simp [go_sem, Fz.same, hm]
 refine B5 0 [(3, .ptr n 0), (6, .ptr (n + 1) 0)] (G y) (fun m => n + 2 ≤ m) ?_ (fun m hm => ?_)
 · refine AH ?_
   simp [go_sem, hGa]
   refine An 0 (α := Unit) (fun _ => [(1, AA id), (2, F), (3, .ptr n 0), (6, .ptr (n + 1) 0), (7, .ptr n 1), (66, AA 0), (67, AA 0)]) (fun _ => G y) (fun _ m => n + 2 ≤ m) (fun _ => 0) () hm ?_ AB ?_
   · simp [Ai, Fz.same]
   rintro _ m hm
   simp [go_sem, Fz.same, hm]
 refine AH ?_
 simp [go_sem, hGa, hGb, AC]
 exact Av ho (AL (fun j z e => by have := hHb j z e; omega) (hGk y)) rfl (by simp [closed, closedL, FH.E.closedL])
def Pb (a id : Int) (s : Unit) (p : Br) : AF × Bool × Unit := (if p.mid then JO a id p.head else p.head, true, s)
theorem v46 (n0 : Nat) (r : BF) (a : Int) : L0 st0 n0 46 [] [.iptr [AA r.id, .str r.author, AA r.time], .iptr [AA a]] (Pb a r.id) (fun x => x.sized ∧ Qy x) where
 lt _ _ _ := rfl
 dom _ _ _ _ := rfl
 cl _ _ _ e := by cases e
 call s p H n hp hn hs := by
  rw [up0]
  refine ED Tryz.func46 rfl fun ho => ?_
  have hHb := ho.lt
  have q1 : n + 1 ≠ n := by omega
  obtain ⟨X, hX⟩ : ∃ X : SV, X = .iptr (p.head.flat ++ [.bool p.mid, AA p.units]) := ⟨_, rfl⟩
  refine Bn 1 [(1, .iptr [AA r.id, .str r.author, AA r.time]), (2, .iptr [AA a]), (3, X), (4, .ptr (n + 1) 0)] (hset H (n + 1) (some (.cells [.imm 0 [] true, AA 0, AA 0, .imm 0 [] true, .imm 0 [] true]))) (fun m => n + 2 ≤ m) ?_ (fun m hm => ?_)
  · rw [hX]
    simp [go_sem, Br.enc, AF.flat, Fz.same]
    refine ⟨Ac (by rw [AD _ _ q1.symm]; exact ho.none (Nat.le_refl n)) (by simp [hset]), fun j y => ?_⟩
    have := hHb j y; simp only [hset]; grind
  have hcl : ∀ x : AF, closed n (.tup [x.enc, .bool true]) = true := fun x => by simp [closed, closedL, AF.E.cl]
  have fin : ∀ (x : AF) (y : BV) (m' : Nat), Pb a r.id s p = (x, true, s) → CG n (hset H (n + 1) (some y)) m' (.tup [x.enc, .bool true]) (fun v h' n' => v = .tup [(Pb a r.id s p).1.enc, .bool (Pb a r.id s p).2.1] ∧ h' = H ∧ n' = n) := fun x y m' e => by rw [e]; exact Cb ho (hcl x) (AL (fun j z e => by have := hHb j z e; omega) AB)
  rw [hX]
  refine AH ?_
  cases hmid : p.mid with
  | false =>
   simp [go_sem, AF.flat, AC, Aq]
   exact fin p.head _ _ (by simp [Pb, hmid])
  | true =>
   simp [go_sem, AF.flat]
   refine PC.use (by simpa [AF.enc, AF.flat] using c47 p.head hp.1 hp.2 a r.id) ?_
   simp [go_sem, AF.enc, AF.flat, AC, Aq]
   exact fin (JO a r.id p.head) _ _ (by simp [Pb, hmid])
set_option maxHeartbeats 2000000 in
theorem Si (l : List BF) (hl0 : l ≠ []) (hl : l.length ≤ 1048576) (r : BF) {H : Hp} {n o k : Nat} {full : Bool} (hH : H o = some (.cells ((l.map BF.enc).flatMap SV.cells))) (hk : H k = some (.cells [AA r.id, .str r.author, AA r.time])) (hok : o ≠ k) :
 BO Tryz.prog 117 [.sl o 0 3 l.length full, AA l.length, .sl k 0 3 1 true] H n (fun v h' n' => v = A3 (l ++ [r]) ∧ h' = hset H o none ∧ n' = n) := by
 refine ED Tryz.func117 rfl fun ho => ?_
 have hHb := ho.lt
 have hfl : flat H (.sl o 0 3 l.length full) = some ((l.map BF.enc).flatMap SV.cells) := by
  have : ((l.map BF.enc).flatMap SV.cells).length = l.length * 3 := by rw [BH (z := 3) (BF.E.size l)]; simp
  simp [flat, hH, Bi, ← this, -List.length_flatMap]
 have hfl2 : flat H (.sl k 0 3 1 true) = some [AA r.id, .str r.author, AA r.time] := by simp [flat, hk, Bi]
 have ht : BA Tryz.prog 30 = some 42 := by simp [go_sem]
 have hap : AZ Tryz.prog H n .append [30, 30] [.sl o 0 3 l.length full, .sl k 0 3 1 true] = some { val := .sl n 0 3 (l.length + 1) false, upd := if full then none else some (o, none), new := some (.cells ((l.map BF.enc).flatMap SV.cells ++ [AA r.id, .str r.author, AA r.time])) } := by
  have hz : Bb Tryz.prog 42 = 3 := by simp [go_sem]
  have hst : (BN Tryz.prog 42).storable = true := by simp [go_sem]
  have hzl : (BN Tryz.prog 42).cells.length = 3 := by simp [go_sem]
  have hb : Bj Tryz.prog 42 ≤ 65536 := by simp [go_sem]
  have hro : EW (l.length + 1) (Bj Tryz.prog 42) = true := by simp [EW, hb]; omega
  simp [AZ, ht, Ed, hz, hst, hzl, F7, hfl, hfl2, J6, hro, HL, II]
 have fin : ∀ (h' : Hp) (n' : Nat), h' = hset (match (if full then none else some (o, (none : Option BV))) with | some (j, x) => hset H j x | none => H) n (some (.cells ((l.map BF.enc).flatMap SV.cells ++ [AA r.id, .str r.author, AA r.time]))) → CG n h' n' (.sl n 0 3 (l.length + 1) false) (fun v h' n' => v = A3 (l ++ [r]) ∧ h' = hset H o none ∧ n' = n) := fun h' n' e => by
  have hon := hHb o _ hH
  have hcs : ((l ++ [r]).map BF.enc).flatMap SV.cells = (l.map BF.enc).flatMap SV.cells ++ [AA r.id, .str r.author, AA r.time] := by simp [BF.enc, SV.cells]
  refine .inr ⟨1, A3 (l ++ [r]), hset H o none, ?_, BF.E.imm _ _ _ _, fun j y e2 => ?_, rfl, rfl, rfl⟩
  · have := Dq (h' := h') (h := hset H o none) (k := 0) (z := 3) (es := (l ++ [r]).map BF.enc) (full := false) (full' := false) (o := n) (by rw [AD _ _ (by omega)]; exact ho.none (Nat.le_refl n)) (by simp) (by rw [e, AC, hcs]) (BF.E.size _)
    rw [List.length_map, List.length_append] at this; exact this
  · by_cases e1 : j = o
    · subst e1; rw [AC] at e2; cases e2
    · rw [AD _ _ e1] at e2
      refine ⟨?_, ho j y e2⟩
      have := hHb j y e2
      rw [e, AD _ _ (by omega)]
      cases full
      · simp only [Bool.false_eq_true, if_false]; rw [AD _ _ e1]; exact e2
      · exact e2
 refine AH ?_
 have w : ¬ l.length = 0 := by simpa using hl0
 simp [go_sem, hl0]
 rw [hap]
 cases full <;> simp [go_sem] <;> exact fin _ _ (by simp)
def TE : Tr := (.pure 0 (.pure 2 (.two 1 3 (.one 3 (.one 4 (.one 5 (.pure 6 (.pure 7 .nil))))) (.two 1 4 (.one 4 (.one 5 (.pure 6 (.pure 7 .nil)))) (.one 1 (.one 5 (.pure 6 (.pure 7 .nil))))))))
set_option maxHeartbeats 2000000 in
theorem c45 (l : List BF) (hl0 : l ≠ []) (hl : l.length < 256) (r : BF) (h0 : Cs l = 0) (h1 : Cc r = 0) (hb : A7 (Hq l r.id) l.length = (l.length, false)) : PC 45 [A3 l, r.enc] (.tup [A3 (l ++ [r]), AA 0]) := by
 intro h n
 refine ED Tryz.func45 rfl fun ho => ?_
 have hHb := ho.lt
 refine Ae 1 [(0, A3 l), (3, .iptr [AA r.id, .str r.author, AA r.time])] h n ?_ (fun m hm => ?_)
 · simp [go_sem, BF.enc, Fz.same]
   exact ⟨Ac (Af hHb (Nat.le_refl _)) (AC _ _ _), AL hHb AB⟩
 refine Bs 0 [(0, A3 l), (3, .iptr [AA r.id, .str r.author, AA r.time])] h n (AH ?_) (fun m hm => ?_)
 · simp [go_sem]
   refine PC.use (c71 l (by omega)) ?_
   rw [h0]
   simp [go_sem, Fz.same, hm]
 refine Bs 0 [(0, A3 l), (3, .iptr [AA r.id, .str r.author, AA r.time])] h n (AH ?_) (fun m hm => ?_)
 · simp [go_sem]
   refine PC.use (by simpa [BF.enc] using c42 r) ?_
   rw [h1]
   simp [go_sem, Fz.same, hm]
 refine Ae 0 [(0, A3 l), (3, .iptr [AA r.id, .str r.author, AA r.time]), (8, AA l.length), (9, .bool false)] h n ?_ (fun m hm => ?_)
 · simp [go_sem]
   refine PC.use (c72 l (by omega) r.id) ?_
   rw [hb]
   simp [go_sem, Fz.same, hm]
 refine Bs 0 [(0, A3 l), (3, .iptr [AA r.id, .str r.author, AA r.time]), (8, AA l.length)] h n (AH ?_) (fun m hm => ?_)
 · have : ¬ (256 : Int) ≤ l.length := by omega
   simp [go_sem, Fz.same, hm, this]
 refine AX 0 (α := Unit) (fun _ => [(4, A3 (l ++ [r])), (5, AA 0)]) (fun _ => h) (fun _ m => n ≤ m) (CK TE rfl (by kernel_rfl) (by kernel_rfl) ?_) (fun _ m hm => ?_)
 · have hHm : ∀ j y, h j = some y → j < m := fun j y e => by have := hHb j y e; omega
   simp [go_sem, TE]
   refine ⟨?_, ?_, ?_⟩
   · refine LC.use (Td l (by omega)) ?_
     rintro v h' n' ⟨g1, g2, ⟨g3, _⟩ | ⟨o, full, g3, g4, rfl, g5⟩⟩
     · exact absurd (by simpa using g3) hl0
     simp [go_sem]
     have e1 : o ≠ n' := by omega
     refine SC.use (Si l hl0 (by omega) r (by rw [AD _ _ e1]; exact g5) (AC _ _ _) e1) ?_
     rintro v H2 n2 ⟨rfl, rfl, rfl⟩
     simp [go_sem, Fz.same]
     exact ⟨by omega, AL (fun j z e => by have := hHm j z e; omega) (AL (fun j z e => by have := hHm j z e; omega) g2)⟩
   · refine LC.use (Td l (by omega)) ?_
     rintro v h' n' ⟨g1, g2, ⟨g3, _⟩ | ⟨o, full, g3, g4, rfl, g5⟩⟩
     · exact absurd (by simpa using g3) hl0
     simp [go_sem]
     have e1 : o ≠ n' := by omega
     refine SC.use (Si l hl0 (by omega) r (by rw [AD _ _ e1]; exact g5) (AC _ _ _) e1) ?_
     rintro v H2 n2 ⟨rfl, rfl, rfl⟩
     simp [go_sem, Fz.same]
     exact ⟨by omega, AL (fun j z e => by have := hHm j z e; omega) (AL (fun j z e => by have := hHm j z e; omega) g2)⟩
   · refine LC.use (Td l (by omega)) ?_
     rintro v h' n' ⟨g1, g2, ⟨g3, _⟩ | ⟨o, full, g3, g4, rfl, g5⟩⟩
     · exact absurd (by simpa using g3) hl0
     simp [go_sem]
     refine SC.use (Si l hl0 (by omega) r g5 (g2 _ _ (AC _ _ _)) (by omega)) ?_
     rintro v H2 n2 ⟨rfl, rfl, rfl⟩
     simp [go_sem, Fz.same]
     exact ⟨by omega, AL (fun j z e => by have := hHm j z e; omega) fun j z e => g2 _ _ (AL hHm AB j z e)⟩
 refine AH ?_
 simp [go_sem]
 exact Av ho AB rfl (by rw [closed, closedL, closedL, BF.E.imm]; rfl)
def LB (x : AE) : Bool := (x.kind == 7 && (match x.rows with | [] => true | _ :: _ => false)) || (x.kind == 1 && x.text.size == 0)
theorem I3 (x : AE) : Ce x ↔ LB x = true := by
 unfold Ce LB
 cases h : x.rows <;> simp []
def NU (out : List AE) (x : AE) : List AE :=
 if LB x then out else match out.getLast? with
  | some y => if x.kind = 1 ∧ y.kind = 1 ∧ y.head = x.head then out.dropLast ++ [y.addText x.text] else out ++ [x]
  | none => out ++ [x]
theorem QX : Ar = NU := by
 funext out x
 unfold Ar NU
 by_cases h : Ce x
 · rw [if_pos h, if_pos ((I3 x).1 h)]
 · rw [if_neg h, if_neg (fun e => h ((I3 x).2 e))]
   cases out.getLast? <;> rfl
theorem Hm (l : List AE) : AU l = (AE.nrmL l).foldl NU [] := by rw [AU, Cz, QX]
def Ca : BF := ⟨3, ⟨#[65, 110]⟩, 0⟩
def CU : BF := ⟨4, ⟨#[65, 110]⟩, 0⟩
def z0 : AF := ⟨[], 0, 0, [], []⟩
def hI (i : Int) : AF := ⟨[], i, 0, [], []⟩
def LD (i : Int) (t : ByteArray) : AE := .mk 1 0 0 t (hI i) [] []
def Q4 : AE := LD 3 ⟨#[97, 98, 99, 100]⟩
def NK : AE := .mk 2 0 0 ⟨#[]⟩ z0 [] []
def GH : AM := ⟨[], [], [], []⟩
def CT : AI := ⟨[Q4, NK], z0, [Ca], GH⟩
def Ew : BG := ⟨0, 1, 3⟩
def Ly (i : Int) : List AE := [LD 3 ⟨#[97]⟩, LD i ⟨#[98, 99]⟩, LD 3 ⟨#[100]⟩, NK]
theorem rsB (l : List AE) (a b : Int) (r : List AE) (h : DR l a b = 0) (hr : (AE.nrmL (Am (Am l b).1 a).2).foldl NU [] = r) : AR l a b = (r, 0) := by
 rw [AR, if_pos h, Hm, hr]
theorem rs1 : AR [Q4, NK] 0 1 = ([LD 3 ⟨#[97]⟩], 0) := rsB _ _ _ _ (by kernel_rfl) (by kernel_rfl)
theorem rs2 : AR [Q4, NK] 1 3 = ([LD 3 ⟨#[98, 99]⟩], 0) := rsB _ _ _ _ (by kernel_rfl) (by kernel_rfl)
theorem rs3 : AR [Q4, NK] 3 5 = ([LD 3 ⟨#[100]⟩, NK], 0) := rsB _ _ _ _ (by kernel_rfl) (by kernel_rfl)
theorem exLen : Ap [Q4, NK] = (5, 0) := by kernel_rfl
section
variable {σ : Type}
theorem wEx (f : σ → Br → AF × Bool × σ) (revs : List BF) (s : σ) (r : List AE × σ) (h : ((A8 f (AN f Ew 1) false [LD 3 ⟨#[97]⟩] s).1 ++ (A8 f (AN f Ew 1) true [LD 3 ⟨#[98, 99]⟩] (A8 f (AN f Ew 1) false [LD 3 ⟨#[97]⟩] s).2).1 ++ (A8 f (AN f Ew 1) false [LD 3 ⟨#[100]⟩, NK] (A8 f (AN f Ew 1) true [LD 3 ⟨#[98, 99]⟩] (A8 f (AN f Ew 1) false [LD 3 ⟨#[97]⟩] s).2).2).1,
 (A8 f (AN f Ew 1) false [LD 3 ⟨#[100]⟩, NK] (A8 f (AN f Ew 1) true [LD 3 ⟨#[98, 99]⟩] (A8 f (AN f Ew 1) false [LD 3 ⟨#[97]⟩] s).2).2).2) = r) :
 BP f Ew 2 CT revs s = (⟨r.1, (f r.2 ⟨z0, false, 1⟩).1, revs, GH⟩, (f r.2 ⟨z0, false, 1⟩).2.2) := by
 have e : AN f Ew 2 0 CT.flow false s = r := by
  rw [← h]
  show AN f Ew 2 0 [Q4, NK] false s = _
  rw [AN, if_pos (by kernel_rfl), exLen]
  show (_, _) = _
  rw [show Ew.a = 1 from rfl, show Ew.b = 3 from rfl, rs1, rs2, rs3]
 rw [BP, e]; rfl
end
theorem w1 : BP (Bz (Dj 3)) Ew 2 CT [Ca] (0, 0) = (⟨Ly 3, z0, [Ca], GH⟩, (2, 2)) := by
 rw [wEx _ _ _ (Ly 3, (2, 2)) (by kernel_rfl)]; kernel_rfl
theorem w2 : BP (Bz fun (s : Unit) _ => s) Ew 2 CT [Ca] () = (⟨Ly 3, z0, [Ca], GH⟩, ()) := by
 rw [wEx _ _ _ (Ly 3, ()) (by kernel_rfl)]; kernel_rfl
theorem w3 : BP (Pb 3 4) Ew 2 CT [Ca, CU] () = (⟨Ly 4, z0, [Ca, CU], GH⟩, ()) := by
 rw [wEx _ _ _ (Ly 4, ()) (by kernel_rfl)]; kernel_rfl
theorem nP3 : AU (Ly 3) = [Q4, NK] := by rw [Hm]; kernel_rfl
theorem nP4 : AU (Ly 4) = Ly 4 := by rw [Hm]; kernel_rfl
theorem n3 : (⟨Ly 3, z0, [Ca], GH⟩ : AI).normal = CT := by
 rw [AI.normal, AI.norm1, nP3]; kernel_rfl
theorem s34 : Cg [3, 4] = [3, 4] := by unfold Cg; first | exact List.mergeSort_of_sorted (by simp) | exact List.mergeSort_of_pairwise (by simp) | simp [List.mergeSort]
theorem u34 : GS ⟨Ly 4, z0, [Ca, CU], GH⟩ = [3, 4] := by
 rw [GS, show ((BU [] (AE.usL (Ly 4) ++ z0.all)).filter fun x => decide (x ≠ 0)) = [3, 4] by kernel_rfl, s34]
theorem n4 : (⟨Ly 4, z0, [Ca, CU], GH⟩ : AI).normal = ⟨Ly 4, z0, [Ca, CU], GH⟩ := by
 rw [AI.normal, AI.norm1, nP4, u34]; kernel_rfl
theorem exS1 : A9 2 CT 3 Ew = (2, 2, 0) := by
 rw [A9, if_neg (of_decide_eq_false (by kernel_rfl)), if_neg (of_decide_eq_false (by kernel_rfl)), if_neg (of_decide_eq_false (by kernel_rfl))]
 rw [show CT.revs = [Ca] from rfl, w1]
def T2 (h : AF) : Prop := h = z0 ∨ h = hI 3
theorem Fq {h : AF} (e : T2 h) : h.sized := by
 rcases e with rfl | rfl <;> exact ⟨by simp [z0, hI], by simp [z0, hI], by simp [z0, hI]⟩
theorem OD {h : AF} (e : T2 h) : Qy h := by
 rcases e with rfl | rfl <;> exact ⟨rfl, rfl, rfl⟩
theorem RR {h : AF} (e : T2 h) : h.revs.length ≤ 1048576 := by
 rcases e with rfl | rfl <;> exact of_decide_eq_true (by kernel_rfl)
theorem RS : EZ T2 10 2 CT.flow := by
 refine ⟨of_decide_eq_true (by kernel_rfl), of_decide_eq_true (by kernel_rfl), fun x hx => ?_⟩
 have : x = Q4 ∨ x = NK := by simpa [CT] using hx
 rcases this with rfl | rfl
 · exact ⟨.inr rfl, ⟨by simp [Q4, LD, AE.flow], of_decide_eq_true (by kernel_rfl), by simp [Q4, LD, AE.flow]⟩, by simp [Q4, LD, AE.rows], by simp [Q4, LD, AE.rows]⟩
 · exact ⟨.inl rfl, ⟨by simp [NK, AE.flow], of_decide_eq_true (by kernel_rfl), by simp [NK, AE.flow]⟩, by simp [NK, AE.rows], by simp [NK, AE.rows]⟩
theorem H7 (i : Int) (t : ByteArray) (ht : t.size ≤ 10) : (LD i t).sized := by
 simp [LD, AE.sized, AE.sizedL, AS.sizedL]
 exact ⟨by omega, by simp [hI], by simp [hI], by simp [hI]⟩
theorem MT : NK.sized := by
 simp [NK, AE.sized, AE.sizedL, AS.sizedL]
 exact ⟨of_decide_eq_true (by kernel_rfl), by simp [z0], by simp [z0], by simp [z0]⟩
theorem Lh : GH.sized := ⟨by simp [GH], by simp [GH], by simp [GH], by simp [GH], by simp [GH], by simp [GH]⟩
theorem Ow : z0.sized := Fq (.inl rfl)
theorem H6 (i : Int) (revs : List BF) (h : revs.length ≤ 10) : (⟨Ly i, z0, revs, GH⟩ : AI).sized :=
 ⟨by simp [Ly], by simp only [Ly, AE.sizedL]; exact ⟨H7 _ _ (of_decide_eq_true (by kernel_rfl)), H7 _ _ (of_decide_eq_true (by kernel_rfl)), H7 _ _ (of_decide_eq_true (by kernel_rfl)), MT, trivial⟩, Ow, by show revs.length ≤ _; omega, Lh⟩
theorem GM : CT.sized :=
 ⟨by simp [CT], by simp only [CT, AE.sizedL]; exact ⟨H7 _ _ (of_decide_eq_true (by kernel_rfl)), MT, trivial⟩, Ow, by simp [CT], Lh⟩
theorem PI {d : AI} (hl : d.flow.length ≤ 1048576) (hs : AE.sizedL d.flow) {id : Int} {fl : Fl} (e : CW d id = some fl) : fl.items.length ≤ 1048576 ∧ ∀ x ∈ fl.items, x.text.size ≤ 1048576 := by
 have o := IX hl hs fl (List.mem_of_find?_eq_some e)
 exact ⟨o.1, AE.sizedL_text o.2⟩
theorem Sr : PC 13 [CT.enc, AA 3, Ew.enc] (.tup [AA 2, AA 2, AA 0]) := by
 have hr : CT.revs = [Ca] := rfl
 have := c13 T2 10 (by omega) (fun h e => ⟨⟨Fq e, RR e⟩, Fq e⟩) 2 CT 3 Ew RS (.inl rfl) (by simp [CT]) (fun fl hfl => ?_) ?_ ?_ ?_
 · rw [exS1] at this; exact this
 · exact PI GM.len GM.flow hfl
 · rw [hr, w1]; exact H6 _ _ (by simp)
 · rw [hr, w1, n3]; exact GM
 · rw [hr, w1, nP3]; exact of_decide_eq_true (by kernel_rfl)
theorem k42 : PC 42 [CU.enc] (AA 0) := by
 have := c42 CU
 rwa [show Cc CU = 0 by kernel_rfl] at this
theorem k20 : PC 20 [A3 [Ca], AA 4] (.tup [GE.enc, .bool false]) := by
 have := c20 [Ca] (by simp) 4
 have e : B8 [Ca] 4 = (GE, false) := by kernel_rfl
 rw [e] at this; exact this
theorem k45 : PC 45 [A3 [Ca], CU.enc] (.tup [A3 [Ca, CU], AA 0]) := c45 [Ca] (by simp) (by simp) CU (by kernel_rfl) (by kernel_rfl) (by kernel_rfl)
theorem k36 {n0 t : Nat} {H : Hp} {n : Nat} (hn : n0 ≤ n) : BO Tryz.prog 36 [CT.enc, Ew.enc, .fn (.func 43) [] [.ptr t 0]] H n (fun v h' n' => v = .tup [] ∧ h' = H ∧ n' = n) := by
 have hr : CT.revs = [Ca] := rfl
 have := d36 (sc := Ew) (v43 n0 t) T2 10 (by omega) (fun h e => ⟨OD e, Fq e⟩) 2 CT () RS (.inl rfl) ?_ ?_ ?_ (H := H) hn (by rintro o y ⟨⟩)
 · rw [up0] at this; exact this
 · rw [hr, w2]; exact H6 _ _ (by simp)
 · rw [hr, w2, n3]; exact GM
 · rw [hr, w2, nP3]; exact of_decide_eq_true (by kernel_rfl)
theorem k49 {n0 : Nat} {H : Hp} {n : Nat} (hn : n0 ≤ n) : BO Tryz.prog 49 [.fn (.func 46) [] [.iptr [AA 4, .str ⟨#[65, 110]⟩, AA 0], .iptr [AA 3]], CT.enc, Ew.enc, A3 [Ca, CU]] H n (fun v h' n' => v = (⟨Ly 4, z0, [Ca, CU], GH⟩ : AI).enc ∧ h' = H ∧ n' = n) := by
 have := d49 (sc := Ew) (v46 n0 CU 3) T2 10 (by omega) (fun h e => ⟨⟨Fq e, OD e⟩, Fq e⟩) 2 CT [Ca, CU] () RS (.inl rfl) ?_ ?_ ?_ (H := H) hn (by rintro o y ⟨⟩)
 · rw [up0, show CU.id = 4 from rfl, w3, n4] at this; exact this
 · rw [show CU.id = 4 from rfl, w3]; exact H6 _ _ (by simp)
 · rw [show CU.id = 4 from rfl, w3, n4]; exact H6 _ _ (by simp)
 · rw [show CU.id = 4 from rfl, w3, nP4]; exact of_decide_eq_true (by kernel_rfl)
set_option maxHeartbeats 4000000 in
theorem k15 : PC 15 [CT.enc, AA 3, Ew.enc, CU.enc] (.tup [(⟨Ly 4, z0, [Ca, CU], GH⟩ : AI).enc, AA 0]) := by
 intro h n
 refine ED Tryz.func15 rfl fun ho => ?_
 have hHb := ho.lt
 obtain ⟨X, hX⟩ : ∃ X : SV, X = .iptr ([AG CT.flow] ++ CT.«end».flat ++ [A3 CT.revs] ++ CT.settings.flat) := ⟨_, rfl⟩
 obtain ⟨S, hS⟩ : ∃ S : SV, S = .iptr [AA Ew.id, AA Ew.a, AA Ew.b] := ⟨_, rfl⟩
 obtain ⟨V, hV⟩ : ∃ V : SV, V = .iptr [AA CU.id, .str CU.author, AA CU.time] := ⟨_, rfl⟩
 obtain ⟨G, hG⟩ : ∃ G : Hp, G = hset h (n + 4) (some (.cells FX)) := ⟨_, rfl⟩
 have hGb : ∀ j y, G j = some y → j < n + 5 := fun j y e => by
  rw [hG] at e; simp only [hset] at e; split at e
  · omega
  · have := hHb j y e; omega
 have hGk : ∀ j y, h j = some y → G j = some y := fun j y e => by rw [hG]; exact AL (fun j z e => by have := hHb j z e; omega) AB j y e
 have hGa : G (n + 4) = some (.cells FX) := by rw [hG, AC]
 refine Bn 1 [(4, X), (5, .iptr [AA 3]), (6, S), (7, V), (8, .ptr (n + 4) 0)] G (fun m => n + 5 ≤ m) ?_ (fun m hm => ?_)
 · rw [hX, hS, hV, hG]
   simp [go_sem, BG.enc, AI.enc, AF.flat, AM.flat, BF.enc, Fz.same, Nat.add_assoc, FX]
   refine ⟨⟨Ac (by simp [hset]; exact ho.none (by omega)) (by simp [hset]), Ac (by simp [hset]; exact ho.none (by omega)) (by simp [hset]), Ac (by simp [hset]; exact ho.none (by omega)) (by simp [hset]), Ac (by simp [hset]; exact ho.none (by omega)) (by simp [hset])⟩, fun j y => ?_⟩
   have := hHb j y; simp only [hset]; grind
 have hcl : ∀ E : AI, closed n (.tup [E.enc, AA 0]) = true := fun E => by simp [AI.enc, AF.flat, AM.flat, closed, closedL, AE.E.closedL, FH.E.closedL, CF.E.closedL, BD.E.closedL, BF.E.closedL, A6.E.closedL, GY.E.closedL, Aw.E.closedL, GV.E.closedL]
 refine Bn 0 [(4, X), (5, .iptr [AA 3]), (6, S), (7, V), (8, .ptr (n + 4) 0), (10, AA 2), (11, AA 2), (12, AA 0)] G (fun m => n + 5 ≤ m) ?_ (fun m hm => ?_)
 · rw [hX, hS]
   simp [go_sem, AF.flat, AM.flat]
   refine PC.use (by simpa [BG.enc, AI.enc, AF.flat, AM.flat] using Sr) ?_
   simp [go_sem, Fz.same, hm]
 refine B5 0 [(4, X), (5, .iptr [AA 3]), (6, S), (7, V), (8, .ptr (n + 4) 0), (10, AA 2), (11, AA 2)] G (fun m => n + 5 ≤ m) (AH ?_) (fun m hm => ?_)
 · simp [go_sem, Fz.same, hm]
 refine B5 0 [(4, X), (5, .iptr [AA 3]), (6, S), (7, V), (8, .ptr (n + 4) 0), (10, AA 2), (11, AA 2)] G (fun m => n + 5 ≤ m) (AH ?_) (fun m hm => ?_)
 · rw [hV]
   simp [go_sem]
   refine PC.use (by simpa [BF.enc] using k42) ?_
   simp [go_sem, Fz.same, hm]
 refine B5 0 [(4, X), (5, .iptr [AA 3]), (6, S), (7, V), (8, .ptr (n + 4) 0), (10, AA 2), (11, AA 2)] G (fun m => n + 5 ≤ m) (AH ?_) (fun m hm => ?_)
 · rw [hX, hV]
   simp [go_sem, AF.flat, AM.flat]
   refine PC.use (by simpa [CU, CT] using k20) ?_
   simp [go_sem, Fz.same, BF.enc, AC, Aq]
   exact ⟨by omega, AL (fun j z e => by have := hGb j z e; omega) AB⟩
 refine B5 0 [(4, X), (5, .iptr [AA 3]), (6, S), (7, V), (8, .ptr (n + 4) 0)] G (fun m => n + 5 ≤ m) (AH ?_) (fun m hm => ?_)
 · rw [hX]
   simp [go_sem, AF.flat, AM.flat, Fz.same, hm, CT]
 refine BM 0 (α := Nat) (fun k => [(4, X), (5, .iptr [AA 3]), (6, S), (7, V), (8, .ptr (n + 4) 0), (16, .ptr (k + 1) 0)]) (fun k => hset (hset G k (some (.map []))) (k + 1) (some (.cells [.map k]))) (fun k m => n + 5 ≤ k ∧ k + 1 < m) ?_ (fun k m hm => ?_)
 · simp [go_sem, Fz.same, Aq, AC]
   exact ⟨m, ⟨by omega, by omega⟩, rfl, AB⟩
 obtain ⟨hk1, hk2⟩ := hm
 refine Bn 0 [(4, X), (5, .iptr [AA 3]), (6, S), (7, V), (8, .ptr (n + 4) 0), (16, .ptr (k + 1) 0)] (hset (hset G k (some (.map []))) (k + 1) (some (.cells [.map k]))) (fun m => k + 1 < m) ?_ (fun m hm => ?_)
 · rw [hX, hS]
   simp [go_sem, AF.flat, AM.flat]
   refine SC.use (by simpa [BG.enc, AI.enc, AF.flat, AM.flat] using k36 (n0 := 0) (Nat.zero_le _)) ?_
   rintro v H' n' ⟨rfl, rfl, rfl⟩
   simp [go_sem, Fz.same, hk2]
 refine B5 0 [(4, X), (5, .iptr [AA 3]), (6, S), (7, V), (8, .ptr (n + 4) 0)] G (fun m => n + 5 ≤ m) (AH ?_) (fun m hm => ?_)
 · simp [go_sem, AC]
   refine Jz (m := k) (es := []) rfl (by simp [go_sem]) (by simp [go_sem]) (by simp [hset]) ?_
   simp [go_sem]
   refine An 0 (α := Unit) (fun _ => [(69, .ptr m 0), (4, X), (5, .iptr [AA 3]), (6, S), (7, V), (8, .ptr (n + 4) 0)]) (fun _ => hset G m (some (.iter [] none))) (fun _ m2 => m < m2) (fun _ => 0) () (Nat.lt_succ_self m) ?_ ?_ ?_
   · simp [Ai, Fz.same]
   · intro o y e
     simp only [hset] at e ⊢
     by_cases e1 : o = m
     · rw [if_pos e1] at e ⊢; exact e
     · rw [if_neg e1] at e ⊢
       have := hGb o y e
       rw [if_neg (by omega), if_neg (by omega), if_neg (by omega)]; exact e
   rintro _ m2 hm2
   simp [go_sem]
   refine Lg (q := m) (left := []) (last := none) rfl (by simp [go_sem]) (AC _ _ _) (fun i hi => absurd hi (by simp)) fun _ => ?_
   simp [go_sem, Fz.same]
   exact ⟨by omega, AL (fun j z e => by have := hGb j z e; omega) AB⟩
 refine Bn 0 [(4, X), (5, .iptr [AA 3]), (6, S), (7, V), (8, .ptr (n + 4) 0), (19, A3 [Ca, CU]), (12, AA 0)] G (fun m => n + 5 ≤ m) ?_ (fun m hm => ?_)
 · rw [hX, hV]
   simp [go_sem, AF.flat, AM.flat]
   refine PC.use (by simpa [BF.enc, CT] using k45) ?_
   simp [go_sem, Fz.same, hm]
 refine B5 0 [(4, X), (5, .iptr [AA 3]), (6, S), (7, V), (8, .ptr (n + 4) 0), (19, A3 [Ca, CU])] G (fun m => n + 5 ≤ m) (AH ?_) (fun m hm => ?_)
 · simp [go_sem, Fz.same, hm]
 refine Bn 0 [(4, X), (6, S), (8, .ptr (n + 4) 0), (19, A3 [Ca, CU]), (20, .fn (.func 46) [] [V, .iptr [AA 3]])] G (fun m => n + 5 ≤ m) ?_ (fun m hm => ?_)
 · simp [go_sem, Fz.same, hm]
 refine AH ?_
 rw [hX, hS, hV]
 simp [go_sem, AF.flat, AM.flat]
 refine SC.use (by simpa [BG.enc, AI.enc, AF.flat, AM.flat, CU] using k49 (n0 := 0) (Nat.zero_le _)) ?_
 rintro v H' n' ⟨rfl, rfl, rfl⟩
 simp [go_sem, hGa, FX, AI.enc, AF.flat, AM.flat, AC]
 exact Av ho (AL (fun j z e => by have := hHb j z e; omega) hGk) rfl (hcl ⟨Ly 4, z0, [Ca, CU], GH⟩)
theorem AI.cl (n : Nat) (E : AI) : closed n E.enc = true := by simp [AI.enc, AF.flat, AM.flat, closed, closedL, AE.E.closedL, FH.E.closedL, CF.E.closedL, BD.E.closedL, BF.E.closedL, A6.E.closedL, GY.E.closedL, Aw.E.closedL, GV.E.closedL]
theorem k32 : PC 32 [] CT.enc := by
 intro h n
 refine gq Tryz.func32 rfl fun ho => ?_
 have q1 : n ≠ n + 1 := by omega
 have q2 : n ≠ n + 1 + 1 := by omega
 have q3 : n + 1 ≠ n := by omega
 have q4 : n + 1 + 1 ≠ n := by omega
 have q5 : n + 1 ≠ n + 1 + 1 := by omega
 simp [go_sem, AC, AD, q2]
 refine Dp 3 ho (fun o y e => ?_) ?_ (AI.cl n CT)
 · have := (ho o y e).1
   rw [AD _ _ (by omega), AD _ _ (by omega), AD _ _ (by omega), AD _ _ (by omega)]; exact e
 · have hn1 : h (n + 1) = none := ho.none (by omega)
   have hn2 : h (n + 1 + 1) = none := ho.none (by omega)
   refine .inr ⟨.inr ⟨hn1, by simp, rfl, rfl, _, _, by rw [AD _ _ q3, AD _ _ q5, AC], rfl, ?_, ?_⟩, ?_, Fz.same, Fz.same, ?_, ?_, .inr ⟨hn2, by simp, rfl, rfl, _, _, by rw [AD _ _ q4, AC], rfl, ?_, ?_⟩, ?_, ?_, ?_, ?_, trivial⟩
   · exact AE.E.size _
   · exact ⟨Fz.same, Fz.same, Fz.same, Fz.same, Ba (by simp), Fz.same, Fz.same, Ba (by simp), Ba (by simp), Ba (by simp), Ba (by simp), Fz.same, Fz.same, Fz.same, Fz.same, Ba (by simp), Fz.same, Fz.same, Ba (by simp), Ba (by simp), Ba (by simp), Ba (by simp), trivial⟩
   · exact Ba (by simp)
   · exact Ba (by simp)
   · exact Ba (by simp)
   · exact BF.E.size _
   · exact ⟨Fz.same, Fz.same, Fz.same, trivial⟩
   · exact Ba (by simp)
   · exact Ba (by simp)
   · exact Ba (by simp)
   · exact Ba (by simp)
set_option maxHeartbeats 2000000 in
theorem k11 : PC 11 [] (.bool true) := by
 intro h n
 refine ED Tryz.func11 rfl fun ho => ?_
 have hHb := ho.lt
 obtain ⟨A, hA⟩ : ∃ A : SV, A = .imm 11 ((Ly 4).map AE.enc) false := ⟨_, rfl⟩
 obtain ⟨R, hR⟩ : ∃ R : SV, R = A3 [Ca, CU] := ⟨_, rfl⟩
 refine Ae 0 [] h n ?_ (fun m hm => ?_)
 · simp [go_sem]
 refine Ae 1 [(1, .iptr [A, Ah [], AA 0, AA 0, Ao [], AV [], R, AT [], Dc [], BQ [], Ey []]), (2, AA 0)] h n ?_ (fun m hm => ?_)
 · simp [go_sem]
   refine PC.use k32 ?_
   simp [go_sem]
   have e : (⟨Ly 4, z0, [Ca, CU], GH⟩ : AI).enc = .agg [A, Ah [], AA 0, AA 0, Ao [], AV [], R, AT [], Dc [], BQ [], Ey []] := by rw [hA, hR]; rfl
   have k := k15
   rw [e] at k
   refine PC.use (v := .tup [.agg [A, Ah [], AA 0, AA 0, Ao [], AV [], R, AT [], Dc [], BQ [], Ey []], AA 0]) k ?_
   simp [go_sem, Fz.same, AC, Aq]
   exact ⟨by omega, Ac (Af (fun j y e => by have := hHb j y e; omega) (Nat.le_refl m)) (AC _ _ _), AL (fun j z e => by have := hHb j z e; omega) AB⟩
 obtain ⟨e0, he0⟩ : ∃ e0 : SV, e0 = (LD 3 ⟨#[97]⟩).enc := ⟨_, rfl⟩
 obtain ⟨e3, he3⟩ : ∃ e3 : SV, e3 = NK.enc := ⟨_, rfl⟩
 obtain ⟨e1, he1⟩ : ∃ e1 : SV, e1 = .agg [AA 1, AA 0, AA 0, .str ⟨#[98, 99]⟩, Ah [], AA 4, AA 0, Ao [], AV [], AG [], Ay []] := ⟨_, rfl⟩
 obtain ⟨e2, he2⟩ : ∃ e2 : SV, e2 = .agg [AA 1, AA 0, AA 0, .str ⟨#[100]⟩, Ah [], AA 3, AA 0, Ao [], AV [], AG [], Ay []] := ⟨_, rfl⟩
 have hA2 : A = .imm 11 [e0, e1, e2, e3] false := by rw [hA, he0, he1, he2, he3]; rfl
 obtain ⟨r0, hr0⟩ : ∃ r0 : SV, r0 = Ca.enc := ⟨_, rfl⟩
 obtain ⟨r1, hr1⟩ : ∃ r1 : SV, r1 = CU.enc := ⟨_, rfl⟩
 have hR2 : R = .imm 3 [r0, r1] false := by rw [hR, hr0, hr1]; rfl
 refine AH ?_
 rw [hA2, hR2, he1, he2]
 simp [go_sem]
 exact BC ho rfl rfl
section
variable {σ : Type}
end
def Dz (T : Int → Prop) : Nat → List AE → Prop
 | 0, _ => True
 | N + 1, l => ∀ x ∈ l, (x.kind ≠ 7 → x.rows = []) ∧ (x.kind = 6 → T x.id) ∧ Dz T N x.flow ∧ ∀ r ∈ x.rows, ∀ c ∈ r.cells, T c.id ∧ Dz T N c.flow
def LH (T : Int → Prop) (N : Nat) (x : AE) : Prop := (x.kind ≠ 7 → x.rows = []) ∧ (x.kind = 6 → T x.id) ∧ Dz T N x.flow ∧ ∀ r ∈ x.rows, ∀ c ∈ r.cells, T c.id ∧ Dz T N c.flow
theorem RV {T : Int → Prop} {N : Nat} {l : List AE} : Dz T (N + 1) l ↔ ∀ x ∈ l, LH T N x := Iff.rfl
theorem OK (T : Int → Prop) (N : Nat) : Dz T N [] := by cases N <;> simp [Dz]
theorem LI {T : Int → Prop} {N : Nat} (x : AE) (t : ByteArray) (H : LH T N x) : LH T N (.mk x.kind x.code x.id t x.head x.flow x.rows) := by cases x; exact H
theorem FJ {T : Int → Prop} : ∀ {N : Nat} {l : List AE}, Dz T N l → Dz T N (AU l)
 | 0, _, _ => trivial
 | N + 1, l, H => by
  rw [RV] at H ⊢
  unfold AU Cz
  rw [AE.nrmL_eq]
  refine Ft (p := LH T N) LI _ _ (fun y hy => by cases hy) fun y hy => ?_
  obtain ⟨x, hx, rfl⟩ := List.mem_map.1 hy
  obtain ⟨a, b, c, d⟩ := H x hx
  obtain ⟨e0, _, e00, _, e1, e2, e3⟩ := AE.nrm_fields x
  refine ⟨fun h => ?_, fun h => ?_, by rw [e2]; exact FJ c, ?_⟩
  · rw [e0] at h; rw [e3, a h]; rfl
  · rw [e0] at h; rw [e00]; exact b h
  · rw [e3]; intro r hr
    obtain ⟨r0, h0, rfl⟩ := List.mem_map.1 (List.mem_filter.1 hr).1
    have er : (AS.nrm r0).cells = r0.cells.map AK.nrm := by cases r0; rw [AS.nrm, AK.nrmL_eq]; rfl
    rw [er]; intro c hc
    obtain ⟨c0, h1, rfl⟩ := List.mem_map.1 hc
    obtain ⟨u1, u2⟩ := d r0 h0 c0 h1
    have ec : (AK.nrm c0).id = c0.id ∧ (AK.nrm c0).flow = AU c0.flow := by cases c0; rw [AK.nrm]; exact ⟨rfl, rfl⟩
    exact ⟨by rw [ec.1]; exact u1, by rw [ec.2]; exact FJ u2⟩
theorem KG {T : Int → Prop} {N : Nat} {l : List AE} (cu : Int) (H : Dz T (N + 1) l) : Dz T (N + 1) (Am l cu).1 ∧ Dz T (N + 1) (Am l cu).2 :=
 Ga (p := LH T N) LI l cu H _ (Nat.le_refl _)
theorem DH {T : Int → Prop} {N : Nat} {l : List AE} (a b : Int) (H : Dz T (N + 1) l) : Dz T (N + 1) (AR l a b).1 := by
 unfold AR
 split
 · exact FJ (KG a (KG b H).1).2
 · exact OK T _
section
variable {σ : Type}
theorem Gi {m2 : List Int} {T : Int → Prop} : ∀ {N : Nat} {l : List AE}, Oy m2 N l → (∀ i ∈ FK N l, T i) → Dz T N l
 | 0, _, _, _ => trivial
 | N + 1, l, h, hT => fun x hx => by
  obtain ⟨⟨f6, f7, _⟩, _, hf, _, hr⟩ := h x hx
  have hI : ∀ i ∈ FV N x, T i := fun i hi => hT i (by rw [Jn]; exact List.mem_flatMap.2 ⟨x, hx, hi⟩)
  refine ⟨f7, fun k6 => hI _ (by simp [FV, k6]), ?_, fun r hr1 c hc => ?_⟩
  · by_cases k6 : x.kind = 6
    · exact Gi hf fun i hi => hI i (by simp [FV, k6, hi])
    · rw [f6 k6]; exact OK T N
  · by_cases k7 : x.kind = 7
    · have hc2 : ∀ i, i = c.id ∨ i ∈ FK N c.flow → T i := fun i hi => hI i (by
       simp only [FV, k7, show ¬ (7 : Int) = 6 by decide, if_false, if_true]
       refine List.mem_cons_of_mem _ (List.mem_flatMap.2 ⟨r, hr1, List.mem_flatMap.2 ⟨c, hc, List.mem_cons.2 hi⟩⟩))
      exact ⟨hc2 _ (.inl rfl), Gi ((hr r hr1).2 c hc).2 fun i hi => hc2 i (.inr hi)⟩
    · rw [f7 k7] at hr1; cases hr1
theorem Gg {α β : Type} {f : α → List β} {l : List α} (h : (l.flatMap f).Nodup) {x : α} (hx : x ∈ l) : (f x).Nodup := by
 induction l with
 | nil => cases hx
 | cons a l ih =>
  rw [List.flatMap_cons, List.nodup_append] at h
  rcases List.mem_cons.1 hx with rfl | hx
  · exact h.1
  · exact ih h.2.1 hx
theorem Jq (p : BT) {l : List AE} {x : AE} (hx : x ∈ l) {f : Fl} (hf : f ∈ AE.fl p x) : f ∈ AE.flL p l := by
 induction l with
 | nil => cases hx
 | cons a l ih =>
  rw [AE.flL, List.mem_append]
  rcases List.mem_cons.1 hx with rfl | hx
  · exact .inl hf
  · exact .inr (ih hx)
theorem NS (p : BT) {l : List AS} {x : AS} (hx : x ∈ l) {f : Fl} (hf : f ∈ AS.fl p x) : f ∈ AS.flL p l := by
 induction l with
 | nil => cases hx
 | cons a l ih =>
  rw [AS.flL, List.mem_append]
  rcases List.mem_cons.1 hx with rfl | hx
  · exact .inl hf
  · exact .inr (ih hx)
theorem NR (p : BT) {l : List AK} {x : AK} (hx : x ∈ l) {f : Fl} (hf : f ∈ AK.fl p x) : f ∈ AK.flL p l := by
 induction l with
 | nil => cases hx
 | cons a l ih =>
  rw [AK.flL, List.mem_append]
  rcases List.mem_cons.1 hx with rfl | hx
  · exact .inl hf
  · exact .inr (ih hx)
end
theorem NN {α β γ : Type} {f : α → List β} {g : β → γ} {k : α → List γ} : ∀ {l : List α}, (∀ x ∈ l, ((f x).map g).Sublist (k x)) → ((l.flatMap f).map g).Sublist (l.flatMap k)
 | [], _ => by simp
 | a :: l, h => by
  rw [List.flatMap_cons, List.flatMap_cons, List.map_append]
  exact (h a (by simp)).append (NN fun x hx => h x (by simp [hx]))
theorem NM (p : BT) : ∀ l : List AE, AE.flL p l = l.flatMap (AE.fl p)
 | [] => by rw [AE.flL]; rfl
 | x :: l => by rw [AE.flL, NM p l]; rfl
theorem Kn (p : BT) : ∀ l : List AS, AS.flL p l = l.flatMap (AS.fl p)
 | [] => by rw [AS.flL]; rfl
 | x :: l => by rw [AS.flL, Kn p l]; rfl
theorem Km (p : BT) : ∀ l : List AK, AK.flL p l = l.flatMap (AK.fl p)
 | [] => by rw [AK.flL]; rfl
 | x :: l => by rw [AK.flL, Km p l]; rfl
theorem PN {hp : AF → Prop} {K : Nat} : ∀ {N : Nat} {l : List AE} (p : BT), EZ hp K N l → ((AE.flL p l).map Fl.id).Sublist (FK N l)
 | N + 1, l, p, H => by
  rw [NM, Jn]
  refine NN fun x hx => ?_
  obtain ⟨_, a, _, b⟩ := H.2.2 x hx
  cases x with
  | mk k c i t h f r =>
   have hI : FV N (.mk k c i t h f r) = if k = 6 then i :: FK N f else if k = 7 then i :: r.flatMap (KX N) else [] := rfl
   have a' : EZ hp K N f := a
   have b' : ∀ q ∈ r, hp q.head ∧ q.cells.length ≤ K ∧ ∀ c ∈ q.cells, hp c.head ∧ EZ hp K N c.flow := b
   rw [AE.fl, hI]
   by_cases k6 : k = 6
   · rw [if_pos k6, if_pos k6]
     exact (PN p.inNote a').cons_cons _
   · rw [if_neg k6, if_neg k6]
     by_cases k7 : k = 7
     · rw [if_pos k7, if_pos k7]
       refine List.Sublist.cons _ ?_
       rw [Kn]
       refine NN fun r hr => ?_
       cases r with
       | mk hd cs =>
        rw [AS.fl, Km]
        refine NN (k := fun c : AK => c.id :: FK N c.flow) fun c hc => ?_
        have := ((b' _ hr).2.2 c hc).2
        cases c
        rw [AK.fl]
        exact (PN _ this).cons_cons _
     · rw [if_neg k7, if_neg k7]; exact List.nil_sublist _
theorem Mj {α β : Type} {g : α → β} : ∀ {l : List α}, (l.map g).Nodup → ∀ x ∈ l, ∀ y ∈ l, g x = g y → x = y
 | a :: l, h, x, hx, y, hy, e => by
  rw [List.map_cons, List.nodup_cons] at h
  rcases List.mem_cons.1 hx with h1 | h1
  · rcases List.mem_cons.1 hy with h2 | h2
    · rw [h1, h2]
    · exact absurd (by rw [← h1, e]; exact List.mem_map_of_mem h2) h.1
  · rcases List.mem_cons.1 hy with h2 | h2
    · exact absurd (by rw [← h2, ← e]; exact List.mem_map_of_mem h1) h.1
    · exact Mj h.2 x h1 y h2 e
theorem Mo {id : Int} : ∀ {l : List BF}, (GD id l).2 = true → ∃ r ∈ l, r.id = id
 | [], h => by simp [GD] at h
 | r :: l, h => by
  rw [GD] at h
  split at h
  · exact ⟨r, by simp, by assumption⟩
  · obtain ⟨q, h1, h2⟩ := Mo h
    exact ⟨q, by simp [h1], h2⟩
theorem Qd {l : List BF} {id : Int} (h : (B8 l id).2 = true) : ∃ r ∈ l, r.id = id := by
 unfold B8 at h
 split at h
 · split at h
   · rename_i h1 h2
     have hlt := K1 _ _ h2
     simp only [A7, decide_eq_true_eq] at h2 hlt
     obtain ⟨k, hk⟩ : ∃ k, k = E6 (Hq l id) 0 l.length := ⟨_, rfl⟩
     rw [← hk] at h2 hlt
     refine ⟨_, List.getElem_mem hlt, ?_⟩
     have := h2.2
     unfold Hq at this
     rw [List.getElem?_eq_getElem hlt] at this
     simp only [HU] at this
     split at this
     · omega
     · split at this
       · omega
       · omega
   · simp at h
 · exact Mo h
theorem Jd {F : Nat → Int} {n : Nat} (h : Ev F n = 0) : ∀ k, k < n → F k = 0 := fun k hk => by
 induction n with
 | zero => omega
 | succ n ih =>
  rw [Ev] at h
  split at h
  · rename_i h0
    by_cases e : k = n
    · rw [e]; exact h
    · exact ih h0 (by omega)
  · omega
theorem OG {e : Int} {l : List Int} (h : Bo (e :: l) = 0) : e = 0 := by
 rw [Bo] at h; split at h <;> assumption
theorem OY {l : List BF} (h : DT l = 0) : ∀ r ∈ l, 1 ≤ r.id := fun r hr => by
 unfold DT at h
 have hl : ¬ (256 : Int) < l.length := fun g => by simp [Bo, g] at h
 have h2 : Ev (G6 l) (min l.length 256) = 0 := by
  have h9 := h
  simp [Bo, hl] at h9
  exact Classical.byContradiction fun g => g (h9 g)
 obtain ⟨i, hi, rfl⟩ := List.getElem_of_mem hr
 have h3 := Jd h2 i (by omega)
 unfold G6 at h3
 rw [List.getElem?_eq_getElem hi] at h3
 dsimp only at h3
 have h4 := OG h3
 unfold GO at h4
 simp only [List.getElem?_eq_getElem hi] at h4
 split at h4
 · omega
 · rename_i g; simp only [Classical.not_not] at g; exact g.1
end Go.Proofs.YtgakninlhfkkmaaGreat.Sh
