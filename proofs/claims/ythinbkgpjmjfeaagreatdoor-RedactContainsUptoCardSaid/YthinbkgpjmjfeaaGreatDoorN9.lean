/- A part of the proof (part 9 of 13). -/
import Derived.Test.YthinbkgpjmjfeaaGreatDoorN8
import Derived.Shelf.SlGeneric
import Derived.Shelf.LaysM
import Derived.Shelf.Strings.Shaped
import Derived.Test.YthinbkgpjmjfeaaGreatDoorProg
namespace Go.Proofs
open Go.Shelf
def Tryz.sIdx_ren : Go.Shelf.Ren := ⟨fun | 219 => 160 | 217 => 208 | 225 => 209 | 224 => 210 | 267 => 211 | 266 => 254 | 314 => 255 | n => n, fun | 9 => 9 | 3 => 3 | 4 => 4 | 5 => 5 | 46 => 236 | 146 => 329 | 51 => 328 | n => n, fun | 1 => 0 | n => n⟩
theorem Tryz.sIdx : Go.Proofs.LaysM.n219 Tryz.prog Tryz.sIdx_ren := {
  mixed := by kernel_rfl
  f217 := Tryz.func208.trans (congrArg some (by kernel_rfl))
  f219 := Tryz.func160.trans (congrArg some (by kernel_rfl))
  f224 := Tryz.func210.trans (congrArg some (by kernel_rfl))
  f225 := Tryz.func209.trans (congrArg some (by kernel_rfl))
  f266 := Tryz.func254.trans (congrArg some (by kernel_rfl))
  f267 := Tryz.func211.trans (congrArg some (by kernel_rfl))
  f314 := Tryz.func255.trans (congrArg some (by kernel_rfl))
  t3 := Tryz.underlying3
  a3 := Tryz.isAgg3
  z3 := Tryz.sizeOf3
  v3 := Tryz.zeroValue3
  t4 := Tryz.underlying4
  a4 := Tryz.isAgg4
  z4 := Tryz.sizeOf4
  v4 := Tryz.zeroValue4
  t5 := Tryz.underlying5
  a5 := Tryz.isAgg5
  z5 := Tryz.sizeOf5
  v5 := Tryz.zeroValue5
  t9 := Tryz.underlying9
  a9 := Tryz.isAgg9
  z9 := Tryz.sizeOf9
  v9 := Tryz.zeroValue9
  t46 := Tryz.underlying236
  a46 := Tryz.isAgg236
  z46 := Tryz.sizeOf236
  v46 := Tryz.zeroValue236
  t51 := Tryz.underlying328
  a51 := Tryz.isAgg328
  z51 := Tryz.sizeOf328
  v51 := Tryz.zeroValue328
  t146 := Tryz.underlying329
  a146 := Tryz.isAgg329
  z146 := Tryz.sizeOf329
  v146 := Tryz.zeroValue329
  g1 := by kernel_rfl
  i3 := by kernel_rfl
  i4 := by kernel_rfl
  i5 := by kernel_rfl
  i9 := by kernel_rfl
  i46 := by kernel_rfl
  i51 := by kernel_rfl
  i146 := by kernel_rfl
  m1 := by kernel_rfl
  s1_3 := fun w h => Go.Proofs.cell_of_shapedOpen_int (zero := #[.int .i64 0]) (t := 3) h (of_decide_eq_true (by kernel_rfl)) (by kernel_rfl) rfl (by kernel_rfl) (by kernel_rfl) Tryz.underlying3 }
end Go.Proofs
namespace Go.Proofs.YthinbkgpjmjfeaaGreatDoor.Sh
open Proofs
set_option maxRecDepth 10000
def MaxI (c : Cx) : Prop := (∃ m, c.w.cell? ⟨0, 0, none⟩ = some (.int .i64 m)) ∧ ¬ c.own 0
theorem MaxI.ext {c c' : Cx} (x : Ext c c') (h : MaxI c) : MaxI c' := by
  obtain ⟨⟨m, hm⟩, ho⟩ := h
  obtain ⟨ob, hb, _⟩ := cells_of_cell? hm
  obtain ⟨h1, h2⟩ := x.keep 0 (Array.getElem?_eq_some_iff.1 hb).1 ho
  refine ⟨⟨m, ?_⟩, h1⟩
  unfold World.cell? at *
  rw [h2]; exact hm
def EI : Env := ⟨none, false, 0, MaxI, MaxI.ext⟩
def GC (f : FuncId) (us : List SV) (v : SV) : Prop := ∀ (E : Env), (∀ c, E.inv c → MaxI c) → ∀ h n, SCallE E Tryz.prog f us h n (Is v h n)
theorem GC.of {f : FuncId} {us : List SV} {v : SV} (H : PC f us v) : GC f us v := fun _ _ h n => (H h n).lift
theorem GC.use {f : FuncId} {us : List SV} {v : SV} (H : GC f us v) {E : Env} (hI : ∀ c, E.inv c → MaxI c) {h : Hp} {n : Nat} {K : SV → Hp → Nat → Prop} (hk : K v h n) : SCallE E Tryz.prog f us h n K :=
  (H E hI h n).mono fun _ _ _ ⟨e1, e2, e3⟩ => by subst e1; subst e2; subst e3; exact hk
theorem GC.closed {f : FuncId} {us : List SV} {v : SV} (ha : ∀ a ∈ us, Sh.closed 0 a = true) (hv : plainS v = true) (H : SCallE EI Tryz.prog f us (fun _ => none) 0 (fun v' _ _ => v' = v)) : GC f us v := by
  refine fun E hI h n => ⟨H.1, fun c vs I R F A => ?_⟩
  have hs : ∀ o x, (fun _ => none : Hp) o = some x → h o = some x := fun _ _ e => by cases e
  have R0 : Rel (fun _ => none) (c.cut (fun _ => none) 0) := R.cut fun o x e => by cases e
  have A0 : All2 (V (c.cut (fun _ => none) 0)) us vs := All2.of_get A.length fun i a b h1 h2 => by
    obtain ⟨b', h3, h4⟩ := A.get h1
    rw [h2] at h3; cases h3
    exact V.cut R hs (ha a (List.mem_of_getElem? h1)) h4
  have hno : ∀ b, ¬ (c.cut (fun _ => none) 0).own b := fun b ⟨o, x, e, _⟩ => by cases e
  refine (H.2 (c.cut (fun _ => none) 0) vs ⟨(hI c I).1, hno 0⟩ R0 cut_fr A0).mono ?_
  rintro e w' ⟨u, v', h', n', c', he, rfl, rfl, hv', R', F', X0⟩
  have X : Ext c { c with w := c'.w } := ⟨fun _ _ e => e, X0.ext.size, fun b hb ho => ⟨ho, (X0.ext.keep b hb (hno b)).2⟩, X0.ext.room, X0.ext.os, X0.ext.out, X0.ext.td⟩
  refine ⟨u, v', h, n, { c with w := c'.w }, he, ⟨rfl, rfl, rfl⟩, rfl, hv'.plain hv, ⟨fun o x ho => ?_, R.inj2, R.own2⟩, F, ⟨X, Nat.le_refl _, fun _ _ => rfl⟩⟩
  refine (R.obj o x ho).mono X fun b hb => ?_
  exact (X0.ext.keep b ((R.obj o x ho).hold_lt hb) (hno b)).2
theorem GC_run {orc : Orc} (hO : OrcOk Tryz.prog MaxI orc) {f : FuncId} {us : List SV} {b : Bool} (k : Nat) (ha : closedL 0 us = true) (H : resB (callE Tryz.prog orc (evl Tryz.prog orc k) [] f us .nil 0) = some b) : GC f us (.bool b) := by
  refine GC.closed (closedL_iff.1 ha) rfl ?_
  unfold resB at H
  split at H <;> cases H
  rename_i h' n' hc
  exact callE_ok (Rs := fun _ _ _ => default) (E := EI) hO (run_ok hO follows k) hc (fun _ i => i) trivial (K := fun v' _ _ => v' = .bool b) rfl
theorem ok160 : okFn Tryz.prog 160 = true := by unfold okFn; rw [Tryz.func160]; kernel_rfl
theorem g160 (s sub : ByteArray) (hs : s.size < 4294967281) : GC 160 [.str s, .str sub] (.int .i64 (Lib.index s.data.toList sub.data.toList)) := by
  refine fun E hI h n => ⟨ok160, fun c vs I R F A => ?_⟩
  obtain ⟨⟨m, hm⟩, _⟩ := hI c I
  match vs, A with
  | [a, b], A =>
    have ha := vstr A.1
    have hb := vstr A.2.1
    subst ha; subst hb
    refine (Any.stringslite_Index Tryz.sIdx.ton219 s sub m c.w hs hm : Calls Tryz.prog 160 #[.string s, .string sub] c.w _).mono ?_
    rintro e w' ⟨rfl, rfl⟩
    exact ⟨_, .int .i64 (Lib.index s.data.toList sub.data.toList), h, n, c, rfl, ⟨rfl, rfl, rfl⟩, rfl, by simp [V], R, F, Adv.refl n c⟩
  | [], A => exact A.elim
  | [_], A => exact A.2.elim
  | _ :: _ :: _ :: _, A => exact A.2.2.elim
theorem k93 (z : Nat) (f : Bool) : PC 93 [.imm z [] f] (.imm 0 [] true) := by
  intro h n
  refine go Tryz.func93 rfl (by kernel_rfl) (by kernel_rfl) (by simp [go_sem]) fun ho => ?_
  simp [go_sem]
  refine sem_sliceNil rfl (by kernel_rfl) rfl (fun e => ?_) ?_
  · simp [go_sem]; exact ret0 ho rfl rfl
  · simp [go_sem]
    refine sem_build0 (z := 0) rfl rfl (by kernel_rfl) ?_
    simp [go_sem]; exact ret0 ho rfl rfl
theorem k94 (z : Nat) (f : Bool) : PC 94 [.imm z [] f] (.imm 0 [] true) := by
  intro h n
  refine go Tryz.func94 rfl (by kernel_rfl) (by kernel_rfl) (by simp [go_sem]) fun ho => ?_
  simp [go_sem]
  refine sem_sliceNil rfl (by kernel_rfl) rfl (fun e => ?_) ?_
  · simp [go_sem]; exact ret0 ho rfl rfl
  · simp [go_sem]
    refine sem_build0 (z := 0) rfl rfl (by kernel_rfl) ?_
    simp [go_sem]; exact ret0 ho rfl rfl
theorem k95 (z : Nat) (f : Bool) : PC 95 [.imm z [] f] (.imm 0 [] true) := by
  intro h n
  refine go Tryz.func95 rfl (by kernel_rfl) (by kernel_rfl) (by simp [go_sem]) fun ho => ?_
  simp [go_sem]
  refine sem_sliceNil rfl (by kernel_rfl) rfl (fun e => ?_) ?_
  · simp [go_sem]; exact ret0 ho rfl rfl
  · simp [go_sem]
    refine sem_build0 (z := 0) rfl rfl (by kernel_rfl) ?_
    simp [go_sem]; exact ret0 ho rfl rfl
theorem k105 (z : Nat) (f : Bool) : PC 105 [.imm z [] f] (.imm 0 [] true) := by
  intro h n
  refine go Tryz.func105 rfl (by kernel_rfl) (by kernel_rfl) (by simp [go_sem]) fun ho => ?_
  simp [go_sem]
  refine sem_sliceNil rfl (by kernel_rfl) rfl (fun e => ?_) ?_
  · simp [go_sem]; exact ret0 ho rfl rfl
  · simp [go_sem]
    refine sem_build0 (z := 0) rfl rfl (by kernel_rfl) ?_
    simp [go_sem]; exact ret0 ho rfl rfl
theorem k217 (z : Nat) (f : Bool) : PC 217 [.imm z [] f] (.imm 0 [] true) := by
  intro h n
  refine go Tryz.func217 rfl (by kernel_rfl) (by kernel_rfl) (by simp [go_sem]) fun ho => ?_
  simp [go_sem]
  refine sem_sliceNil rfl (by kernel_rfl) rfl (fun e => ?_) ?_
  · simp [go_sem]; exact ret0 ho rfl rfl
  · simp [go_sem]
    refine sem_build0 (z := 0) rfl rfl (by kernel_rfl) ?_
    simp [go_sem]; exact ret0 ho rfl rfl
theorem k218 (z : Nat) (f : Bool) : PC 218 [.imm z [] f] (.imm 0 [] true) := by
  intro h n
  refine go Tryz.func218 rfl (by kernel_rfl) (by kernel_rfl) (by simp [go_sem]) fun ho => ?_
  simp [go_sem]
  refine sem_sliceNil rfl (by kernel_rfl) rfl (fun e => ?_) ?_
  · simp [go_sem]; exact ret0 ho rfl rfl
  · simp [go_sem]
    refine sem_build0 (z := 0) rfl rfl (by kernel_rfl) ?_
    simp [go_sem]; exact ret0 ho rfl rfl
theorem k219 (z : Nat) (f : Bool) : PC 219 [.imm z [] f] (.imm 0 [] true) := by
  intro h n
  refine go Tryz.func219 rfl (by kernel_rfl) (by kernel_rfl) (by simp [go_sem]) fun ho => ?_
  simp [go_sem]
  refine sem_sliceNil rfl (by kernel_rfl) rfl (fun e => ?_) ?_
  · simp [go_sem]; exact ret0 ho rfl rfl
  · simp [go_sem]
    refine sem_build0 (z := 0) rfl rfl (by kernel_rfl) ?_
    simp [go_sem]; exact ret0 ho rfl rfl
theorem k220 (z : Nat) (f : Bool) : PC 220 [.imm z [] f] (.imm 0 [] true) := by
  intro h n
  refine go Tryz.func220 rfl (by kernel_rfl) (by kernel_rfl) (by simp [go_sem]) fun ho => ?_
  simp [go_sem]
  refine sem_sliceNil rfl (by kernel_rfl) rfl (fun e => ?_) ?_
  · simp [go_sem]; exact ret0 ho rfl rfl
  · simp [go_sem]
    refine sem_build0 (z := 0) rfl rfl (by kernel_rfl) ?_
    simp [go_sem]; exact ret0 ho rfl rfl
theorem k221 (z : Nat) (f : Bool) : PC 221 [.imm z [] f] (.imm 0 [] true) := by
  intro h n
  refine go Tryz.func221 rfl (by kernel_rfl) (by kernel_rfl) (by simp [go_sem]) fun ho => ?_
  simp [go_sem]
  refine sem_sliceNil rfl (by kernel_rfl) rfl (fun e => ?_) ?_
  · simp [go_sem]; exact ret0 ho rfl rfl
  · simp [go_sem]
    refine sem_build0 (z := 0) rfl rfl (by kernel_rfl) ?_
    simp [go_sem]; exact ret0 ho rfl rfl
theorem k172 (z1 z2 z3 z4 : Nat) (f1 f2 f3 f4 : Bool) : PC 172 [.agg [.imm z1 [] f1, .imm z2 [] f2, .imm z3 [] f3, .imm z4 [] f4]] (.agg [.imm 6 [] false, .imm 2 [] false, .imm 6 [] false, .imm 2 [] false]) :=
  PCall.wk 2 (c144 ⟨[], [], [], []⟩ (by simp) (by simp) (by simp) (by simp) (by simp) (by simp)) ⟨.inr ⟨.inr ⟨by simp, .inl rfl, trivial, by simp⟩, .inr ⟨by simp, .inl rfl, trivial, by simp⟩, .inr ⟨by simp, .inl rfl, trivial, by simp⟩, .inr ⟨by simp, .inl rfl, trivial, by simp⟩, trivial⟩, trivial⟩
noncomputable section
def cloneB (g : Nat) : Bool := [93, 94, 95, 105, 217, 218, 219, 220, 221].contains g
def look0 (ev : Operand → SV) (h : TB EO) (o : Oper) : Option SV :=
  match o.op with
  | .lookup t m x false => bif Nat.beq t 138 then match ev m, ev x with
    | .map q, .agg [.int .i64 a, .int .i64 b] => match h.get q with
      | some (.obj (.map es)) => match findA Tryz.prog 142 [.int .i64 a, .int .i64 b] es 0 with
        | some (some p) => some p.2
        | some none => some (tzero Tryz.prog 3)
        | none => none
      | _ => none
    | _, _ => none
    else none
  | _ => none
def call0 (g : Nat) (us : List SV) : Option SV := match us with
  | [.imm _ [] _] => bif cloneB g then some (.imm 0 [] true) else none
  | [.agg [.imm _ [] _, .imm _ [] _, .imm _ [] _, .imm _ [] _]] => bif Nat.beq g 172 then some (.agg [.imm 6 [] false, .imm 2 [] false, .imm 6 [] false, .imm 2 [] false]) else none
  | [.str a, .str b] => bif Nat.beq g 160 && Nat.blt a.size 4294967281 then some (.int .i64 (Lib.index a.data.toList b.data.toList)) else none
  | _ => none
def eff0 (g : Nat) (us : List SV) (h : TB EO) (n : Nat) : Option (SV × TB EO × Nat) := match us with
  | [.ptr q 0] => bif Nat.beq g 123 then match h.get q with
    | some (.obj (.cells [p, buf] (some t))) => bif Nat.beq t 121 && (eqS p .nilp || eqS p (.ptr q 0)) then some (.tup [], hsetE h q (some (.obj (.cells [.ptr q 0, buf] (some 121)))), n) else none
    | _ => none
    else none
  | _ => none
def orc0 : Orc := ⟨call0, look0, eff0⟩
end
theorem orc0_ok : OrcOk Tryz.prog MaxI orc0 := by
  refine ⟨fun g us v H => ?_, fun g us h n v h' n' H => ?_, fun ev evs h o v H A => ?_⟩
  · have key : GC g us v := by
      show GC g us v
      change call0 g us = some v at H
      unfold call0 at H
      split at H
      · skip
        cases hc : cloneB g <;> rw [hc] at H <;> simp only [cond_true, cond_false] at H <;> cases H
        simp only [cloneB, List.contains_eq_mem, List.mem_cons, List.not_mem_nil, or_false, decide_eq_true_eq] at hc
        rcases hc with rfl | rfl | rfl | rfl | rfl | rfl | rfl | rfl | rfl
        · exact GC.of (k93 _ _)
        · exact GC.of (k94 _ _)
        · exact GC.of (k95 _ _)
        · exact GC.of (k105 _ _)
        · exact GC.of (k217 _ _)
        · exact GC.of (k218 _ _)
        · exact GC.of (k219 _ _)
        · exact GC.of (k220 _ _)
        · exact GC.of (k221 _ _)
      · cases hc : Nat.beq g 172 <;> rw [hc] at H <;> simp only [cond_true, cond_false] at H <;> cases H
        rw [Nat.eq_of_beq_eq_true hc]
        exact GC.of (k172 _ _ _ _ _ _ _ _)
      · rename_i a b
        cases hc : Nat.beq g 160 && Nat.blt a.size 4294967281 <;> rw [hc] at H <;> simp only [cond_true, cond_false] at H <;> cases H
        simp only [Bool.and_eq_true] at hc
        rw [Nat.eq_of_beq_eq_true hc.1]
        exact g160 a b (by simpa using hc.2)
      · cases H
    exact fun E hI h n K hK => key.use hI hK
  · change eff0 g us h n = some (v, h', n') at H
    intro E hI Rs K hK
    unfold eff0 at H
    split at H <;> try cases H
    rename_i q
    cases hc : Nat.beq g 123 <;> rw [hc] at H <;> simp only [cond_true, cond_false] at H
    · cases H
    rw [Nat.eq_of_beq_eq_true hc]
    split at H <;> try cases H
    rename_i p buf t hg
    cases hd : Nat.beq t 121 && (eqS p .nilp || eqS p (.ptr q 0)) <;> rw [hd] at H <;> simp only [cond_true, cond_false] at H <;> cases H
    simp only [Bool.and_eq_true, Bool.or_eq_true] at hd
    have ht := Nat.eq_of_beq_eq_true hd.1
    subst ht
    have hp : p = .nilp ∨ p = .ptr q 0 := hd.2.imp eqS_ok eqS_ok
    refine (SCallE.lift (d335b (n := n) (toHp_obj (Rs := Rs) hg) hp)).mono ?_
    rintro v h2 n2 ⟨rfl, rfl, rfl⟩
    rw [toHp_set] at hK
    exact hK
  · change look0 ev h o = some v at H
    unfold look0 at H
    split at H <;> try cases H
    rename_i t m x ho
    refine ⟨by rw [ho]; simp, fun E Rs n K hK => ?_⟩
    cases hc : Nat.beq t 138 <;> rw [hc] at H <;> simp only [cond_true, cond_false] at H
    · cases H
    have ht := Nat.eq_of_beq_eq_true hc
    subst ht
    have hm := A m (by rw [ho]; simp [Op.operands])
    have hx := A x (by rw [ho]; simp [Op.operands])
    split at H <;> try cases H
    rename_i q a b em ex
    split at H <;> try cases H
    rename_i es hg
    split at H <;> cases H
    · rename_i p hf
      exact sem_lookup138 ho (hm.trans em) (toHp_obj hg) (hx.trans ex) (r := some p) rfl hf hK
    · rename_i hf
      exact sem_lookup138 ho (hm.trans em) (toHp_obj hg) (hx.trans ex) (r := none) rfl hf hK
open Go.ChangeShapes Go.WideShapes Go.ChangeAt Go.RowKit
section
variable {H : Type} {enc : TypeId × Value → H} {P : Program} {w : World} {base : Nat} {spare : Nat → Bool} {held : Bool}
end
section
variable {H : Type} {enc : TypeId × Value → H} {w : World} {base : Nat} {spare : Nat → Bool} {held : Bool}
def Rng.F (s : Rng) : List SV := [intE s.flow, intE s.a, intE s.b]
def Rules.F (r : Rules) : List SV := [rngsE r.ranges, .str r.marker, .bool r.o1, .bool r.o2, .bool r.o3, .bool r.o4, strsE r.vars]
end
end Go.Proofs.YthinbkgpjmjfeaaGreatDoor.Sh
