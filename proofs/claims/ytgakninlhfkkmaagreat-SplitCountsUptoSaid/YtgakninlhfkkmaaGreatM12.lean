/- A part of the proof (part 12 of 13). -/
import Derived.Test.YtgakninlhfkkmaaGreatM11
import Derived.Test.YtgakninlhfkkmaaGreatRows
import Derived.WalkKit
import Derived.ProofKit
import Derived.OpenShut
import Derived.JoinedCond
import Derived.ReadAgain
import Derived.ChangeReads
namespace Go.Proofs.YtgakninlhfkkmaaGreat.Sh
open Proofs
set_option maxRecDepth 10000
def ChQ (l : List Style) (id : Int) (h : Hp) (n : Nat) : SV → Hp → Nat → Prop := fun v h' n' => ∃ k, v = .fn (.func 270) [] [.iptr [stylesE l], .ptr k 0] ∧ n ≤ k ∧ k < n' ∧ h' k = some (.cells [intE id]) ∧ ∀ o y, h o = some y → h' o = some y
theorem d209 (l : List Style) (id : Int) {h : Hp} {n : Nat} : SCall Tryz.prog 209 [stylesE l, intE id] h n (ChQ l id h n) := by
  refine goS Tryz.func209 rfl (by kernel_rfl) (by kernel_rfl) (by simp [go_sem]) fun ho => ?_
  have hHb : ∀ j y, h j = some y → j < n := fun j y e => (ho j y e).1
  refine SP_mid 1 (α := Unit) (fun _ => [(2, .iptr [stylesE l]), (3, .ptr (n + 1) 0)]) (fun _ => hset h (n + 1) (some (.cells [intE id]))) (fun _ m => n + 1 < m) ?_ (fun _ m hm => ?_)
  · simp [go_sem, Fz.same]
    refine ⟨ptr_fz (by simp [hset]; exact lt_none hHb (Nat.le_refl _)) (by simp [hset]), fun j y => ?_⟩
    have := hHb j y; simp only [hset]; grind
  refine SP_of ?_
  simp [go_sem]
  exact .inl ⟨n + 1, rfl, by omega, hm, hset_at _ _ _, set_keep (fun j z e => by have := hHb j z e; omega) look_same⟩
structure YS (E : Env) (yl : Nat) (N : Nat) (J : Nat → Hp → Nat → Prop) (Jx : Hp → Nat → Prop) (D : Nat → Prop) : Prop where
  step : ∀ c (x : Style) h m, J c h m → YCallE E Tryz.prog yl [x.enc] h m (fun v h' m' => m ≤ m' ∧ (∀ o, ¬ D o → o < m → h' o = h o) ∧ ((v = .bool true ∧ c + 1 ≤ N ∧ J (c + 1) h' m') ∨ (v = .bool false ∧ Jx h' m')))
  keep : ∀ c h m h' m', J c h m → m ≤ m' → (∀ o, D o → h' o = h o) → J c h' m'
  lt : ∀ c h m, J c h m → ∀ o, D o → o < m
theorem findS_intB {P : Int → Prop} (x : Int) : ∀ (l : List (Int × Int)) (i : Nat), (∀ p ∈ l, P p.2) → findS (intE x) (kvI l) i = some none ∨ ∃ j k, findS (intE x) (kvI l) i = some (some (j, intE k)) ∧ P k
  | [], i, _ => .inl rfl
  | a :: l, i, hP => by
    by_cases e : x = a.1
    · exact .inr ⟨i, a.2, by simp [kvI, findS, keyEq, e], hP a (by simp)⟩
    · have : (x == a.1) = false := by simpa using e
      rcases findS_intB x l (i + 1) (fun p hp => hP p (by simp [hp])) with h | ⟨j, k, h, hk⟩
      · left; simp only [kvI, List.map_cons, findS, keyEq, if_true, this]; exact h
      · right; refine ⟨j, k, ?_, hk⟩; simp only [kvI, List.map_cons, findS, keyEq, if_true, this]; exact h
theorem setAt_kvB {P : Int → Prop} (l : List (Int × Int)) (j : Nat) (x v : Int) (hl : ∀ p ∈ l, P p.2) (hv : P v) : ∃ l', setAt (kvI l) j (intE x) (intE v) = kvI l' ∧ ∀ p ∈ l', P p.2 := by
  refine ⟨l.modify j fun _ => (x, v), ?_, fun p hp => ?_⟩
  · unfold setAt kvI
    apply List.ext_getElem?; intro i; simp only [List.getElem?_modify, List.getElem?_map]; by_cases e : j = i <;> cases l[i]? <;> simp [e]
  · obtain ⟨i, hi⟩ := List.getElem?_of_mem hp
    rw [List.getElem?_modify] at hi
    cases hli : l[i]? with
    | none => simp [hli] at hi
    | some q =>
      by_cases e : j = i
      · simp [hli, e] at hi; rw [← hi]; exact hv
      · simp [hli, e] at hi; rw [← hi]; exact hl q (List.mem_of_getElem? hli)
section
variable {E : Env} {yl N : Nat} {J : Nat → Hp → Nat → Prop} {Jx : Hp → Nat → Prop} {D : Nat → Prop}
def InB (l : List Style) (a : List (Int × Int)) : Prop := ∀ p ∈ a, 0 ≤ p.2 ∧ p.2 < l.length
set_option maxHeartbeats 2000000 in
theorem d270 (Y : YS E yl N J Jx D) (l : List Style) (hl : l.length ≤ 1048576) {H : Hp} {n k : Nat} {id : Int} (hk : H k = some (.cells [intE id])) (hkD : ¬ D k) (hJ : J 0 H n) :
    SCallE E Tryz.prog 270 [.fn (.yield yl) [] [], .iptr [stylesE l], .ptr k 0] H n (fun _ h' m' => n ≤ m' ∧ (∀ o, ¬ D o → o ≠ k → o < n → h' o = H o) ∧ ((∃ c, J c h' m') ∨ Jx h' m')) := by
  refine goS Tryz.func270 rfl (by kernel_rfl) (by kernel_rfl) (by simp [go_sem]) fun ho => ?_
  have hHb : ∀ j y, H j = some y → j < n := fun j y e => (ho j y e).1
  have hkn : k < n := hHb k _ hk
  have hDn := Y.lt _ _ _ hJ
  have nk : k ≠ n := by omega
  refine SP_mid 0 (α := Unit) (fun _ => [(0, .fn (.yield yl) [] []), (1, .iptr [stylesE l]), (2, .ptr k 0), (4, .map n)]) (fun _ => hset H n (some (.map (kvI [])))) (fun _ m => n < m) ?_ (fun _ m hm => ?_)
  · simp [go_sem, Fz.same, kvI]
  refine SP_midS 0 (α := List (Int × Int)) (fun _ => [(0, .fn (.yield yl) [] []), (1, .iptr [stylesE l]), (2, .ptr k 0), (4, .map n)]) (fun a => hset H n (some (.map (kvI a)))) (fun a m => n < m ∧ InB l a) ?_ (fun a m hm => ?_)
  · refine SP_mid 0 (α := Unit) (fun _ => [(0, .fn (.yield yl) [] []), (1, .iptr [stylesE l]), (2, .ptr k 0), (4, .map n), (10, stylesE l), (11, intE l.length), (12, intE 0)]) (fun _ => hset H n (some (.map (kvI [])))) (fun _ m => n < m) ?_ (fun _ m hm => ?_)
    · simp [go_sem, Fz.same, hm]
    refine SP_block (goloopS 0 (α := Nat × List (Int × Int)) (fun q => [(0, .fn (.yield yl) [] []), (1, .iptr [stylesE l]), (2, .ptr k 0), (4, .map n), (10, stylesE l), (11, intE l.length), (12, intE q.1)]) (fun q => hset H n (some (.map (kvI q.2)))) (fun q m => q.1 ≤ l.length ∧ n < m ∧ InB l q.2) (fun q => l.length - q.1) (0, []) ⟨Nat.zero_le _, hm, by simp [InB]⟩ ?_ look_same ?_)
    · simp [go_sem, look, Fz.same]
    rintro ⟨i, a⟩ m ⟨hi, hm, ha⟩
    dsimp only at hi ha ⊢
    by_cases hlt : i < l.length
    · have w1 : IntKind.i64.wrap ((i : Int) + 1) = ((i + 1 : Nat) : Int) := by rw [wr64] <;> omega
      obtain ⟨x, hx⟩ : ∃ x, l[i] = x := ⟨_, rfl⟩
      refine SP_mid 0 (α := Unit) (fun _ => [(0, .fn (.yield yl) [] []), (1, .iptr [stylesE l]), (2, .ptr k 0), (4, .map n), (10, stylesE l), (11, intE l.length), (12, intE i), (13, .bool true)]) (fun _ => hset H n (some (.map (kvI a)))) (fun _ m => n < m) ?_ (fun _ m hm => ?_)
      · simp [go_sem, Fz.same, hm, hlt]
      refine SP_mid 0 (α := Unit) (fun _ => [(0, .fn (.yield yl) [] []), (1, .iptr [stylesE l]), (2, .ptr k 0), (4, .map n), (10, stylesE l), (11, intE l.length), (12, intE i)]) (fun _ => hset H n (some (.map (kvI a)))) (fun _ m => n < m) ?_ (fun _ m hm => ?_)
      · simp [go_sem, Fz.same, hm]
      refine SP_midS 0 (α := List (Int × Int)) (fun _ => [(0, .fn (.yield yl) [] []), (1, .iptr [stylesE l]), (2, .ptr k 0), (4, .map n), (10, stylesE l), (11, intE l.length), (12, intE i)]) (fun a => hset H n (some (.map (kvI a)))) (fun a m => n < m ∧ InB l a) (SP_block ?_) (fun a m hm => ?_)
      · refine SP_mid 1 (α := Unit) (fun _ => [(0, .fn (.yield yl) [] []), (1, .iptr [stylesE l]), (2, .ptr k 0), (4, .map n), (10, stylesE l), (11, intE l.length), (12, intE i), (5, intE i), (6, .iptr [intE x.id, intE x.kind, .str x.name, intE x.base, intE x.next, propsE x.props])]) (fun _ => hset H n (some (.map (kvI a)))) (fun _ m => n < m) ?_ (fun _ m hm => ?_)
        · have hHm : ∀ j y, hset H n (some (.map (kvI a))) j = some y → j < m := fun j y e => by
            simp only [hset] at e; split at e
            · omega
            · have := hHb j y e; omega
          simp [go_sem, Fz.same, hlt, hx, Style.enc, hset_at]
          exact ⟨by omega, ptr_fz (lt_none hHm (Nat.le_refl _)) (hset_at _ _ _), set_keep hHm (set_keep hHm look_same)⟩
        refine SP_of ?_
        have hB : ∀ v : Int, v = (i : Int) → 0 ≤ v ∧ v < l.length := fun v hv => by omega
        rcases findS_intB (P := fun v => 0 ≤ v ∧ v < l.length) x.id a 0 ha with hf | ⟨j, v, hf, _⟩
        · have hpush : kvI a ++ [(intE x.id, intE (i : Int))] = kvI (a ++ [(x.id, (i : Int))]) := by simp [kvI]
          simp [go_sem, hset_at, hf, keyOk, hpush, Fz.same, hset_two]
          refine ⟨a ++ [(x.id, (i : Int))], ⟨hm, fun p hp => ?_⟩, look_same⟩
          rcases List.mem_append.1 hp with hp | hp
          · exact ha p hp
          · rw [List.mem_singleton.1 hp]; exact hB _ rfl
        · obtain ⟨a', h1, h2⟩ := setAt_kvB (P := fun v => 0 ≤ v ∧ v < l.length) a j x.id i ha (hB _ rfl)
          have h1' : (kvI a).modify j (fun _ => (intE x.id, intE i)) = kvI a' := h1
          simp [go_sem, hset_at, hf, keyOk, h1', Fz.same, hset_two]
          exact ⟨a', ⟨hm, h2⟩, look_same⟩
      · obtain ⟨hm, ha⟩ := hm
        refine SP_of ?_
        simp [go_sem, w1, Fz.same, -Int.natCast_add]
        exact ⟨i + 1, by omega, a, ⟨by omega, hm, ha⟩, rfl, look_same⟩
    · refine SP_of ?_
      simp [go_sem, hlt, Fz.same, hm]
      exact ⟨a, ha, look_same⟩
  obtain ⟨hm, ha⟩ := hm
  have hnD : ¬ D n := fun g => by have := hDn n g; omega
  refine SP_of ?_
  simp [go_sem]
  refine goloop 0 (α := Nat × Int × Hp) (fun _ => [(0, .fn (.yield yl) [] []), (1, .iptr [stylesE l]), (2, .ptr k 0), (4, .map n)]) (fun q => q.2.2) (fun q m => n < m ∧ J q.1 q.2.2 m ∧ q.2.2 k = some (.cells [intE q.2.1]) ∧ q.2.2 n = some (.map (kvI a)) ∧ ∀ o, ¬ D o → o ≠ k → o < n → q.2.2 o = H o) (fun q => N - q.1)
    (0, id, hset H n (some (.map (kvI a)))) ⟨hm, Y.keep _ _ _ _ _ hJ (by omega) fun o g => hset_ne _ _ (by have := hDn o g; omega), (hset_ne _ _ nk).trans hk, hset_at _ _ _, fun o _ _ g => hset_ne _ _ (by omega)⟩ ?_ look_same ?_
  · simp [look, Fz.same]
  rintro ⟨c, id, G⟩ m ⟨hm, hJ, hGk, hGn, hold⟩
  dsimp only at hJ hGk hGn hold ⊢
  by_cases h0 : id = 0
  · simp [go_sem, hGk, h0]
    exact .inl ⟨by omega, hold, .inl ⟨c, hJ⟩⟩
  have h0' : (id != 0) = true := by simpa using h0
  rcases findS_intB (P := fun v => 0 ≤ v ∧ v < l.length) id a 0 ha with hf | ⟨j, v, hf, hv1, hv2⟩
  · simp [go_sem, hGk, hGn, h0', hf, keyOk]
    exact .inl ⟨by omega, hold, .inl ⟨c, hJ⟩⟩
  · have hvl : v.toNat < l.length := by omega
    obtain ⟨x, hx⟩ : ∃ x, l[v.toNat]'hvl = x := ⟨_, rfl⟩
    simp [go_sem, hGk, hGn, h0', hf, keyOk, hv1, hvl, hx, Style.enc]
    have hy := Y.step c x G m hJ
    simp only [Style.enc] at hy
    refine YCallE.mono hy ?_
    rintro w G3 m3 ⟨hm3, hfr, ⟨rfl, hcN, hj⟩ | ⟨rfl, hj⟩⟩
    · have g3k : G3 k = some (.cells [intE id]) := by rw [hfr k hkD (by omega)]; exact hGk
      have g3n : G3 n = some (.map (kvI a)) := by rw [hfr n hnD (by omega)]; exact hGn
      simp [go_sem, hv1, hvl, hx, Style.enc, g3k]
      refine ⟨c + 1, by omega, x.base, hset G3 k (some (.cells [intE x.base])), ⟨by omega, Y.keep _ _ _ _ _ hj (Nat.le_refl _) fun o g => hset_ne _ _ (by rintro rfl; exact hkD g), hset_at _ _ _, by rw [hset_ne _ _ (Ne.symm nk)]; exact g3n, fun o g1 g2 g3 => ?_⟩, look_same⟩
      rw [hset_ne _ _ g2, hfr o g1 (by omega)]; exact hold o g1 g2 g3
    · simp [go_sem]
      exact .inl ⟨by omega, fun o g1 g2 g3 => by rw [hfr o g1 (by omega)]; exact hold o g1 g2 g3, .inr hj⟩
end
theorem goMS {E : Env} {f : FuncId} {fn : Func} {code : Code} {args : List SV} {h : Hp} {n : Nat} {K : SV → Hp → Nat → Prop} (hf : Tryz.prog.funcs[f]? = some fn) (hb : fn.body = some code)
    (hn : (fn.name != "runtime.NumGoroutine") = true) (hd : Code.dok fn.ntmps code = true) (hl : args.length ≤ fn.ntmps)
    (H : Old h n → ∀ B, SP (E.call true B) fn.ntmps code (retQ Tryz.prog fn n K) (initSA 0 args) h n) : SCallE E Tryz.prog f args h n K :=
  SCallE_ofM hf hb hn hd hl fun _ ho B => H ho B
set_option maxHeartbeats 4000000 in
theorem t146 (l : List Style) (hl : l.length ≤ 1048576) (hs : ∀ x ∈ l, x.props.length ≤ 1048576) : TC 146 [stylesE l] anyE := by
  intro h n
  refine goMS Tryz.func146 rfl (by kernel_rfl) (by kernel_rfl) (by simp [go_sem]) fun ho B => ?_
  have hHb : ∀ j y, h j = some y → j < n := fun j y e => (ho j y e).1
  obtain ⟨G, hG⟩ : ∃ G : Int → Hp, ∀ e, G e = hset h (n + 1) (some (.cells [intE e])) := ⟨_, fun _ => rfl⟩
  have hGa : ∀ e, G e (n + 1) = some (.cells [intE e]) := fun e => by rw [hG, hset_at]
  have hGs : ∀ e e', hset (G e) (n + 1) (some (.cells [intE e'])) = G e' := fun e e' => by rw [hG, hG, hset_two]
  have hGk : ∀ e j y, h j = some y → G e j = some y := fun e j y g => by rw [hG, hset_ne _ _ (by have := hHb j y g; omega)]; exact g
  have hGb : ∀ e j y, G e j = some y → j < n + 2 := fun e j y g => by
    rw [hG] at g; simp only [hset] at g; split at g
    · omega
    · have := hHb j y g; omega
  have out : ∀ (e : Int) (m : Nat), RetS n (G e) m (intE e) (fun v h' n' => anyE v ∧ h' = h ∧ n' = n) := fun e m => retT ho (hGk e) (by simp [closed]) ⟨e, rfl⟩
  refine SP_mid 1 (α := Unit) (fun _ => [(1, .iptr [stylesE l]), (2, .ptr (n + 1) 0)]) (fun _ => G 0) (fun _ m => n + 1 < m) ?_ (fun _ m hm => ?_)
  · rw [hG]
    simp [go_sem, Fz.same]
    refine ⟨ptr_fz (by simp [hset]; exact lt_none hHb (Nat.le_refl _)) (by simp [hset]), fun j y => ?_⟩
    have := hHb j y; simp only [hset]; grind
  refine SP_midS 0 (α := Unit) (fun _ => [(1, .iptr [stylesE l]), (2, .ptr (n + 1) 0)]) (fun _ => G 0) (fun _ m => n + 1 < m) (SP_of ?_) (fun _ m hm => ?_)
  · by_cases a1 : (128 : Int) < l.length
    · simp [go_sem, a1, hGa, hGs]; exact out _ _
    · simp [go_sem, a1, Fz.same, hm]
  refine SP_midS 0 (α := Unit) (fun _ => [(1, .iptr [stylesE l]), (2, .ptr (n + 1) 0)]) (fun _ => G 0) (fun _ m => n + 1 < m) ?_ (fun _ m hm => ?_)
  · refine SP_mid 0 (α := Unit) (fun _ => [(1, .iptr [stylesE l]), (2, .ptr (n + 1) 0), (14, intE l.length), (15, intE 0)]) (fun _ => G 0) (fun _ m => n + 1 < m) ?_ (fun _ m hm => ?_)
    · simp [go_sem, Fz.same, hm]
    refine SP_block (goloopS 0 (α := Nat) (fun i => [(1, .iptr [stylesE l]), (2, .ptr (n + 1) 0), (14, intE l.length), (15, intE i)]) (fun _ => G 0) (fun i m => i ≤ l.length ∧ n + 1 < m) (fun i => l.length - i) 0 ⟨Nat.zero_le _, hm⟩ ?_ look_same ?_)
    · simp [go_sem, look, Fz.same]
    rintro i m ⟨hi, hm⟩
    by_cases hlt : i < l.length
    · have w1 : IntKind.i64.wrap ((i : Int) + 1) = ((i + 1 : Nat) : Int) := by rw [wr64] <;> omega
      refine SP_of ?_
      simp [go_sem, hlt]
      refine TC.use (t207 l hl hs i hlt) ?_
      rintro v ⟨e, rfl⟩
      by_cases e0 : e = 0
      · simp [go_sem, e0, w1, Fz.same, -Int.natCast_add]
        exact ⟨i + 1, by omega, ⟨by omega, hm⟩, rfl⟩
      · have e1 : (e != 0) = true := by simpa using e0
        simp [go_sem, e1, hGa, hGs]
        exact out _ _
    · refine SP_of ?_
      simp [go_sem, hlt, Fz.same, hm]
  refine SP_midS 0 (α := Unit) (fun _ => [(1, .iptr [stylesE l]), (2, .ptr (n + 1) 0)]) (fun _ => G 0) (fun _ m => n + 1 < m) ?_ (fun _ m hm => ?_)
  · refine SP_mid 0 (α := Unit) (fun _ => [(1, .iptr [stylesE l]), (2, .ptr (n + 1) 0), (25, stylesE l), (26, intE l.length), (27, intE 0)]) (fun _ => G 0) (fun _ m => n + 1 < m) ?_ (fun _ m hm => ?_)
    · simp [go_sem, Fz.same, hm]
    refine SP_block (goloopS 0 (α := Nat) (fun i => [(1, .iptr [stylesE l]), (2, .ptr (n + 1) 0), (25, stylesE l), (26, intE l.length), (27, intE i)]) (fun _ => G 0) (fun i m => i ≤ l.length ∧ n + 1 < m) (fun i => l.length - i) 0 ⟨Nat.zero_le _, hm⟩ ?_ look_same ?_)
    · simp [go_sem, look, Fz.same]
    rintro i m ⟨hi, hm⟩
    by_cases hlt : i < l.length
    · have w1 : IntKind.i64.wrap ((i : Int) + 1) = ((i + 1 : Nat) : Int) := by rw [wr64] <;> omega
      obtain ⟨x, hx⟩ : ∃ x, l[i] = x := ⟨_, rfl⟩
      obtain ⟨X, hX⟩ : ∃ X : SV, X = .iptr [intE x.id, intE x.kind, .str x.name, intE x.base, intE x.next, propsE x.props] := ⟨_, rfl⟩
      refine SP_mid 0 (α := Unit) (fun _ => [(1, .iptr [stylesE l]), (2, .ptr (n + 1) 0), (25, stylesE l), (26, intE l.length), (27, intE i), (28, .bool true)]) (fun _ => G 0) (fun _ m => n + 1 < m) ?_ (fun _ m hm => ?_)
      · simp [go_sem, Fz.same, hm, hlt]
      refine SP_mid 0 (α := Unit) (fun _ => [(1, .iptr [stylesE l]), (2, .ptr (n + 1) 0), (25, stylesE l), (26, intE l.length), (27, intE i)]) (fun _ => G 0) (fun _ m => n + 1 < m) ?_ (fun _ m hm => ?_)
      · simp [go_sem, Fz.same, hm]
      refine SP_midS 0 (α := Unit) (fun _ => [(1, .iptr [stylesE l]), (2, .ptr (n + 1) 0), (25, stylesE l), (26, intE l.length), (27, intE i)]) (fun _ => G 0) (fun _ m => n + 1 < m) (SP_block ?_) (fun _ m hm => ?_)
      · refine SP_mid 1 (α := Unit) (fun _ => [(1, .iptr [stylesE l]), (2, .ptr (n + 1) 0), (25, stylesE l), (26, intE l.length), (27, intE i), (6, X)]) (fun _ => G 0) (fun _ m => n + 1 < m) ?_ (fun _ m hm => ?_)
        · have hHm : ∀ j y, G 0 j = some y → j < m := fun j y e => by have := hGb 0 j y e; omega
          rw [hX]
          simp [go_sem, Fz.same, hlt, hx, Style.enc, hset_at]
          exact ⟨by omega, ptr_fz (lt_none hHm (Nat.le_refl _)) (hset_at _ _ _), set_keep hHm (set_keep hHm look_same)⟩
        refine SP_mid 0 (α := Bx) (fun b => [(1, .iptr [stylesE l]), (2, .ptr (n + 1) 0), (25, stylesE l), (26, intE l.length), (27, intE i), (59, .bool b.b)]) (fun _ => G 0) (fun _ m => n + 1 < m) ?_ (fun b m hm => ?_)
        · rw [hX]
          have e208 : ∀ (kd id : Int) {m : Nat} {K : SV → Hp → Nat → Prop}, (∀ b, K (.bool b) (G 0) m) → SCallE (Env.plain.call true B) Tryz.prog 208 [stylesE l, intE kd, intE id] (G 0) m K := fun kd id m K hK => PC.use (c208 l kd id hl) (hK _)
          have second : x.next = 0 ∨ (x.next ≠ 0 ∧ x.kind = 2) ∨ (x.next ≠ 0 ∧ x.kind ≠ 2) := by
            by_cases c1 : x.next = 0
            · exact .inl c1
            · by_cases c2 : x.kind = 2
              · exact .inr (.inl ⟨c1, c2⟩)
              · exact .inr (.inr ⟨c1, c2⟩)
          by_cases b0 : x.base = 0
          · rcases second with c1 | ⟨c1, c2⟩ | ⟨c1, c2⟩
            · simp [go_sem, b0, c1, Fz.same, hm]; exact ⟨⟨_⟩, rfl⟩
            · have c1' : (x.next != 0) = true := by simpa using c1
              simp [go_sem, b0, c1', c2, Fz.same, hm]; exact ⟨⟨_⟩, rfl⟩
            · have c1' : (x.next != 0) = true := by simpa using c1
              have c2' : (x.kind == 2) = false := by simpa using c2
              simp [go_sem, b0, c1', c2']
              refine e208 _ _ fun b => ?_
              cases b <;> simp [go_sem, Fz.same, hm] <;> exact ⟨⟨_⟩, rfl⟩
          · have b0' : (x.base != 0) = true := by simpa using b0
            simp [go_sem, b0']
            refine e208 _ _ fun b => ?_
            cases b with
            | false => simp [go_sem, Fz.same, hm]; exact ⟨⟨_⟩, rfl⟩
            | true =>
              rcases second with c1 | ⟨c1, c2⟩ | ⟨c1, c2⟩
              · simp [go_sem, c1, Fz.same, hm]; exact ⟨⟨_⟩, rfl⟩
              · have c1' : (x.next != 0) = true := by simpa using c1
                simp [go_sem, c1', c2, Fz.same, hm]; exact ⟨⟨_⟩, rfl⟩
              · have c1' : (x.next != 0) = true := by simpa using c1
                have c2' : (x.kind == 2) = false := by simpa using c2
                simp [go_sem, c1', c2']
                refine e208 _ _ fun b => ?_
                cases b <;> simp [go_sem, Fz.same, hm] <;> exact ⟨⟨_⟩, rfl⟩
        obtain ⟨b⟩ := b
        dsimp only
        refine SP_of ?_
        cases b with
        | true => simp [go_sem, hGa, hGs]; exact out _ _
        | false => simp [go_sem, Fz.same, hm]
      · refine SP_of ?_
        simp [go_sem, w1, Fz.same, -Int.natCast_add]
        exact ⟨i + 1, by omega, ⟨by omega, hm⟩, rfl⟩
    · refine SP_of ?_
      simp [go_sem, hlt, Fz.same, hm]
  refine SP_midS 0 (α := Unit) (fun _ => [(2, .ptr (n + 1) 0)]) (fun _ => G 0) (fun _ m => n + 1 < m) ?_ (fun _ m hm => ?_)
  · refine SP_mid 0 (α := Unit) (fun _ => [(1, .iptr [stylesE l]), (2, .ptr (n + 1) 0), (61, stylesE l), (62, intE l.length), (63, intE 0)]) (fun _ => G 0) (fun _ m => n + 1 < m) ?_ (fun _ m hm => ?_)
    · simp [go_sem, Fz.same, hm]
    refine SP_block (goloopS 0 (α := Nat) (fun i => [(1, .iptr [stylesE l]), (2, .ptr (n + 1) 0), (61, stylesE l), (62, intE l.length), (63, intE i)]) (fun _ => G 0) (fun i m => i ≤ l.length ∧ n + 1 < m) (fun i => l.length - i) 0 ⟨Nat.zero_le _, hm⟩ ?_ look_same ?_)
    · simp [go_sem, look, Fz.same]
    rintro i m ⟨hi, hm⟩
    by_cases hlt : i < l.length
    · have w1 : IntKind.i64.wrap ((i : Int) + 1) = ((i + 1 : Nat) : Int) := by rw [wr64] <;> omega
      obtain ⟨x, hx⟩ : ∃ x, l[i] = x := ⟨_, rfl⟩
      refine SP_mid 0 (α := Unit) (fun _ => [(1, .iptr [stylesE l]), (2, .ptr (n + 1) 0), (61, stylesE l), (62, intE l.length), (63, intE i), (64, .bool true)]) (fun _ => G 0) (fun _ m => n + 1 < m) ?_ (fun _ m hm => ?_)
      · simp [go_sem, Fz.same, hm, hlt]
      refine SP_mid 0 (α := Unit) (fun _ => [(1, .iptr [stylesE l]), (2, .ptr (n + 1) 0), (61, stylesE l), (62, intE l.length), (63, intE i)]) (fun _ => G 0) (fun _ m => n + 1 < m) ?_ (fun _ m hm => ?_)
      · simp [go_sem, Fz.same, hm]
      refine SP_midS 0 (α := Unit) (fun _ => [(1, .iptr [stylesE l]), (2, .ptr (n + 1) 0), (61, stylesE l), (62, intE l.length), (63, intE i)]) (fun _ => G 0) (fun _ m => n + 1 < m) (SP_block ?_) (fun _ m hm => ?_)
      · refine SP_mid 1 (α := Unit) (fun _ => [(1, .iptr [stylesE l]), (2, .ptr (n + 1) 0), (61, stylesE l), (62, intE l.length), (63, intE i), (8, .iptr [intE x.id, intE x.kind, .str x.name, intE x.base, intE x.next, propsE x.props])]) (fun _ => G 0) (fun _ m => n + 1 < m) ?_ (fun _ m hm => ?_)
        · have hHm : ∀ j y, G 0 j = some y → j < m := fun j y e => by have := hGb 0 j y e; omega
          simp [go_sem, Fz.same, hlt, hx, Style.enc, hset_at]
          exact ⟨by omega, ptr_fz (lt_none hHm (Nat.le_refl _)) (hset_at _ _ _), set_keep hHm (set_keep hHm look_same)⟩
        refine SP_mid 0 (α := Unit) (fun _ => [(1, .iptr [stylesE l]), (2, .ptr (n + 1) 0), (61, stylesE l), (62, intE l.length), (63, intE i), (8, .iptr [intE x.id, intE x.kind, .str x.name, intE x.base, intE x.next, propsE x.props]), (9, .ptr m 0)]) (fun _ => hset (G 0) m (some (.cells [intE 0]))) (fun _ m2 => m < m2) ?_ (fun _ m2 hm2 => ?_)
        · simp [go_sem, Fz.same, hset_at, hset_two]
        refine SP_mid 0 (α := Hp × Nat) (fun z => [(1, .iptr [stylesE l]), (2, .ptr (n + 1) 0), (61, stylesE l), (62, intE l.length), (63, intE i), (9, .ptr m 0), (70, .fn (.func 270) [] [.iptr [stylesE l], .ptr z.2 0])]) (fun z => z.1) (fun z m3 => m2 ≤ z.2 ∧ z.2 < m3 ∧ z.1 z.2 = some (.cells [intE x.id]) ∧ ∀ o y, hset (G 0) m (some (.cells [intE 0])) o = some y → z.1 o = some y) ?_ (fun z m3 hm3 => ?_)
        · simp [go_sem]
          refine SC.use (d209 l x.id) ?_
          rintro v H' n' ⟨k, rfl, g1, g2, g3, g4⟩
          simp [go_sem, Fz.same]
          exact ⟨H', k, ⟨g1, g2, g3, g4⟩, rfl, look_same⟩
        obtain ⟨z, k⟩ := z
        obtain ⟨k1, k2, k3, k4⟩ := hm3
        dsimp only at k1 k2 k3 k4 ⊢
        refine SP_block ?_
        refine SWE_rangeFunc rfl rfl rfl fun E1 yl R hY => ?_
        have za : z (n + 1) = some (.cells [intE 0]) := k4 _ _ (by rw [hset_ne _ _ (by omega)]; exact hGa 0)
        have zm : z m = some (.cells [intE 0]) := k4 _ _ (hset_at _ _ _)
        let D : Nat → Prop := fun o => o = n + 1 ∨ o = m ∨ o = m3
        let J : Nat → Hp → Nat → Prop := fun c hh mm => m3 < mm ∧ c ≤ l.length ∧ hh (n + 1) = some (.cells [intE 0]) ∧ hh m = some (.cells [intE c]) ∧ hh m3 = some (.loop (R .ready none))
        let Jx : Hp → Nat → Prop := fun hh mm => m3 < mm ∧ hh (n + 1) = some (.cells [intE 16]) ∧ hh m3 = some (.loop (R .done (some .ret)))
        have Y : YS E1 yl l.length J Jx D := by
          refine ⟨fun c y hh mm hJ => ?_, ?_, ?_⟩
          · obtain ⟨g0, gc, g1, g2, g3⟩ := hJ
            have q1 : n + 1 ≠ mm := by omega
            have q2 : m ≠ mm := by omega
            have q3 : m3 ≠ mm := by omega
            have q3' := q3.symm
            have q4 : m ≠ m3 := by omega
            have q5 : n + 1 ≠ m3 := by omega
            have q6 : n + 1 ≠ m := by omega
            have w2 : IntKind.i64.wrap ((c : Int) + 1) = ((c + 1 : Nat) : Int) := by rw [wr64] <;> omega
            refine hY _ _ _ _ g3 rfl (roundW_of ?_)
            by_cases hc : c + 1 ≤ l.length
            · have hc' : ¬ (((l.length : Nat) : Int) < ((c + 1 : Nat) : Int)) := by omega
              simp [go_sem, zipSA, Style.enc, hset_at, hset_ne, g2, g3, q4, w2, hc', roundQ, -Int.natCast_add]
              refine ⟨by rw [hset_ne _ _ q4.symm, hset_at], fun o g1 g2 => ?_, hc, ?_⟩
              · have e1 : o ≠ m := fun e => g1 (.inr (.inl e))
                have e2 : o ≠ m3 := fun e => g1 (.inr (.inr e))
                have e3 : o ≠ mm := by omega
                simp [hset, e1, e2]
              · exact ⟨by omega, hc, by simp [hset, q5, q6, g1], by simp [hset, q4], by simp [hset]⟩
            · have hc' : (((l.length : Nat) : Int) < ((c + 1 : Nat) : Int)) := by omega
              simp [go_sem, zipSA, Style.enc, hset_at, hset_ne, g1, g2, g3, q4, q5, q6, w2, hc', roundQ, -Int.natCast_add]
              refine ⟨by rw [hset_ne _ _ q5.symm, hset_ne _ _ q4.symm, hset_at], fun o g1 g2 => ?_, ?_⟩
              · have e0 : o ≠ n + 1 := fun e => g1 (.inl e)
                have e1 : o ≠ m := fun e => g1 (.inr (.inl e))
                have e2 : o ≠ m3 := fun e => g1 (.inr (.inr e))
                have e3 : o ≠ mm := by omega
                simp [hset, e0, e1, e2]
              · exact ⟨by omega, by simp [hset, q5], by simp [hset]⟩
          · rintro c hh mm h' m' ⟨g0, gc, g1, g2, g3⟩ hmm hD
            exact ⟨by omega, gc, by rw [hD _ (.inl rfl)]; exact g1, by rw [hD _ (.inr (.inl rfl))]; exact g2, by rw [hD _ (.inr (.inr rfl))]; exact g3⟩
          · rintro c hh mm ⟨g0, gc, g1, g2, g3⟩ o (rfl | rfl | rfl) <;> omega
        have hkm3 : k ≠ m3 := by omega
        refine SCallE.mono (d270 Y l hl (id := x.id) (k := k) (by rw [hset_ne _ _ hkm3]; exact k3) (by rintro (g | g | g) <;> omega) ⟨by omega, Nat.zero_le _, by rw [hset_ne _ _ (by omega)]; exact za, by rw [hset_ne _ _ (by omega)]; exact zm, hset_at _ _ _⟩) ?_
        rintro v h' m' ⟨hm', hfr, ⟨c, g0, gc, g1, g2, g3⟩ | ⟨g0, g1, g3⟩⟩
        · refine ⟨_, _, g3, by simp, ?_⟩
          simp [go_sem]
          refine ⟨by omega, fun o y e => ?_⟩
          have o1 : o < n + 2 := hGb 0 o y e
          by_cases o2 : o = n + 1
          · subst o2; rw [hset_ne _ _ (by omega), g1, ← e, hGa]
          · rw [hset_ne _ _ (by omega), hfr o (by rintro (g | g | g) <;> omega) (by omega) (by omega), hset_ne _ _ (by omega)]
            exact k4 _ _ ((hset_ne _ _ (by omega)).trans e)
        · refine ⟨_, _, g3, by simp, ?_⟩
          simp [go_sem]
          rw [hset_ne _ _ (by omega : n + 1 ≠ m3), g1]
          refine ⟨_, rfl, retT ho (fun o y e => ?_) (by simp [closed]) ⟨16, rfl⟩⟩
          have o1 : o < n := hHb o y e
          rw [hset_ne _ _ (by omega), hfr o (by rintro (g | g | g) <;> omega) (by omega) (by omega), hset_ne _ _ (by omega)]
          exact k4 _ _ ((hset_ne _ _ (by omega)).trans (hGk 0 _ _ e))
      · refine SP_of ?_
        simp [go_sem, w1, Fz.same, -Int.natCast_add]
        exact ⟨i + 1, by omega, ⟨by omega, hm⟩, rfl⟩
    · refine SP_of ?_
      simp [go_sem, hlt, Fz.same, hm]
  refine SP_of ?_
  simp [go_sem, hGa, hGs]
  exact out _ _
structure Settings.sizedT (s : Settings) : Prop extends Settings.sized s where
  tpl : ∀ x ∈ s.lists, ∀ y ∈ x.levels, y.template.size ≤ 1048576
  com : ∀ x ∈ s.comments, x.author.size ≤ 1048576 ∧ x.text.size ≤ 1048576
  var : ∀ x ∈ s.vars, x.name.size ≤ 1048576 ∧ x.value.size ≤ 1048576
theorem t83s (s : Settings) (hs : s.sizedT) : TC 83 [s.enc] anyE :=
  t83 s (t146 _ hs.styles hs.props)
    (t147 _ hs.lists fun i hi => t210 _ hs.lists i hi (t212 _ (hs.levels _ (List.getElem_mem hi)) fun x hx k => t271 x.template (hs.tpl _ (List.getElem_mem hi) x hx) k))
    (t148 _ hs.comments fun i hi => t213 _ hs.comments hs.com i hi)
    (t149 _ hs.vars fun i hi => t218 _ hs.vars hs.var i hi)
structure Document.sizedT (B N : Nat) (d : Document) : Prop where
  flow : lim Head.sized B N d.flow
  «end» : d.«end».sized
  revs : d.revs.length ≤ 1048576
  authors : ∀ r ∈ d.revs, r.author.size ≤ 1048576
  settings : d.settings.sizedT
theorem t12s (d : Document) {B N : Nat} (hB : B ≤ 1048576) (hd : d.sizedT B N) : TC 12 [d.enc] (smallT N d) :=
  t12 d hB hd.flow (t24 d hB hd.flow hd.end hd.settings.styles hd.settings.lists hd.revs hd.authors (t83s _ hd.settings))
structure thin (h : Head) : Prop where
  move : h.move = 0
  dels : h.dels = []
  layers : h.layers = []
theorem c44 (x : Head) (hx : thin x) : PC 44 [x.enc] (.imm 0 [] true) := by
  intro h n
  refine go Tryz.func44 rfl (by kernel_rfl) (by kernel_rfl) (by simp [go_sem]) fun ho => ?_
  have hh : ∀ a b c, ∀ o y, h o = some y → hset (hset (hset h n a) (n + 1) b) (n + 1) c o = some y := fun a b c => hset_old ho (by omega) (hset_old ho (by omega) (hset_old ho (Nat.le_refl _) look_same))
  obtain ⟨h1, h2, _⟩ := hx
  simp [go_sem, Head.enc, Head.flat, hset_at, hset_ne, h1, h2]
  refine goloop 1 (α := Unit) (fun k => [(3, .imm 0 [] true), (22, delsE []), (23, intE 0), (24, intE 0)]) (fun _ => h) (fun k m => n ≤ m) (fun k => 0) () ?_ ?_ ?_ ?_
  · omega
  · simp [look]
  · exact hh _ _ _
  rintro _ m hm
  simp [go_sem]
  exact retIs ho look_same rfl rfl
theorem d43 (p : SPart) (hp : thin p.head) (t : Nat) {H : Hp} {n : Nat} : SCall Tryz.prog 43 [p.enc, .ptr t 0] H n (fun v h' n' => v = .tup [] ∧ h' = H ∧ n' = n) := by
  refine goS Tryz.func43 rfl (by kernel_rfl) (by kernel_rfl) (by simp [go_sem]) fun ho => ?_
  refine SP_mid 1 (α := Unit) (fun _ => [(1, .ptr t 0), (2, .iptr (p.head.flat ++ [.bool p.mid, intE p.units]))]) (fun _ => H) (fun _ m => n ≤ m) ?_ (fun _ m hm => ?_)
  · simp [go_sem, SPart.enc, Head.flat, Fz.same]
    refine ⟨ptr_fz (ho.none (Nat.le_refl n)) (by simp [hset]), set_keep (fun j z e => (ho j z e).1) look_same⟩
  refine SP_of ?_
  simp [go_sem, Head.flat]
  refine PC.use (by simpa [Head.enc, Head.flat] using c44 p.head hp) ?_
  simp [go_sem]
  refine goloop 0 (α := Unit) (fun k => [(8, .imm 0 [] true), (9, intE 0), (10, intE 0)]) (fun _ => H) (fun k m => n ≤ m) (fun k => 0) () ?_ ?_ look_same ?_
  · omega
  · simp [look, Fz.same]
  rintro _ m hm
  simp [go_sem]
  exact ret_immU ho (by simp [closed, closedL]) look_same
def st0 : Unit → Nat → Option SObj := fun _ _ => none
theorem up0 (s : Unit) (H : Hp) : upS st0 s H = H := rfl
theorem v43 (n0 t : Nat) : Vis st0 n0 43 [] [.ptr t 0] (fun s _ => s) thin where
  lt _ _ _ := rfl
  dom _ _ _ _ := rfl
  cl _ _ _ e := by cases e
  call s p H n hp hn hs := by rw [up0]; exact d43 p hp t
theorem c48 (a x : Int) : PC 48 [intE x, .iptr [intE a]] (.bool (x == a)) := by
  intro h n
  refine go Tryz.func48 rfl (by kernel_rfl) (by kernel_rfl) (by simp [go_sem]) fun ho => ?_
  simp [go_sem]
  exact retIs ho look_same (by by_cases e : x = a <;> simp [e]) rfl
theorem c254 : PC 254 [.imm 2 [] false, intE 0, intE 0, .fn (.func 120) [] []] (.tup []) := by
  intro h n
  refine go Tryz.func254 rfl (by kernel_rfl) (by kernel_rfl) (by simp [go_sem]) fun ho => ?_
  simp [go_sem]
  refine goloop 1 (α := Unit) (fun k => [(2, intE 0), (8, intE 1)]) (fun _ => h) (fun k m => n ≤ m) (fun k => 0) () ?_ ?_ look_same ?_
  · omega
  · simp [look, show IntKind.i64.wrap 1 = 1 from by decide, Fz.same]
  rintro _ m hm
  simp [go_sem]
  exact retIs ho look_same rfl rfl
theorem c188 : PC 188 [.imm 2 [] false, intE 0, .fn (.func 120) [] []] (.tup []) := by
  intro h n
  refine go Tryz.func188 rfl (by kernel_rfl) (by kernel_rfl) (by simp [go_sem]) fun ho => ?_
  simp [go_sem]
  refine goloop 1 (α := Unit) (fun k => [(0, .imm 2 [] false), (1, intE 0), (2, .fn (.func 120) [] []), (6, intE 20), (7, intE 0), (8, intE 20)]) (fun _ => h) (fun k m => n ≤ m) (fun k => 0) () ?_ ?_ look_same ?_
  · omega
  · simp [look]
  rintro _ m hm
  simp [go_sem]
  refine PC.use c254 ?_
  simp [go_sem]
  refine goloop 1 (α := Unit) (fun k => [(1, intE 0), (6, intE 20)]) (fun _ => h) (fun k m => n ≤ m) (fun k => 0) () ?_ ?_ look_same ?_
  · omega
  · simp [look]
  rintro _ m hm
  simp [go_sem]
  exact retIs ho look_same rfl rfl
theorem c119 : PC 119 [.imm 2 [] false, .fn (.func 120) [] []] (.tup []) := by
  intro h n
  refine go Tryz.func119 rfl (by kernel_rfl) (by kernel_rfl) (by simp [go_sem]) fun ho => ?_
  simp [go_sem]
  refine PC.use c188 ?_
  simp [go_sem]
  exact retIs ho look_same rfl rfl
def renH (a id : Int) (h : Head) : Head := { h with ins := if h.ins ≠ 0 ∧ h.ins = a then id else h.ins }
set_option maxHeartbeats 2000000 in
theorem c47 (x : Head) (hs : x.sized) (hx : thin x) (a id : Int) : PC 47 [x.enc, intE id, .fn (.func 48) [] [.iptr [intE a]]] (renH a id x).enc := by
  intro h n
  refine goS Tryz.func47 rfl (by kernel_rfl) (by kernel_rfl) (by simp [go_sem]) fun ho => ?_
  have hHb : ∀ j y, h j = some y → j < n := fun j y e => (ho j y e).1
  have q1 : n + 1 ≠ n := by omega
  have q2 : n ≠ n + 1 := by omega
  obtain ⟨x1, x2, x3⟩ := hx
  obtain ⟨G, hG⟩ : ∃ G : Int → Hp, ∀ y, G y = hset (hset h n (some (.cells [propsE x.props, intE y, intE 0, delsE [], layersE []]))) (n + 1) (some (.cells [.imm 0 [] true, intE 0, intE 0, .imm 0 [] true, .imm 0 [] true])) := ⟨_, fun _ => rfl⟩
  have hGa : ∀ y, G y n = some (.cells [propsE x.props, intE y, intE 0, delsE [], layersE []]) := fun y => by rw [hG, hset_ne _ _ q2, hset_at]
  have hGb : ∀ y, G y (n + 1) = some (.cells [.imm 0 [] true, intE 0, intE 0, .imm 0 [] true, .imm 0 [] true]) := fun y => by rw [hG, hset_at]
  have hGs : ∀ y z, hset (G y) n (some (.cells [propsE x.props, intE z, intE 0, delsE [], layersE []])) = G z := fun y z => by rw [hG, hG]; funext j; simp only [hset]; grind
  have hGk : ∀ y j z, h j = some z → G y j = some z := fun y j z e => by have := hHb j z e; rw [hG, hset_ne _ _ (by omega), hset_ne _ _ (by omega)]; exact e
  obtain ⟨F, hF⟩ : ∃ F : SV, F = .fn (.func 48) [] [.iptr [intE a]] := ⟨_, rfl⟩
  rw [← hF]
  refine SP_mid 0 (α := Unit) (fun _ => [(1, intE id), (2, F), (3, .ptr n 0), (6, .ptr (n + 1) 0)]) (fun _ => G x.ins) (fun _ m => n + 2 = m) ?_ (fun _ m hm => ?_)
  · simp [go_sem, Head.enc, Head.flat, hG, x1, x2, x3, Fz.same]
  subst hm
  refine SP_mid 0 (α := Unit) (fun _ => [(1, intE id), (2, F), (3, .ptr n 0), (6, .ptr (n + 1) 0)]) (fun _ => G x.ins) (fun _ m => n + 2 ≤ m) ?_ (fun _ m hm => ?_)
  · simp [go_sem, hGa]
    refine PC.use (by simpa [Head.enc, Head.flat, x1, x2, x3] using c118 x hs) ?_
    simp [go_sem, hGa, hGs, Fz.same]
  refine SP_mid 0 (α := Unit) (fun _ => [(1, intE id), (2, F), (3, .ptr n 0), (6, .ptr (n + 1) 0), (7, .ptr n 1)]) (fun _ => G x.ins) (fun _ m => n + 2 ≤ m) ?_ (fun _ m hm => ?_)
  · simp [go_sem, Fz.same, hm]
  refine SP_midS 0 (α := Unit) (fun _ => [(1, intE id), (2, F), (3, .ptr n 0), (6, .ptr (n + 1) 0), (7, .ptr n 1)]) (fun _ => G (renH a id x).ins) (fun _ m => n + 2 ≤ m) ?_ (fun _ m hm => ?_)
  · refine SP_of ?_
    by_cases i0 : x.ins = 0
    · have hr : (renH a id x).ins = x.ins := by simp [renH, i0]
      rw [hr]
      simp [go_sem, hGa, i0, Fz.same, hm]
    · have i1 : (x.ins != 0) = true := by simpa using i0
      rw [hF]
      by_cases ia : x.ins = a
      · have hr : (renH a id x).ins = id := (by simp only [renH]; rw [if_pos ⟨i0, ia⟩])
        rw [hr]
        simp [go_sem, hGa, i1]
        refine PC.use (c48 a x.ins) ?_
        simp [go_sem, hGa, hGs, ia, Fz.same, hm]
      · have hr : (renH a id x).ins = x.ins := by simp [renH, ia]
        have ib : (x.ins == a) = false := by simpa using ia
        rw [hr]
        simp [go_sem, hGa, i1]
        refine PC.use (c48 a x.ins) ?_
        simp [go_sem, ib, Fz.same, hm]
  have hv : (renH a id x).enc = .agg [propsE x.props, intE (renH a id x).ins, intE 0, delsE [], layersE []] := by simp [renH, Head.enc, Head.flat, x1, x2, x3]
  rw [hv]
  generalize (renH a id x).ins = y
  refine SP_midS 0 (α := Unit) (fun _ => [(1, intE id), (2, F), (3, .ptr n 0), (6, .ptr (n + 1) 0), (7, .ptr n 1)]) (fun _ => G y) (fun _ m => n + 2 ≤ m) ?_ (fun _ m hm => ?_)
  · refine SP_of ?_
    simp [go_sem, hGa]
    refine goloop 0 (α := Unit) (fun _ => [(1, intE id), (2, F), (3, .ptr n 0), (6, .ptr (n + 1) 0), (7, .ptr n 1), (34, intE 0), (35, intE 0)]) (fun _ => G y) (fun _ m => n + 2 ≤ m) (fun _ => 0) () hm ?_ look_same ?_
    · simp [look, Fz.same]
    rintro _ m hm
    simp [go_sem, Fz.same, hm]
  refine SP_mid 0 (α := Unit) (fun _ => [(1, intE id), (2, F), (3, .ptr n 0), (6, .ptr (n + 1) 0), (7, .ptr n 1)]) (fun _ => G y) (fun _ m => n + 2 ≤ m) ?_ (fun _ m hm => ?_)
  · simp [go_sem, hGa]
    refine PC.use c119 ?_
    simp [go_sem, Fz.same, hm]
  refine SP_midS 0 (α := Unit) (fun _ => [(3, .ptr n 0), (6, .ptr (n + 1) 0)]) (fun _ => G y) (fun _ m => n + 2 ≤ m) ?_ (fun _ m hm => ?_)
  · refine SP_of ?_
    simp [go_sem, hGa]
    refine goloop 0 (α := Unit) (fun _ => [(1, intE id), (2, F), (3, .ptr n 0), (6, .ptr (n + 1) 0), (7, .ptr n 1), (66, intE 0), (67, intE 0)]) (fun _ => G y) (fun _ m => n + 2 ≤ m) (fun _ => 0) () hm ?_ look_same ?_
    · simp [look, Fz.same]
    rintro _ m hm
    simp [go_sem, Fz.same, hm]
  refine SP_of ?_
  simp [go_sem, hGa, hGb, hset_at]
  exact retIs ho (set_keep (fun j z e => by have := hHb j z e; omega) (hGk y)) rfl (by simp [closed, closedL, Prp.E.closedL])
def renF (a id : Int) (s : Unit) (p : SPart) : Head × Bool × Unit := (if p.mid then renH a id p.head else p.head, true, s)
theorem v46 (n0 : Nat) (r : Rev) (a : Int) : Clo st0 n0 46 [] [.iptr [intE r.id, .str r.author, intE r.time], .iptr [intE a]] (renF a r.id) (fun x => x.sized ∧ thin x) where
  lt _ _ _ := rfl
  dom _ _ _ _ := rfl
  cl _ _ _ e := by cases e
  call s p H n hp hn hs := by
    rw [up0]
    refine goS Tryz.func46 rfl (by kernel_rfl) (by kernel_rfl) (by simp [go_sem]) fun ho => ?_
    have hHb : ∀ j y, H j = some y → j < n := fun j y e => (ho j y e).1
    have q1 : n + 1 ≠ n := by omega
    obtain ⟨X, hX⟩ : ∃ X : SV, X = .iptr (p.head.flat ++ [.bool p.mid, intE p.units]) := ⟨_, rfl⟩
    refine SP_mid 1 (α := Unit) (fun _ => [(1, .iptr [intE r.id, .str r.author, intE r.time]), (2, .iptr [intE a]), (3, X), (4, .ptr (n + 1) 0)]) (fun _ => hset H (n + 1) (some (.cells [.imm 0 [] true, intE 0, intE 0, .imm 0 [] true, .imm 0 [] true]))) (fun _ m => n + 2 ≤ m) ?_ (fun _ m hm => ?_)
    · rw [hX]
      simp [go_sem, SPart.enc, Head.flat, Fz.same]
      refine ⟨ptr_fz (by rw [hset_ne _ _ q1.symm]; exact ho.none (Nat.le_refl n)) (by simp [hset]), fun j y => ?_⟩
      have := hHb j y; simp only [hset]; grind
    have hcl : ∀ x : Head, closed n (.tup [x.enc, .bool true]) = true := fun x => by simp [closed, closedL, Head.E.cl]
    have fin : ∀ (x : Head) (y : SObj) (m' : Nat), renF a r.id s p = (x, true, s) → RetS n (hset H (n + 1) (some y)) m' (.tup [x.enc, .bool true]) (fun v h' n' => v = .tup [(renF a r.id s p).1.enc, .bool (renF a r.id s p).2.1] ∧ h' = H ∧ n' = n) := fun x y m' e => by rw [e]; exact ret_immU ho (hcl x) (set_keep (fun j z e => by have := hHb j z e; omega) look_same)
    rw [hX]
    refine SP_of ?_
    cases hmid : p.mid with
    | false =>
      simp [go_sem, Head.flat, hset_at, hset_two]
      exact fin p.head _ _ (by simp [renF, hmid])
    | true =>
      simp [go_sem, Head.flat]
      refine PC.use (by simpa [Head.enc, Head.flat] using c47 p.head hp.1 hp.2 a r.id) ?_
      simp [go_sem, Head.enc, Head.flat, hset_at, hset_two]
      exact fin (renH a r.id p.head) _ _ (by simp [renF, hmid])
set_option maxHeartbeats 2000000 in
theorem d117 (l : List Rev) (hl0 : l ≠ []) (hl : l.length ≤ 1048576) (r : Rev) {H : Hp} {n o k : Nat} {full : Bool} (hH : H o = some (.cells ((l.map Rev.enc).flatMap SV.cells))) (hk : H k = some (.cells [intE r.id, .str r.author, intE r.time])) (hok : o ≠ k) :
    SCall Tryz.prog 117 [.sl o 0 3 l.length full, intE l.length, .sl k 0 3 1 true] H n (fun v h' n' => v = revsE (l ++ [r]) ∧ h' = hset H o none ∧ n' = n) := by
  refine goS Tryz.func117 rfl (by kernel_rfl) (by kernel_rfl) (by simp [go_sem]) fun ho => ?_
  have hHb : ∀ j y, H j = some y → j < n := fun j y e => (ho j y e).1
  have hfl : flat H (.sl o 0 3 l.length full) = some ((l.map Rev.enc).flatMap SV.cells) := by
    have : ((l.map Rev.enc).flatMap SV.cells).length = l.length * 3 := by rw [flat_len (z := 3) (Rev.E.size l)]; simp
    simp [flat, hH, takeN, ← this, -List.length_flatMap]
  have hfl2 : flat H (.sl k 0 3 1 true) = some [intE r.id, .str r.author, intE r.time] := by simp [flat, hk, takeN]
  have ht : tslice Tryz.prog 30 = some 42 := by simp [go_sem]
  have hap : builtinS Tryz.prog H n .append [30, 30] [.sl o 0 3 l.length full, .sl k 0 3 1 true] = some { val := .sl n 0 3 (l.length + 1) false, upd := if full then none else some (o, none), new := some (.cells ((l.map Rev.enc).flatMap SV.cells ++ [intE r.id, .str r.author, intE r.time])) } := by
    have hz : tsz Tryz.prog 42 = 3 := by simp [go_sem]
    have hst : (tzero Tryz.prog 42).storable = true := by simp [go_sem]
    have hzl : (tzero Tryz.prog 42).cells.length = 3 := by simp [go_sem]
    have hb : tbytes Tryz.prog 42 ≤ 65536 := by simp [go_sem]
    have hro : roomy (l.length + 1) (tbytes Tryz.prog 42) = true := by simp [roomy, hb]; omega
    simp [builtinS, ht, appendS, hz, hst, hzl, lenS, hfl, hfl2, zOk, hro, tyApp, rowT]
  have fin : ∀ (h' : Hp) (n' : Nat), h' = hset (match (if full then none else some (o, (none : Option SObj))) with | some (j, x) => hset H j x | none => H) n (some (.cells ((l.map Rev.enc).flatMap SV.cells ++ [intE r.id, .str r.author, intE r.time]))) → RetS n h' n' (.sl n 0 3 (l.length + 1) false) (fun v h' n' => v = revsE (l ++ [r]) ∧ h' = hset H o none ∧ n' = n) := fun h' n' e => by
    have hon := hHb o _ hH
    have hcs : ((l ++ [r]).map Rev.enc).flatMap SV.cells = (l.map Rev.enc).flatMap SV.cells ++ [intE r.id, .str r.author, intE r.time] := by simp [Rev.enc, SV.cells]
    refine .inr ⟨1, revsE (l ++ [r]), hset H o none, ?_, Rev.E.imm _ _ _ _, fun j y e2 => ?_, rfl, rfl, rfl⟩
    · have := sl_fz (h' := h') (h := hset H o none) (k := 0) (z := 3) (es := (l ++ [r]).map Rev.enc) (full := false) (full' := false) (o := n) (by rw [hset_ne _ _ (by omega)]; exact ho.none (Nat.le_refl n)) (by simp) (by rw [e, hset_at, hcs]) (Rev.E.size _)
      rw [List.length_map, List.length_append] at this; exact this
    · by_cases e1 : j = o
      · subst e1; rw [hset_at] at e2; cases e2
      · rw [hset_ne _ _ e1] at e2
        refine ⟨?_, ho j y e2⟩
        have := hHb j y e2
        rw [e, hset_ne _ _ (by omega)]
        cases full
        · simp only [Bool.false_eq_true, if_false]; rw [hset_ne _ _ e1]; exact e2
        · exact e2
  refine SP_of ?_
  have w : ¬ l.length = 0 := by simpa using hl0
  simp [go_sem, hl0]
  rw [hap]
  cases full <;> simp [go_sem] <;> exact fin _ _ (by simp)
def trIn : Tr := (.pure 0 (.pure 2 (.two 1 3 (.one 3 (.one 4 (.one 5 (.pure 6 (.pure 7 .nil))))) (.two 1 4 (.one 4 (.one 5 (.pure 6 (.pure 7 .nil)))) (.one 1 (.one 5 (.pure 6 (.pure 7 .nil))))))))
set_option maxHeartbeats 2000000 in
theorem c45 (l : List Rev) (hl0 : l ≠ []) (hl : l.length < 256) (r : Rev) (h0 : rvCheck l = 0) (h1 : rvErr r = 0) (hb : bsearch (rvAt l r.id) l.length = (l.length, false)) : PC 45 [revsE l, r.enc] (.tup [revsE (l ++ [r]), intE 0]) := by
  intro h n
  refine goS Tryz.func45 rfl (by kernel_rfl) (by kernel_rfl) (by simp [go_sem]) fun ho => ?_
  have hHb : ∀ j y, h j = some y → j < n := fun j y e => (ho j y e).1
  refine SP_mid 1 (α := Unit) (fun _ => [(0, revsE l), (3, .iptr [intE r.id, .str r.author, intE r.time])]) (fun _ => h) (fun _ m => n ≤ m) ?_ (fun _ m hm => ?_)
  · simp [go_sem, Rev.enc, Fz.same]
    exact ⟨ptr_fz (lt_none hHb (Nat.le_refl _)) (hset_at _ _ _), set_keep hHb look_same⟩
  refine SP_midS 0 (α := Unit) (fun _ => [(0, revsE l), (3, .iptr [intE r.id, .str r.author, intE r.time])]) (fun _ => h) (fun _ m => n ≤ m) (SP_of ?_) (fun _ m hm => ?_)
  · simp [go_sem]
    refine PC.use (c71 l (by omega)) ?_
    rw [h0]
    simp [go_sem, Fz.same, hm]
  refine SP_midS 0 (α := Unit) (fun _ => [(0, revsE l), (3, .iptr [intE r.id, .str r.author, intE r.time])]) (fun _ => h) (fun _ m => n ≤ m) (SP_of ?_) (fun _ m hm => ?_)
  · simp [go_sem]
    refine PC.use (by simpa [Rev.enc] using c42 r) ?_
    rw [h1]
    simp [go_sem, Fz.same, hm]
  refine SP_mid 0 (α := Unit) (fun _ => [(0, revsE l), (3, .iptr [intE r.id, .str r.author, intE r.time]), (8, intE l.length), (9, .bool false)]) (fun _ => h) (fun _ m => n ≤ m) ?_ (fun _ m hm => ?_)
  · simp [go_sem]
    refine PC.use (c72 l (by omega) r.id) ?_
    rw [hb]
    simp [go_sem, Fz.same, hm]
  refine SP_midS 0 (α := Unit) (fun _ => [(0, revsE l), (3, .iptr [intE r.id, .str r.author, intE r.time]), (8, intE l.length)]) (fun _ => h) (fun _ m => n ≤ m) (SP_of ?_) (fun _ m hm => ?_)
  · have : ¬ (256 : Int) ≤ l.length := by omega
    simp [go_sem, Fz.same, hm, this]
  refine SP_midS 0 (α := Unit) (fun _ => [(4, revsE (l ++ [r])), (5, intE 0)]) (fun _ => h) (fun _ m => n ≤ m) (SP_tr trIn rfl (by kernel_rfl) (by kernel_rfl) ?_) (fun _ m hm => ?_)
  · have hHm : ∀ j y, h j = some y → j < m := fun j y e => by have := hHb j y e; omega
    simp [go_sem, trIn]
    refine ⟨?_, ?_, ?_⟩
    · refine LC.use (l76 l (by omega)) ?_
      rintro v h' n' ⟨g1, g2, ⟨g3, _⟩ | ⟨o, full, g3, g4, rfl, g5⟩⟩
      · exact absurd (by simpa using g3) hl0
      simp [go_sem]
      have e1 : o ≠ n' := by omega
      refine SC.use (d117 l hl0 (by omega) r (by rw [hset_ne _ _ e1]; exact g5) (hset_at _ _ _) e1) ?_
      rintro v H2 n2 ⟨rfl, rfl, rfl⟩
      simp [go_sem, Fz.same]
      exact ⟨by omega, set_keep (fun j z e => by have := hHm j z e; omega) (set_keep (fun j z e => by have := hHm j z e; omega) g2)⟩
    · refine LC.use (l76 l (by omega)) ?_
      rintro v h' n' ⟨g1, g2, ⟨g3, _⟩ | ⟨o, full, g3, g4, rfl, g5⟩⟩
      · exact absurd (by simpa using g3) hl0
      simp [go_sem]
      have e1 : o ≠ n' := by omega
      refine SC.use (d117 l hl0 (by omega) r (by rw [hset_ne _ _ e1]; exact g5) (hset_at _ _ _) e1) ?_
      rintro v H2 n2 ⟨rfl, rfl, rfl⟩
      simp [go_sem, Fz.same]
      exact ⟨by omega, set_keep (fun j z e => by have := hHm j z e; omega) (set_keep (fun j z e => by have := hHm j z e; omega) g2)⟩
    · refine LC.use (l76 l (by omega)) ?_
      rintro v h' n' ⟨g1, g2, ⟨g3, _⟩ | ⟨o, full, g3, g4, rfl, g5⟩⟩
      · exact absurd (by simpa using g3) hl0
      simp [go_sem]
      refine SC.use (d117 l hl0 (by omega) r g5 (g2 _ _ (hset_at _ _ _)) (by omega)) ?_
      rintro v H2 n2 ⟨rfl, rfl, rfl⟩
      simp [go_sem, Fz.same]
      exact ⟨by omega, set_keep (fun j z e => by have := hHm j z e; omega) fun j z e => g2 _ _ (set_keep hHm look_same j z e)⟩
  refine SP_of ?_
  simp [go_sem]
  exact retIs ho look_same rfl (by rw [closed, closedL, closedL, Rev.E.imm]; rfl)
def droppedB (x : Item) : Bool := (x.kind == 7 && (match x.rows with | [] => true | _ :: _ => false)) || (x.kind == 1 && x.text.size == 0)
theorem droppedB_iff (x : Item) : dropped x ↔ droppedB x = true := by
  unfold dropped droppedB
  cases h : x.rows <;> simp []
def nstepB (out : List Item) (x : Item) : List Item :=
  if droppedB x then out else match out.getLast? with
    | some y => if x.kind = 1 ∧ y.kind = 1 ∧ y.head = x.head then out.dropLast ++ [y.addText x.text] else out ++ [x]
    | none => out ++ [x]
theorem nstepB_eq : normStep = nstepB := by
  funext out x
  unfold normStep nstepB
  by_cases h : dropped x
  · rw [if_pos h, if_pos ((droppedB_iff x).1 h)]
  · rw [if_neg h, if_neg (fun e => h ((droppedB_iff x).2 e))]
    cases out.getLast? <;> rfl
theorem runNormal_B (l : List Item) : runNormal l = (Item.nrmL l).foldl nstepB [] := by rw [runNormal, foldN, nstepB_eq]
def exRev : Rev := ⟨3, ⟨#[65, 110]⟩, 0⟩
def exNew : Rev := ⟨4, ⟨#[65, 110]⟩, 0⟩
def z0 : Head := ⟨[], 0, 0, [], []⟩
def hI (i : Int) : Head := ⟨[], i, 0, [], []⟩
def exT (i : Int) (t : ByteArray) : Item := .mk 1 0 0 t (hI i) [] []
def exA : Item := exT 3 ⟨#[97, 98, 99, 100]⟩
def exB : Item := .mk 2 0 0 ⟨#[]⟩ z0 [] []
def set0 : Settings := ⟨[], [], [], []⟩
def exDoc : Document := ⟨[exA, exB], z0, [exRev], set0⟩
def exSc : Scope := ⟨0, 1, 3⟩
def exP (i : Int) : List Item := [exT 3 ⟨#[97]⟩, exT i ⟨#[98, 99]⟩, exT 3 ⟨#[100]⟩, exB]
theorem rsB (l : List Item) (a b : Int) (r : List Item) (h : runCheck l a b = 0) (hr : (Item.nrmL (runDivide (runDivide l b).1 a).2).foldl nstepB [] = r) : runSlice l a b = (r, 0) := by
  rw [runSlice, if_pos h, runNormal_B, hr]
theorem rs1 : runSlice [exA, exB] 0 1 = ([exT 3 ⟨#[97]⟩], 0) := rsB _ _ _ _ (by kernel_rfl) (by kernel_rfl)
theorem rs2 : runSlice [exA, exB] 1 3 = ([exT 3 ⟨#[98, 99]⟩], 0) := rsB _ _ _ _ (by kernel_rfl) (by kernel_rfl)
theorem rs3 : runSlice [exA, exB] 3 5 = ([exT 3 ⟨#[100]⟩, exB], 0) := rsB _ _ _ _ (by kernel_rfl) (by kernel_rfl)
theorem exLen : runLen [exA, exB] = (5, 0) := by kernel_rfl
section
variable {σ : Type}
theorem wEx (f : σ → SPart → Head × Bool × σ) (revs : List Rev) (s : σ) (r : List Item × σ) (h : ((partsG f (itemsG f exSc 1) false [exT 3 ⟨#[97]⟩] s).1 ++ (partsG f (itemsG f exSc 1) true [exT 3 ⟨#[98, 99]⟩] (partsG f (itemsG f exSc 1) false [exT 3 ⟨#[97]⟩] s).2).1 ++ (partsG f (itemsG f exSc 1) false [exT 3 ⟨#[100]⟩, exB] (partsG f (itemsG f exSc 1) true [exT 3 ⟨#[98, 99]⟩] (partsG f (itemsG f exSc 1) false [exT 3 ⟨#[97]⟩] s).2).2).1,
      (partsG f (itemsG f exSc 1) false [exT 3 ⟨#[100]⟩, exB] (partsG f (itemsG f exSc 1) true [exT 3 ⟨#[98, 99]⟩] (partsG f (itemsG f exSc 1) false [exT 3 ⟨#[97]⟩] s).2).2).2) = r) :
    whole0 f exSc 2 exDoc revs s = (⟨r.1, (f r.2 ⟨z0, false, 1⟩).1, revs, set0⟩, (f r.2 ⟨z0, false, 1⟩).2.2) := by
  have e : itemsG f exSc 2 0 exDoc.flow false s = r := by
    rw [← h]
    show itemsG f exSc 2 0 [exA, exB] false s = _
    rw [itemsG, if_pos (by kernel_rfl), exLen]
    show (_, _) = _
    rw [show exSc.a = 1 from rfl, show exSc.b = 3 from rfl, rs1, rs2, rs3]
  rw [whole0, e]; rfl
end
theorem w1 : whole0 (lookF (cntU 3)) exSc 2 exDoc [exRev] (0, 0) = (⟨exP 3, z0, [exRev], set0⟩, (2, 2)) := by
  rw [wEx _ _ _ (exP 3, (2, 2)) (by kernel_rfl)]; kernel_rfl
theorem w2 : whole0 (lookF fun (s : Unit) _ => s) exSc 2 exDoc [exRev] () = (⟨exP 3, z0, [exRev], set0⟩, ()) := by
  rw [wEx _ _ _ (exP 3, ()) (by kernel_rfl)]; kernel_rfl
theorem w3 : whole0 (renF 3 4) exSc 2 exDoc [exRev, exNew] () = (⟨exP 4, z0, [exRev, exNew], set0⟩, ()) := by
  rw [wEx _ _ _ (exP 4, ()) (by kernel_rfl)]; kernel_rfl
theorem nP3 : runNormal (exP 3) = [exA, exB] := by rw [runNormal_B]; kernel_rfl
theorem nP4 : runNormal (exP 4) = exP 4 := by rw [runNormal_B]; kernel_rfl
theorem n3 : (⟨exP 3, z0, [exRev], set0⟩ : Document).normal = exDoc := by
  rw [Document.normal, Document.norm1, nP3]; kernel_rfl
theorem s34 : sortI [3, 4] = [3, 4] := by unfold sortI; first | exact List.mergeSort_of_sorted (by simp) | exact List.mergeSort_of_pairwise (by simp) | simp [List.mergeSort]
theorem u34 : usedL ⟨exP 4, z0, [exRev, exNew], set0⟩ = [3, 4] := by
  rw [usedL, show ((addU [] (Item.usL (exP 4) ++ z0.all)).filter fun x => decide (x ≠ 0)) = [3, 4] by kernel_rfl, s34]
theorem n4 : (⟨exP 4, z0, [exRev, exNew], set0⟩ : Document).normal = ⟨exP 4, z0, [exRev, exNew], set0⟩ := by
  rw [Document.normal, Document.norm1, nP4, u34]; kernel_rfl
theorem exS1 : spCount 2 exDoc 3 exSc = (2, 2, 0) := by
  rw [spCount, if_neg (of_decide_eq_false (by kernel_rfl)), if_neg (of_decide_eq_false (by kernel_rfl)), if_neg (of_decide_eq_false (by kernel_rfl))]
  rw [show exDoc.revs = [exRev] from rfl, w1]
def exH (h : Head) : Prop := h = z0 ∨ h = hI 3
theorem exH_sized {h : Head} (e : exH h) : h.sized := by
  rcases e with rfl | rfl <;> exact ⟨by simp [z0, hI], by simp [z0, hI], by simp [z0, hI]⟩
theorem exH_thin {h : Head} (e : exH h) : thin h := by
  rcases e with rfl | rfl <;> exact ⟨rfl, rfl, rfl⟩
theorem exH_revs {h : Head} (e : exH h) : h.revs.length ≤ 1048576 := by
  rcases e with rfl | rfl <;> exact of_decide_eq_true (by kernel_rfl)
theorem exLim : lim exH 10 2 exDoc.flow := by
  refine ⟨of_decide_eq_true (by kernel_rfl), of_decide_eq_true (by kernel_rfl), fun x hx => ?_⟩
  have : x = exA ∨ x = exB := by simpa [exDoc] using hx
  rcases this with rfl | rfl
  · exact ⟨.inr rfl, ⟨by simp [exA, exT, Item.flow], of_decide_eq_true (by kernel_rfl), by simp [exA, exT, Item.flow]⟩, by simp [exA, exT, Item.rows], by simp [exA, exT, Item.rows]⟩
  · exact ⟨.inl rfl, ⟨by simp [exB, Item.flow], of_decide_eq_true (by kernel_rfl), by simp [exB, Item.flow]⟩, by simp [exB, Item.rows], by simp [exB, Item.rows]⟩
theorem exT_sized (i : Int) (t : ByteArray) (ht : t.size ≤ 10) : (exT i t).sized := by
  simp [exT, Item.sized, Item.sizedL, Row.sizedL]
  exact ⟨by omega, by simp [hI], by simp [hI], by simp [hI]⟩
theorem exB_sized : exB.sized := by
  simp [exB, Item.sized, Item.sizedL, Row.sizedL]
  exact ⟨of_decide_eq_true (by kernel_rfl), by simp [z0], by simp [z0], by simp [z0]⟩
theorem set0_sized : set0.sized := ⟨by simp [set0], by simp [set0], by simp [set0], by simp [set0], by simp [set0], by simp [set0]⟩
theorem z0_sized : z0.sized := exH_sized (.inl rfl)
theorem exP_sized (i : Int) (revs : List Rev) (h : revs.length ≤ 10) : (⟨exP i, z0, revs, set0⟩ : Document).sized :=
  ⟨by simp [exP], by simp only [exP, Item.sizedL]; exact ⟨exT_sized _ _ (of_decide_eq_true (by kernel_rfl)), exT_sized _ _ (of_decide_eq_true (by kernel_rfl)), exT_sized _ _ (of_decide_eq_true (by kernel_rfl)), exB_sized, trivial⟩, z0_sized, by show revs.length ≤ _; omega, set0_sized⟩
theorem exDoc_sized : exDoc.sized :=
  ⟨by simp [exDoc], by simp only [exDoc, Item.sizedL]; exact ⟨exT_sized _ _ (of_decide_eq_true (by kernel_rfl)), exB_sized, trivial⟩, z0_sized, by simp [exDoc], set0_sized⟩
theorem docFlow_ok {d : Document} (hl : d.flow.length ≤ 1048576) (hs : Item.sizedL d.flow) {id : Int} {fl : Fl} (e : docFlow d id = some fl) : fl.items.length ≤ 1048576 ∧ ∀ x ∈ fl.items, x.text.size ≤ 1048576 := by
  have o := flowsOf_ok hl hs fl (List.mem_of_find?_eq_some e)
  exact ⟨o.1, Item.sizedL_text o.2⟩
theorem k13 : PC 13 [exDoc.enc, intE 3, exSc.enc] (.tup [intE 2, intE 2, intE 0]) := by
  have hr : exDoc.revs = [exRev] := rfl
  have := c13 exH 10 (by omega) (fun h e => ⟨⟨exH_sized e, exH_revs e⟩, exH_sized e⟩) 2 exDoc 3 exSc exLim (.inl rfl) (by simp [exDoc]) (fun fl hfl => ?_) ?_ ?_ ?_
  · rw [exS1] at this; exact this
  · exact docFlow_ok exDoc_sized.len exDoc_sized.flow hfl
  · rw [hr, w1]; exact exP_sized _ _ (by simp)
  · rw [hr, w1, n3]; exact exDoc_sized
  · rw [hr, w1, nP3]; exact of_decide_eq_true (by kernel_rfl)
theorem k42 : PC 42 [exNew.enc] (intE 0) := by
  have := c42 exNew
  rwa [show rvErr exNew = 0 by kernel_rfl] at this
theorem k20 : PC 20 [revsE [exRev], intE 4] (.tup [rvZero.enc, .bool false]) := by
  have := c20 [exRev] (by simp) 4
  have e : rvFind [exRev] 4 = (rvZero, false) := by kernel_rfl
  rw [e] at this; exact this
theorem k45 : PC 45 [revsE [exRev], exNew.enc] (.tup [revsE [exRev, exNew], intE 0]) := c45 [exRev] (by simp) (by simp) exNew (by kernel_rfl) (by kernel_rfl) (by kernel_rfl)
theorem k36 {n0 t : Nat} {H : Hp} {n : Nat} (hn : n0 ≤ n) : SCall Tryz.prog 36 [exDoc.enc, exSc.enc, .fn (.func 43) [] [.ptr t 0]] H n (fun v h' n' => v = .tup [] ∧ h' = H ∧ n' = n) := by
  have hr : exDoc.revs = [exRev] := rfl
  have := d36 (sc := exSc) (v43 n0 t) exH 10 (by omega) (fun h e => ⟨exH_thin e, exH_sized e⟩) 2 exDoc () exLim (.inl rfl) ?_ ?_ ?_ (H := H) hn (by rintro o y ⟨⟩)
  · rw [up0] at this; exact this
  · rw [hr, w2]; exact exP_sized _ _ (by simp)
  · rw [hr, w2, n3]; exact exDoc_sized
  · rw [hr, w2, nP3]; exact of_decide_eq_true (by kernel_rfl)
theorem k49 {n0 : Nat} {H : Hp} {n : Nat} (hn : n0 ≤ n) : SCall Tryz.prog 49 [.fn (.func 46) [] [.iptr [intE 4, .str ⟨#[65, 110]⟩, intE 0], .iptr [intE 3]], exDoc.enc, exSc.enc, revsE [exRev, exNew]] H n (fun v h' n' => v = (⟨exP 4, z0, [exRev, exNew], set0⟩ : Document).enc ∧ h' = H ∧ n' = n) := by
  have := d49 (sc := exSc) (v46 n0 exNew 3) exH 10 (by omega) (fun h e => ⟨⟨exH_sized e, exH_thin e⟩, exH_sized e⟩) 2 exDoc [exRev, exNew] () exLim (.inl rfl) ?_ ?_ ?_ (H := H) hn (by rintro o y ⟨⟩)
  · rw [up0, show exNew.id = 4 from rfl, w3, n4] at this; exact this
  · rw [show exNew.id = 4 from rfl, w3]; exact exP_sized _ _ (by simp)
  · rw [show exNew.id = 4 from rfl, w3, n4]; exact exP_sized _ _ (by simp)
  · rw [show exNew.id = 4 from rfl, w3, nP4]; exact of_decide_eq_true (by kernel_rfl)
set_option maxHeartbeats 4000000 in
theorem k15 : PC 15 [exDoc.enc, intE 3, exSc.enc, exNew.enc] (.tup [(⟨exP 4, z0, [exRev, exNew], set0⟩ : Document).enc, intE 0]) := by
  intro h n
  refine goS Tryz.func15 rfl (by kernel_rfl) (by kernel_rfl) (by simp [go_sem]) fun ho => ?_
  have hHb : ∀ j y, h j = some y → j < n := fun j y e => (ho j y e).1
  obtain ⟨X, hX⟩ : ∃ X : SV, X = .iptr ([itemsE exDoc.flow] ++ exDoc.«end».flat ++ [revsE exDoc.revs] ++ exDoc.settings.flat) := ⟨_, rfl⟩
  obtain ⟨S, hS⟩ : ∃ S : SV, S = .iptr [intE exSc.id, intE exSc.a, intE exSc.b] := ⟨_, rfl⟩
  obtain ⟨V, hV⟩ : ∃ V : SV, V = .iptr [intE exNew.id, .str exNew.author, intE exNew.time] := ⟨_, rfl⟩
  obtain ⟨G, hG⟩ : ∃ G : Hp, G = hset h (n + 4) (some (.cells zDoc)) := ⟨_, rfl⟩
  have hGb : ∀ j y, G j = some y → j < n + 5 := fun j y e => by
    rw [hG] at e; simp only [hset] at e; split at e
    · omega
    · have := hHb j y e; omega
  have hGk : ∀ j y, h j = some y → G j = some y := fun j y e => by rw [hG]; exact set_keep (fun j z e => by have := hHb j z e; omega) look_same j y e
  have hGa : G (n + 4) = some (.cells zDoc) := by rw [hG, hset_at]
  refine SP_mid 1 (α := Unit) (fun _ => [(4, X), (5, .iptr [intE 3]), (6, S), (7, V), (8, .ptr (n + 4) 0)]) (fun _ => G) (fun _ m => n + 5 ≤ m) ?_ (fun _ m hm => ?_)
  · rw [hX, hS, hV, hG]
    simp [go_sem, Scope.enc, Document.enc, Head.flat, Settings.flat, Rev.enc, Fz.same, Nat.add_assoc, zDoc]
    refine ⟨⟨ptr_fz (by simp [hset]; exact ho.none (by omega)) (by simp [hset]), ptr_fz (by simp [hset]; exact ho.none (by omega)) (by simp [hset]), ptr_fz (by simp [hset]; exact ho.none (by omega)) (by simp [hset]), ptr_fz (by simp [hset]; exact ho.none (by omega)) (by simp [hset])⟩, fun j y => ?_⟩
    have := hHb j y; simp only [hset]; grind
  have hcl : ∀ E : Document, closed n (.tup [E.enc, intE 0]) = true := fun E => by simp [Document.enc, Head.flat, Settings.flat, closed, closedL, Item.E.closedL, Prp.E.closedL, Del.E.closedL, Layer.E.closedL, Rev.E.closedL, Style.E.closedL, Lst.E.closedL, Comment.E.closedL, Var.E.closedL]
  refine SP_mid 0 (α := Unit) (fun _ => [(4, X), (5, .iptr [intE 3]), (6, S), (7, V), (8, .ptr (n + 4) 0), (10, intE 2), (11, intE 2), (12, intE 0)]) (fun _ => G) (fun _ m => n + 5 ≤ m) ?_ (fun _ m hm => ?_)
  · rw [hX, hS]
    simp [go_sem, Head.flat, Settings.flat]
    refine PC.use (by simpa [Scope.enc, Document.enc, Head.flat, Settings.flat] using k13) ?_
    simp [go_sem, Fz.same, hm]
  refine SP_midS 0 (α := Unit) (fun _ => [(4, X), (5, .iptr [intE 3]), (6, S), (7, V), (8, .ptr (n + 4) 0), (10, intE 2), (11, intE 2)]) (fun _ => G) (fun _ m => n + 5 ≤ m) (SP_of ?_) (fun _ m hm => ?_)
  · simp [go_sem, Fz.same, hm]
  refine SP_midS 0 (α := Unit) (fun _ => [(4, X), (5, .iptr [intE 3]), (6, S), (7, V), (8, .ptr (n + 4) 0), (10, intE 2), (11, intE 2)]) (fun _ => G) (fun _ m => n + 5 ≤ m) (SP_of ?_) (fun _ m hm => ?_)
  · rw [hV]
    simp [go_sem]
    refine PC.use (by simpa [Rev.enc] using k42) ?_
    simp [go_sem, Fz.same, hm]
  refine SP_midS 0 (α := Unit) (fun _ => [(4, X), (5, .iptr [intE 3]), (6, S), (7, V), (8, .ptr (n + 4) 0), (10, intE 2), (11, intE 2)]) (fun _ => G) (fun _ m => n + 5 ≤ m) (SP_of ?_) (fun _ m hm => ?_)
  · rw [hX, hV]
    simp [go_sem, Head.flat, Settings.flat]
    refine PC.use (by simpa [exNew, exDoc] using k20) ?_
    simp [go_sem, Fz.same, Rev.enc, hset_at, hset_two]
    exact ⟨by omega, set_keep (fun j z e => by have := hGb j z e; omega) look_same⟩
  refine SP_midS 0 (α := Unit) (fun _ => [(4, X), (5, .iptr [intE 3]), (6, S), (7, V), (8, .ptr (n + 4) 0)]) (fun _ => G) (fun _ m => n + 5 ≤ m) (SP_of ?_) (fun _ m hm => ?_)
  · rw [hX]
    simp [go_sem, Head.flat, Settings.flat, Fz.same, hm, exDoc]
  refine SP_mid 0 (α := Nat) (fun k => [(4, X), (5, .iptr [intE 3]), (6, S), (7, V), (8, .ptr (n + 4) 0), (16, .ptr (k + 1) 0)]) (fun k => hset (hset G k (some (.map []))) (k + 1) (some (.cells [.map k]))) (fun k m => n + 5 ≤ k ∧ k + 1 < m) ?_ (fun k m hm => ?_)
  · simp [go_sem, Fz.same, hset_two, hset_at]
    exact ⟨m, ⟨by omega, by omega⟩, rfl, look_same⟩
  obtain ⟨hk1, hk2⟩ := hm
  refine SP_mid 0 (α := Unit) (fun _ => [(4, X), (5, .iptr [intE 3]), (6, S), (7, V), (8, .ptr (n + 4) 0), (16, .ptr (k + 1) 0)]) (fun _ => hset (hset G k (some (.map []))) (k + 1) (some (.cells [.map k]))) (fun _ m => k + 1 < m) ?_ (fun _ m hm => ?_)
  · rw [hX, hS]
    simp [go_sem, Head.flat, Settings.flat]
    refine SC.use (by simpa [Scope.enc, Document.enc, Head.flat, Settings.flat] using k36 (n0 := 0) (Nat.zero_le _)) ?_
    rintro v H' n' ⟨rfl, rfl, rfl⟩
    simp [go_sem, Fz.same, hk2]
  refine SP_midS 0 (α := Unit) (fun _ => [(4, X), (5, .iptr [intE 3]), (6, S), (7, V), (8, .ptr (n + 4) 0)]) (fun _ => G) (fun _ m => n + 5 ≤ m) (SP_of ?_) (fun _ m hm => ?_)
  · simp [go_sem, hset_at]
    refine sem_range (m := k) (es := []) rfl (by simp [go_sem]) (by simp [go_sem]) (by simp [hset]) ?_
    simp [go_sem]
    refine goloop 0 (α := Unit) (fun _ => [(69, .ptr m 0), (4, X), (5, .iptr [intE 3]), (6, S), (7, V), (8, .ptr (n + 4) 0)]) (fun _ => hset G m (some (.iter [] none))) (fun _ m2 => m < m2) (fun _ => 0) () (Nat.lt_succ_self m) ?_ ?_ ?_
    · simp [look, Fz.same]
    · intro o y e
      simp only [hset] at e ⊢
      by_cases e1 : o = m
      · rw [if_pos e1] at e ⊢; exact e
      · rw [if_neg e1] at e ⊢
        have := hGb o y e
        rw [if_neg (by omega), if_neg (by omega), if_neg (by omega)]; exact e
    rintro _ m2 hm2
    simp [go_sem]
    refine sem_next (q := m) (left := []) (last := none) rfl (by simp [go_sem]) (hset_at _ _ _) (fun i hi => absurd hi (by simp)) fun _ => ?_
    simp [go_sem, Fz.same]
    exact ⟨by omega, set_keep (fun j z e => by have := hGb j z e; omega) look_same⟩
  refine SP_mid 0 (α := Unit) (fun _ => [(4, X), (5, .iptr [intE 3]), (6, S), (7, V), (8, .ptr (n + 4) 0), (19, revsE [exRev, exNew]), (12, intE 0)]) (fun _ => G) (fun _ m => n + 5 ≤ m) ?_ (fun _ m hm => ?_)
  · rw [hX, hV]
    simp [go_sem, Head.flat, Settings.flat]
    refine PC.use (by simpa [Rev.enc, exDoc] using k45) ?_
    simp [go_sem, Fz.same, hm]
  refine SP_midS 0 (α := Unit) (fun _ => [(4, X), (5, .iptr [intE 3]), (6, S), (7, V), (8, .ptr (n + 4) 0), (19, revsE [exRev, exNew])]) (fun _ => G) (fun _ m => n + 5 ≤ m) (SP_of ?_) (fun _ m hm => ?_)
  · simp [go_sem, Fz.same, hm]
  refine SP_mid 0 (α := Unit) (fun _ => [(4, X), (6, S), (8, .ptr (n + 4) 0), (19, revsE [exRev, exNew]), (20, .fn (.func 46) [] [V, .iptr [intE 3]])]) (fun _ => G) (fun _ m => n + 5 ≤ m) ?_ (fun _ m hm => ?_)
  · simp [go_sem, Fz.same, hm]
  refine SP_of ?_
  rw [hX, hS, hV]
  simp [go_sem, Head.flat, Settings.flat]
  refine SC.use (by simpa [Scope.enc, Document.enc, Head.flat, Settings.flat, exNew] using k49 (n0 := 0) (Nat.zero_le _)) ?_
  rintro v H' n' ⟨rfl, rfl, rfl⟩
  simp [go_sem, hGa, zDoc, Document.enc, Head.flat, Settings.flat, hset_at]
  exact retIs ho (set_keep (fun j z e => by have := hHb j z e; omega) hGk) rfl (hcl ⟨exP 4, z0, [exRev, exNew], set0⟩)
theorem Document.cl (n : Nat) (E : Document) : closed n E.enc = true := by simp [Document.enc, Head.flat, Settings.flat, closed, closedL, Item.E.closedL, Prp.E.closedL, Del.E.closedL, Layer.E.closedL, Rev.E.closedL, Style.E.closedL, Lst.E.closedL, Comment.E.closedL, Var.E.closedL]
theorem k32 : PC 32 [] exDoc.enc := by
  intro h n
  refine go Tryz.func32 rfl (by kernel_rfl) (by kernel_rfl) (by simp [go_sem]) fun ho => ?_
  have q1 : n ≠ n + 1 := by omega
  have q2 : n ≠ n + 1 + 1 := by omega
  have q3 : n + 1 ≠ n := by omega
  have q4 : n + 1 + 1 ≠ n := by omega
  have q5 : n + 1 ≠ n + 1 + 1 := by omega
  simp [go_sem, hset_at, hset_ne, q2]
  refine retFz 3 ho (fun o y e => ?_) ?_ (Document.cl n exDoc)
  · have := (ho o y e).1
    rw [hset_ne _ _ (by omega), hset_ne _ _ (by omega), hset_ne _ _ (by omega), hset_ne _ _ (by omega)]; exact e
  · have hn1 : h (n + 1) = none := ho.none (by omega)
    have hn2 : h (n + 1 + 1) = none := ho.none (by omega)
    refine .inr ⟨.inr ⟨hn1, by simp, rfl, rfl, _, _, by rw [hset_ne _ _ q3, hset_ne _ _ q5, hset_at], rfl, ?_, ?_⟩, ?_, Fz.same, Fz.same, ?_, ?_, .inr ⟨hn2, by simp, rfl, rfl, _, _, by rw [hset_ne _ _ q4, hset_at], rfl, ?_, ?_⟩, ?_, ?_, ?_, ?_, trivial⟩
    · exact Item.E.size _
    · exact ⟨Fz.same, Fz.same, Fz.same, Fz.same, imm_fz (by simp), Fz.same, Fz.same, imm_fz (by simp), imm_fz (by simp), imm_fz (by simp), imm_fz (by simp), Fz.same, Fz.same, Fz.same, Fz.same, imm_fz (by simp), Fz.same, Fz.same, imm_fz (by simp), imm_fz (by simp), imm_fz (by simp), imm_fz (by simp), trivial⟩
    · exact imm_fz (by simp)
    · exact imm_fz (by simp)
    · exact imm_fz (by simp)
    · exact Rev.E.size _
    · exact ⟨Fz.same, Fz.same, Fz.same, trivial⟩
    · exact imm_fz (by simp)
    · exact imm_fz (by simp)
    · exact imm_fz (by simp)
    · exact imm_fz (by simp)
set_option maxHeartbeats 2000000 in
theorem k11 : PC 11 [] (.bool true) := by
  intro h n
  refine goS Tryz.func11 rfl (by kernel_rfl) (by kernel_rfl) (by simp [go_sem]) fun ho => ?_
  have hHb : ∀ j y, h j = some y → j < n := fun j y e => (ho j y e).1
  obtain ⟨A, hA⟩ : ∃ A : SV, A = .imm 11 ((exP 4).map Item.enc) false := ⟨_, rfl⟩
  obtain ⟨R, hR⟩ : ∃ R : SV, R = revsE [exRev, exNew] := ⟨_, rfl⟩
  refine SP_mid 0 (α := Unit) (fun _ => []) (fun _ => h) (fun _ m => n ≤ m) ?_ (fun _ m hm => ?_)
  · simp [go_sem]
  refine SP_mid 1 (α := Unit) (fun _ => [(1, .iptr [A, propsE [], intE 0, intE 0, delsE [], layersE [], R, stylesE [], listsE [], commentsE [], varsE []]), (2, intE 0)]) (fun _ => h) (fun _ m => n ≤ m) ?_ (fun _ m hm => ?_)
  · simp [go_sem]
    refine PC.use k32 ?_
    simp [go_sem]
    have e : (⟨exP 4, z0, [exRev, exNew], set0⟩ : Document).enc = .agg [A, propsE [], intE 0, intE 0, delsE [], layersE [], R, stylesE [], listsE [], commentsE [], varsE []] := by rw [hA, hR]; rfl
    have k := k15
    rw [e] at k
    refine PC.use (v := .tup [.agg [A, propsE [], intE 0, intE 0, delsE [], layersE [], R, stylesE [], listsE [], commentsE [], varsE []], intE 0]) k ?_
    simp [go_sem, Fz.same, hset_at, hset_two]
    exact ⟨by omega, ptr_fz (lt_none (fun j y e => by have := hHb j y e; omega) (Nat.le_refl m)) (hset_at _ _ _), set_keep (fun j z e => by have := hHb j z e; omega) look_same⟩
  obtain ⟨e0, he0⟩ : ∃ e0 : SV, e0 = (exT 3 ⟨#[97]⟩).enc := ⟨_, rfl⟩
  obtain ⟨e3, he3⟩ : ∃ e3 : SV, e3 = exB.enc := ⟨_, rfl⟩
  obtain ⟨e1, he1⟩ : ∃ e1 : SV, e1 = .agg [intE 1, intE 0, intE 0, .str ⟨#[98, 99]⟩, propsE [], intE 4, intE 0, delsE [], layersE [], itemsE [], rowsE []] := ⟨_, rfl⟩
  obtain ⟨e2, he2⟩ : ∃ e2 : SV, e2 = .agg [intE 1, intE 0, intE 0, .str ⟨#[100]⟩, propsE [], intE 3, intE 0, delsE [], layersE [], itemsE [], rowsE []] := ⟨_, rfl⟩
  have hA2 : A = .imm 11 [e0, e1, e2, e3] false := by rw [hA, he0, he1, he2, he3]; rfl
  obtain ⟨r0, hr0⟩ : ∃ r0 : SV, r0 = exRev.enc := ⟨_, rfl⟩
  obtain ⟨r1, hr1⟩ : ∃ r1 : SV, r1 = exNew.enc := ⟨_, rfl⟩
  have hR2 : R = .imm 3 [r0, r1] false := by rw [hR, hr0, hr1]; rfl
  refine SP_of ?_
  rw [hA2, hR2, he1, he2]
  simp [go_sem]
  exact ret0 ho rfl rfl
theorem fold2 {α β γ σ : Type} (g1 : β × σ → α → β × σ) (g2 : γ × σ → α → γ × σ) : ∀ (l : List α) (a : β) (b : γ) (s : σ), (∀ x ∈ l, ∀ a b s, (g1 (a, s) x).2 = (g2 (b, s) x).2) → (l.foldl g1 (a, s)).2 = (l.foldl g2 (b, s)).2
  | [], _, _, _, _ => rfl
  | x :: l, a, b, s, h => by
    have e := h x (by simp) a b s
    simp only [List.foldl_cons]
    have h1 : g1 (a, s) x = ((g1 (a, s) x).1, (g1 (a, s) x).2) := rfl
    have h2 : g2 (b, s) x = ((g2 (b, s) x).1, (g1 (a, s) x).2) := by rw [e]
    rw [h1, h2]
    exact fold2 g1 g2 l _ _ _ fun y hy => h y (by simp [hy])
section
variable {σ : Type}
def zF (u : σ → SPart → σ) (s : σ) (x : SPart) : Head × Bool × σ := (zHead, true, u s x)
theorem parts_eq (u : σ → SPart → σ) (it : Int → List Item → Bool → σ → List Item × σ) (fl : Int → List Item → Scope → Bool → σ → List Item × σ) (sc : Scope) (mid : Bool) (l : List Item) (s : σ)
    (hk : ∀ x ∈ l, x.kind ≠ 7 → x.rows = []) (h6 : ∀ x ∈ l, x.kind = 6 → ∀ s, (it x.id x.flow mid s).2 = (fl x.id x.flow sc mid s).2)
    (h7 : ∀ x ∈ l, ∀ r ∈ x.rows, ∀ c ∈ r.cells, ∀ s, (it c.id c.flow mid s).2 = (fl c.id c.flow sc mid s).2) : (partsG (lookF u) it mid l s).2 = (llist (zF u) fl sc mid l s).2 := by
  unfold partsG llist
  refine fold2 _ _ l _ _ _ fun x hx a b s => ?_
  simp only [partStep, lookF, lstep, zF, if_true, innerG, lin]
  by_cases k6 : x.kind = 6
  · have : x.rows = [] := hk x hx (by omega)
    simp only [k6, this, lrows, if_true, List.foldl_nil]
    exact h6 x hx k6 _
  · by_cases k7 : x.kind = 7
    · simp only [k7, if_true]
      simp only [show (7 : Int) = 6 ↔ False by decide, if_false]
      unfold rowsG lrows
      refine fold2 _ _ _ _ _ _ fun r hr a b s => ?_
      simp only [rowStep, lrowStep, lrowG, lookF, zF, if_true]
      unfold cellsG lcells
      refine fold2 _ _ _ _ _ _ fun c hc a b s => ?_
      simp only [cellStep, lcellStep, lookF, zF, if_true]
      exact h7 x hx r hr c hc _
    · simp only [k6, k7, if_false, hk x hx k7, lrows, List.foldl_nil]
end
def good (T : Int → Prop) : Nat → List Item → Prop
  | 0, _ => True
  | N + 1, l => ∀ x ∈ l, (x.kind ≠ 7 → x.rows = []) ∧ (x.kind = 6 → T x.id) ∧ good T N x.flow ∧ ∀ r ∈ x.rows, ∀ c ∈ r.cells, T c.id ∧ good T N c.flow
def goodI (T : Int → Prop) (N : Nat) (x : Item) : Prop := (x.kind ≠ 7 → x.rows = []) ∧ (x.kind = 6 → T x.id) ∧ good T N x.flow ∧ ∀ r ∈ x.rows, ∀ c ∈ r.cells, T c.id ∧ good T N c.flow
theorem good_iff {T : Int → Prop} {N : Nat} {l : List Item} : good T (N + 1) l ↔ ∀ x ∈ l, goodI T N x := Iff.rfl
theorem good_nil (T : Int → Prop) (N : Nat) : good T N [] := by cases N <;> simp [good]
theorem goodI_text {T : Int → Prop} {N : Nat} (x : Item) (t : ByteArray) (H : goodI T N x) : goodI T N (.mk x.kind x.code x.id t x.head x.flow x.rows) := by cases x; exact H
theorem good_normal {T : Int → Prop} : ∀ {N : Nat} {l : List Item}, good T N l → good T N (runNormal l)
  | 0, _, _ => trivial
  | N + 1, l, H => by
    rw [good_iff] at H ⊢
    unfold runNormal foldN
    rw [Item.nrmL_eq]
    refine foldN_all (p := goodI T N) goodI_text _ _ (fun y hy => by cases hy) fun y hy => ?_
    obtain ⟨x, hx, rfl⟩ := List.mem_map.1 hy
    obtain ⟨a, b, c, d⟩ := H x hx
    obtain ⟨e0, _, e00, _, e1, e2, e3⟩ := Item.nrm_fields x
    refine ⟨fun h => ?_, fun h => ?_, by rw [e2]; exact good_normal c, ?_⟩
    · rw [e0] at h; rw [e3, a h]; rfl
    · rw [e0] at h; rw [e00]; exact b h
    · rw [e3]; intro r hr
      obtain ⟨r0, h0, rfl⟩ := List.mem_map.1 (List.mem_filter.1 hr).1
      have er : (Row.nrm r0).cells = r0.cells.map Cell.nrm := by cases r0; rw [Row.nrm, Cell.nrmL_eq]; rfl
      rw [er]; intro c hc
      obtain ⟨c0, h1, rfl⟩ := List.mem_map.1 hc
      obtain ⟨u1, u2⟩ := d r0 h0 c0 h1
      have ec : (Cell.nrm c0).id = c0.id ∧ (Cell.nrm c0).flow = runNormal c0.flow := by cases c0; rw [Cell.nrm]; exact ⟨rfl, rfl⟩
      exact ⟨by rw [ec.1]; exact u1, by rw [ec.2]; exact good_normal u2⟩
theorem good_divide {T : Int → Prop} {N : Nat} {l : List Item} (cu : Int) (H : good T (N + 1) l) : good T (N + 1) (runDivide l cu).1 ∧ good T (N + 1) (runDivide l cu).2 :=
  divK_all (p := goodI T N) goodI_text l cu H _ (Nat.le_refl _)
theorem good_slice {T : Int → Prop} {N : Nat} {l : List Item} (a b : Int) (H : good T (N + 1) l) : good T (N + 1) (runSlice l a b).1 := by
  unfold runSlice
  split
  · exact good_normal (good_divide a (good_divide b H).1).2
  · exact good_nil T _
section
variable {σ : Type}
theorem stA (u : σ → SPart → σ) (sc : Scope) : ∀ (N : Nat) (id : Int) (l : List Item) (mid : Bool) (s : σ), good (fun i => i ≠ sc.id ∧ i ≠ -1) N l → (mid = true ∨ (id ≠ sc.id ∧ id ≠ -1)) → (itemsG (lookF u) sc N id l mid s).2 = (lflow (zF u) N id l noScope mid s).2
  | 0, _, _, _, _, _, _ => rfl
  | N + 1, id, l, mid, s, hg, hid => by
    have n1 : ¬ inScope sc id l mid = true := by rcases hid with rfl | ⟨h, _⟩ <;> simp [inScope, *]
    have n2 : ¬ (id = noScope.id ∧ mid = false) := by rcases hid with rfl | ⟨_, h⟩ <;> simp [noScope, *]
    rw [itemsG, lflow, if_neg n1, if_neg n2]
    exact parts_eq u _ _ _ _ l s (fun x hx => (hg x hx).1) (fun x hx k6 s => stA u sc N _ _ _ _ (hg x hx).2.2.1 (.inr ((hg x hx).2.1 k6)))
      (fun x hx r hr c hc s => stA u sc N _ _ _ _ ((hg x hx).2.2.2 r hr c hc).2 (.inr ((hg x hx).2.2.2 r hr c hc).1))
theorem okc_good {m2 : List Int} {T : Int → Prop} : ∀ {N : Nat} {l : List Item}, okc m2 N l → (∀ i ∈ idsN N l, T i) → good T N l
  | 0, _, _, _ => trivial
  | N + 1, l, h, hT => fun x hx => by
    obtain ⟨⟨f6, f7⟩, _, hf, hr⟩ := h x hx
    have hI : ∀ i ∈ idsI N x, T i := fun i hi => hT i (by rw [idsN_succ]; exact List.mem_flatMap.2 ⟨x, hx, hi⟩)
    refine ⟨f7, fun k6 => hI _ (by simp [idsI, k6]), ?_, fun r hr1 c hc => ?_⟩
    · by_cases k6 : x.kind = 6
      · exact okc_good hf fun i hi => hI i (by simp [idsI, k6, hi])
      · rw [f6 k6]; exact good_nil T N
    · by_cases k7 : x.kind = 7
      · have hc2 : ∀ i, i = c.id ∨ i ∈ idsN N c.flow → T i := fun i hi => hI i (by
          simp only [idsI, k7, show ¬ (7 : Int) = 6 by decide, if_false, if_true]
          refine List.mem_cons_of_mem _ (List.mem_flatMap.2 ⟨r, hr1, List.mem_flatMap.2 ⟨c, hc, List.mem_cons.2 hi⟩⟩))
        exact ⟨hc2 _ (.inl rfl), okc_good ((hr r hr1).2 c hc).2 fun i hi => hc2 i (.inr hi)⟩
      · rw [f7 k7] at hr1; cases hr1
theorem nodup_fm {α β : Type} {f : α → List β} {l : List α} (h : (l.flatMap f).Nodup) {x : α} (hx : x ∈ l) : (f x).Nodup := by
  induction l with
  | nil => cases hx
  | cons a l ih =>
    rw [List.flatMap_cons, List.nodup_append] at h
    rcases List.mem_cons.1 hx with rfl | hx
    · exact h.1
    · exact ih h.2.1 hx
theorem mem_fl (p : Place) {l : List Item} {x : Item} (hx : x ∈ l) {f : Fl} (hf : f ∈ Item.fl p x) : f ∈ Item.flL p l := by
  induction l with
  | nil => cases hx
  | cons a l ih =>
    rw [Item.flL, List.mem_append]
    rcases List.mem_cons.1 hx with rfl | hx
    · exact .inl hf
    · exact .inr (ih hx)
theorem mem_flR (p : Place) {l : List Row} {x : Row} (hx : x ∈ l) {f : Fl} (hf : f ∈ Row.fl p x) : f ∈ Row.flL p l := by
  induction l with
  | nil => cases hx
  | cons a l ih =>
    rw [Row.flL, List.mem_append]
    rcases List.mem_cons.1 hx with rfl | hx
    · exact .inl hf
    · exact .inr (ih hx)
theorem mem_flC (p : Place) {l : List Cell} {x : Cell} (hx : x ∈ l) {f : Fl} (hf : f ∈ Cell.fl p x) : f ∈ Cell.flL p l := by
  induction l with
  | nil => cases hx
  | cons a l ih =>
    rw [Cell.flL, List.mem_append]
    rcases List.mem_cons.1 hx with rfl | hx
    · exact .inl hf
    · exact .inr (ih hx)
theorem stB (u : σ → SPart → σ) (sc : Scope) {m2 : List Int} : ∀ (N : Nat) (id : Int) (l : List Item) (p : Place) (s : σ), okc m2 N l → id ∉ idsN N l → (idsN N l).Nodup → (∀ i ∈ idsN N l, 1 ≤ i) → (∀ f ∈ flowsOf id l p, f.id = sc.id → ¬ rangeBad sc f.items) →
    (itemsG (lookF u) sc N id l false s).2 = (lflow (zF u) N id l sc false s).2
  | 0, _, _, _, _, _, _, _, _, _ => rfl
  | N + 1, id, l, p, s, hk, hid, hnd, h1, hb => by
    by_cases e : id = sc.id
    · have hg := okc_good (T := fun i => i ≠ sc.id ∧ i ≠ -1) hk fun i hi => ⟨fun g => hid (by rw [e, ← g]; exact hi), by have := h1 i hi; omega⟩
      have hr := hb ⟨id, l, p⟩ (List.mem_cons_self ..) e
      have i1 : inScope sc id l false = true := by
        unfold rangeBad at hr
        dsimp only at hr
        simp only [inScope, e, decide_true, Bool.true_and, Bool.not_false, Bool.and_eq_true, decide_eq_true_eq]
        omega
      rw [itemsG, lflow, if_pos i1, if_pos ⟨e, rfl⟩]
      have q : ∀ (mid : Bool) (l : List Item) (s : σ), good (fun i => i ≠ sc.id ∧ i ≠ -1) (N + 1) l → (partsG (lookF u) (itemsG (lookF u) sc N) mid l s).2 = (llist (zF u) (lflow (zF u) N) noScope mid l s).2 := fun mid l s hg =>
        parts_eq u _ _ _ _ l s (fun x hx => (hg x hx).1) (fun x hx k6 s => stA u sc N _ _ _ _ (hg x hx).2.2.1 (.inr ((hg x hx).2.1 k6)))
          (fun x hx r hr c hc s => stA u sc N _ _ _ _ ((hg x hx).2.2.2 r hr c hc).2 (.inr ((hg x hx).2.2.2 r hr c hc).1))
      dsimp only
      rw [q false _ _ (good_slice _ _ hg), q true _ _ (good_slice _ _ hg), q false _ _ (good_slice _ _ hg)]
    · have n1 : ¬ inScope sc id l false = true := by simp [inScope, e]
      have n2 : ¬ (id = sc.id ∧ false = false) := by simp [e]
      rw [itemsG, lflow, if_neg n1, if_neg n2]
      have nx : ∀ x ∈ l, (idsI N x).Nodup ∧ ∀ i ∈ idsI N x, 1 ≤ i := fun x hx => ⟨nodup_fm (f := idsI N) hnd hx, fun i hi => h1 i (by rw [idsN_succ]; exact List.mem_flatMap.2 ⟨x, hx, hi⟩)⟩
      refine parts_eq u _ _ _ _ l s (fun x hx => (hk x hx).1.2) (fun x hx k6 s => ?_) (fun x hx r hr c hc s => ?_)
      · obtain ⟨g1, g2⟩ := nx x hx
        simp only [idsI, k6, if_true] at g1 g2
        rw [List.nodup_cons] at g1
        refine stB u sc N _ _ p.inNote s (hk x hx).2.2.1 g1.1 g1.2 (fun i hi => g2 i (List.mem_cons_of_mem _ hi)) fun f hf => hb f (List.mem_cons_of_mem _ (mem_fl p hx ?_))
        cases x; simp only [Item.kind] at k6; rw [Item.fl, if_pos k6]; exact hf
      · have k7 : x.kind = 7 := by
          by_cases k7 : x.kind = 7
          · exact k7
          · rw [(hk x hx).1.2 k7] at hr; cases hr
        obtain ⟨g1, g2⟩ := nx x hx
        simp only [idsI, k7, show ¬ (7 : Int) = 6 by decide, if_false, if_true] at g1 g2
        rw [List.nodup_cons] at g1
        have g3 : (c.id :: idsN N c.flow).Nodup := nodup_fm (f := fun c : Cell => c.id :: idsN N c.flow) (nodup_fm (f := idsR N) g1.2 hr) hc
        rw [List.nodup_cons] at g3
        refine stB u sc N _ _ p.inTable s (((hk x hx).2.2.2 r hr).2 c hc).2 g3.1 g3.2 (fun i hi => g2 i (List.mem_cons_of_mem _ (List.mem_flatMap.2 ⟨r, hr, List.mem_flatMap.2 ⟨c, hc, List.mem_cons_of_mem _ hi⟩⟩))) fun f hf => hb f (List.mem_cons_of_mem _ (mem_fl p hx ?_))
        cases x; simp only [Item.kind] at k7; rw [Item.fl, if_neg (by rw [k7]; decide), if_pos k7]
        refine mem_flR _ hr ?_
        cases r; rw [Row.fl]
        refine mem_flC _ hc ?_
        cases c; exact hf
end
theorem fm_sub {α β γ : Type} {f : α → List β} {g : β → γ} {k : α → List γ} : ∀ {l : List α}, (∀ x ∈ l, ((f x).map g).Sublist (k x)) → ((l.flatMap f).map g).Sublist (l.flatMap k)
  | [], _ => by simp
  | a :: l, h => by
    rw [List.flatMap_cons, List.flatMap_cons, List.map_append]
    exact (h a (by simp)).append (fm_sub fun x hx => h x (by simp [hx]))
theorem flL_fm (p : Place) : ∀ l : List Item, Item.flL p l = l.flatMap (Item.fl p)
  | [] => by rw [Item.flL]; rfl
  | x :: l => by rw [Item.flL, flL_fm p l]; rfl
theorem flLR_fm (p : Place) : ∀ l : List Row, Row.flL p l = l.flatMap (Row.fl p)
  | [] => by rw [Row.flL]; rfl
  | x :: l => by rw [Row.flL, flLR_fm p l]; rfl
theorem flLC_fm (p : Place) : ∀ l : List Cell, Cell.flL p l = l.flatMap (Cell.fl p)
  | [] => by rw [Cell.flL]; rfl
  | x :: l => by rw [Cell.flL, flLC_fm p l]; rfl
theorem fl_ids {hp : Head → Prop} {K : Nat} : ∀ {N : Nat} {l : List Item} (p : Place), lim hp K N l → ((Item.flL p l).map Fl.id).Sublist (idsN N l)
  | N + 1, l, p, H => by
    rw [flL_fm, idsN_succ]
    refine fm_sub fun x hx => ?_
    obtain ⟨_, a, _, b⟩ := H.2.2 x hx
    cases x with
    | mk k c i t h f r =>
      have hI : idsI N (.mk k c i t h f r) = if k = 6 then i :: idsN N f else if k = 7 then i :: r.flatMap (idsR N) else [] := rfl
      have a' : lim hp K N f := a
      have b' : ∀ q ∈ r, hp q.head ∧ q.cells.length ≤ K ∧ ∀ c ∈ q.cells, hp c.head ∧ lim hp K N c.flow := b
      rw [Item.fl, hI]
      by_cases k6 : k = 6
      · rw [if_pos k6, if_pos k6]
        exact (fl_ids p.inNote a').cons_cons _
      · rw [if_neg k6, if_neg k6]
        by_cases k7 : k = 7
        · rw [if_pos k7, if_pos k7]
          refine List.Sublist.cons _ ?_
          rw [flLR_fm]
          refine fm_sub fun r hr => ?_
          cases r with
          | mk hd cs =>
            rw [Row.fl, flLC_fm]
            refine fm_sub (k := fun c : Cell => c.id :: idsN N c.flow) fun c hc => ?_
            have := ((b' _ hr).2.2 c hc).2
            cases c
            rw [Cell.fl]
            exact (fl_ids _ this).cons_cons _
        · rw [if_neg k7, if_neg k7]; exact List.nil_sublist _
theorem nodup_one {α β : Type} {g : α → β} : ∀ {l : List α}, (l.map g).Nodup → ∀ x ∈ l, ∀ y ∈ l, g x = g y → x = y
  | a :: l, h, x, hx, y, hy, e => by
    rw [List.map_cons, List.nodup_cons] at h
    rcases List.mem_cons.1 hx with h1 | h1
    · rcases List.mem_cons.1 hy with h2 | h2
      · rw [h1, h2]
      · exact absurd (by rw [← h1, e]; exact List.mem_map_of_mem h2) h.1
    · rcases List.mem_cons.1 hy with h2 | h2
      · exact absurd (by rw [← h2, ← e]; exact List.mem_map_of_mem h1) h.1
      · exact nodup_one h.2 x h1 y h2 e
theorem uses_eqM {rev : Int} (h0 : rev ≠ 0) (h : Head) : h.uses rev = h.usesM rev := by
  unfold Head.uses Head.usesM Head.revs
  by_cases e : h.ins = 0
  · have e2 : ¬ h.ins = rev := by omega
    rw [if_pos e]
    simp [Bool.decide_or, e2, List.any_eq]
  · rw [if_neg e]
    simp [Bool.decide_or, List.any_eq, eq_comm, Bool.or_assoc]
theorem cnt_eqM {rev : Int} (h0 : rev ≠ 0) : cntU rev = cntM rev := by
  funext s x
  unfold cntU cntM
  rw [uses_eqM h0]
theorem count_eq {hp : Head → Prop} {K N : Nat} {d : Document} (hl : lim hp K N d.flow) (hd : okDoc N d) (rev : Int) (hrev : (rvFind d.revs rev).2 = true → rev ≠ 0) (sc : Scope) : spCount N d rev sc = lawCount N d rev sc := by
  unfold spCount lawCount
  split
  · rfl
  split
  · rfl
  split
  · rfl
  rename_i g1 g2 g3
  have hr := hrev (by simpa using g3)
  have hids : ((docFlows d).map Fl.id).Nodup := by
    have s1 := fl_ids docPlace hl
    have : ((docFlows d).map Fl.id).Sublist (0 :: idsN N d.flow) := s1.cons_cons _
    refine this.nodup (List.nodup_cons.2 ⟨fun h => ?_, hd.nodup⟩)
    have := (hd.ids _ h).1
    omega
  have hst : ∀ s : Int × Int, (itemsG (lookF (cntU rev)) sc N 0 d.flow false s).2 = (lflow (cntF rev) N 0 d.flow sc false s).2 := fun s => by
    rw [cnt_eqM hr]
    refine stB (cntM rev) sc N 0 d.flow docPlace s hd.flow (fun h => by have := (hd.ids _ h).1; omega) hd.nodup (fun i hi => (hd.ids i hi).1) fun f hf e => ?_
    cases hfd : docFlow d sc.id with
    | none =>
      rw [hfd] at g1; simp at g1
    | some g =>
      rw [hfd] at g2
      simp only [Option.map_some, Option.getD_some] at g2
      have hm := List.mem_of_find?_eq_some hfd
      have hi := List.find?_some hfd
      have : f = g := nodup_one hids f hf g hm (by rw [e]; exact (by simpa using hi : g.id = sc.id).symm)
      rw [this]; exact g2
  unfold whole0 lvis0
  dsimp only
  rw [hst]
  simp only [lookF, cntF, cnt_eqM hr]
theorem rvFrom_id {id : Int} : ∀ {l : List Rev}, (rvFrom id l).2 = true → ∃ r ∈ l, r.id = id
  | [], h => by simp [rvFrom] at h
  | r :: l, h => by
    rw [rvFrom] at h
    split at h
    · exact ⟨r, by simp, by assumption⟩
    · obtain ⟨q, h1, h2⟩ := rvFrom_id h
      exact ⟨q, by simp [h1], h2⟩
theorem rvFind_id {l : List Rev} {id : Int} (h : (rvFind l id).2 = true) : ∃ r ∈ l, r.id = id := by
  unfold rvFind at h
  split at h
  · split at h
    · rename_i h1 h2
      have hlt := bsearch_lt _ _ h2
      simp only [bsearch, decide_eq_true_eq] at h2 hlt
      obtain ⟨k, hk⟩ : ∃ k, k = bsGo (rvAt l id) 0 l.length := ⟨_, rfl⟩
      rw [← hk] at h2 hlt
      refine ⟨_, List.getElem_mem hlt, ?_⟩
      have := h2.2
      unfold rvAt at this
      rw [List.getElem?_eq_getElem hlt] at this
      simp only [cmpI] at this
      split at this
      · omega
      · split at this
        · omega
        · omega
    · simp at h
  · exact rvFrom_id h
theorem allE_zero {F : Nat → Int} {n : Nat} (h : allE F n = 0) : ∀ k, k < n → F k = 0 := fun k hk => by
  induction n with
  | zero => omega
  | succ n ih =>
    rw [allE] at h
    split at h
    · rename_i h0
      by_cases e : k = n
      · rw [e]; exact h
      · exact ih h0 (by omega)
    · omega
theorem firstE_zero {e : Int} {l : List Int} (h : firstE (e :: l) = 0) : e = 0 := by
  rw [firstE] at h; split at h <;> assumption
theorem revsErr_ids {l : List Rev} (h : revsErr l = 0) : ∀ r ∈ l, 1 ≤ r.id := fun r hr => by
  unfold revsErr at h
  have hl : ¬ (256 : Int) < l.length := fun g => by simp [firstE, g] at h
  have h2 : allE (revErr l) (min l.length 256) = 0 := by
    have h9 := h
    simp [firstE, hl] at h9
    exact Classical.byContradiction fun g => g (h9 g)
  obtain ⟨i, hi, rfl⟩ := List.getElem_of_mem hr
  have h3 := allE_zero h2 i (by omega)
  unfold revErr at h3
  rw [List.getElem?_eq_getElem hi] at h3
  dsimp only at h3
  have h4 := firstE_zero h3
  unfold incrE at h4
  simp only [List.getElem?_eq_getElem hi] at h4
  split at h4
  · omega
  · rename_i g; simp only [Classical.not_not] at g; exact g.1
theorem count_eq2 {hp : Head → Prop} {K N : Nat} {d : Document} (hl : lim hp K N d.flow) (hd : okDoc N d) (rev : Int) (sc : Scope) : spCount N d rev sc = lawCount N d rev sc :=
  count_eq hl hd rev (fun h => by
    obtain ⟨r, h1, h2⟩ := rvFind_id h
    have := revsErr_ids hd.revs r h1
    omega) sc
def hpS (m2 : List Int) (h : Head) : Prop := h.sized ∧ headOK m2 h
theorem texts_few : ∀ (l : List Item), (∀ x ∈ l, x.text.size ≤ 1000) → textsL l ≤ l.length * 1000
  | [], _ => by simp [textsL]
  | x :: l, h => by
    have h1 := texts_few l fun y hy => h y (by simp [hy])
    have h2 := h x (by simp)
    have e : textsL (x :: l) = x.text.size + textsL l := by simp [textsL]
    simp only [List.length_cons]; omega
theorem few_lim {m2 : List Int} {B : Nat} : ∀ {N : Nat} {l : List Item}, lim Head.sized B N l → few N l → okc m2 N l → lim (hpS m2) 150000 N l
  | 0, _, h, _, _ => h.elim
  | N + 1, l, hl, hf, hk => by
    obtain ⟨_, _, h3⟩ := lim_iff.1 hl
    obtain ⟨f1, f2⟩ := hf
    refine lim_iff.2 ⟨by omega, ?_, fun x hx => ?_⟩
    · have := texts_few l fun x hx => (f2 x hx).1.1
      omega
    · obtain ⟨a1, a2, a3, a4⟩ := h3 x hx
      obtain ⟨⟨b1, b2⟩, b3, b4⟩ := f2 x hx
      obtain ⟨c1, c2, c3, c4⟩ := hk x hx
      refine ⟨⟨a1, c2⟩, few_lim a2 b3 c3, by omega, fun r hr => ?_⟩
      obtain ⟨u1, u2, u3⟩ := a4 r hr
      obtain ⟨v1, v2⟩ := b4 r hr
      obtain ⟨w1, w2⟩ := c4 r hr
      exact ⟨⟨u1, w1⟩, by omega, fun c hc => ⟨⟨(u3 c hc).1, (w2 c hc).1⟩, few_lim (u3 c hc).2 (v2 c hc) (w2 c hc).2⟩⟩
section
variable {hp : Head → Prop} {σ : Type} {f : σ → SPart → Head × Bool × σ} {K N : Nat}
theorem lflow_lim (hf : ∀ s p, hp p.head → hp (f s p).1) : ∀ (N : Nat) (id : Int) (l : List Item) (sc : Scope) (mid : Bool) (s : σ), lim hp K N l → lim hp (3 * K) N (lflow f N id l sc mid s).1
  | 0, _, _, _, _, _, h => h.elim
  | N + 1, id, l, sc, mid, s, h => by
    have parts : ∀ sc mid l s, lim hp K (N + 1) l → (llist f (lflow f N) sc mid l s).1.length ≤ K ∧ textsL (llist f (lflow f N) sc mid l s).1 ≤ K ∧ ∀ x ∈ (llist f (lflow f N) sc mid l s).1, limI hp (3 * K) N x := by
      clear h
      intro sc mid l s h
      obtain ⟨h1, h2, h3⟩ := lim_iff.1 h
      have cells : ∀ (cs : List Cell) s, cs.length ≤ K → (∀ c ∈ cs, hp c.head ∧ lim hp K N c.flow) → (lcells f (lflow f N) sc mid cs s).1.length ≤ 3 * K ∧ ∀ c ∈ (lcells f (lflow f N) sc mid cs s).1, hp c.head ∧ lim hp (3 * K) N c.flow := fun cs s hl hc => by
        refine ⟨by have := lcells_len (f := f) (fl := lflow f N) (sc := sc) (mid := mid) cs ([], s); simp at this; unfold lcells; omega, ?_⟩
        refine foldl_all _ (fun q : List Cell × σ => ∀ c ∈ q.1, hp c.head ∧ lim hp (3 * K) N c.flow) cs _ (by simp) fun q c hm hq => ?_
        unfold lcellStep
        dsimp only
        split
        · exact all_push hq ⟨hf _ _ (hc c hm).1, lflow_lim hf N _ _ _ _ _ (hc c hm).2⟩
        · exact hq
      have rows : ∀ (rs : List Row) s, rs.length ≤ K → (∀ r ∈ rs, hp r.head ∧ r.cells.length ≤ K ∧ ∀ c ∈ r.cells, hp c.head ∧ lim hp K N c.flow) → (lrows f (lflow f N) sc mid rs s).1.length ≤ 3 * K ∧ ∀ r ∈ (lrows f (lflow f N) sc mid rs s).1, hp r.head ∧ r.cells.length ≤ 3 * K ∧ ∀ c ∈ r.cells, hp c.head ∧ lim hp (3 * K) N c.flow := fun rs s hl hc => by
        refine ⟨by have := lrows_len (f := f) (fl := lflow f N) (sc := sc) (mid := mid) rs ([], s); simp at this; unfold lrows; omega, ?_⟩
        refine foldl_all _ (fun q : List Row × σ => ∀ r ∈ q.1, hp r.head ∧ r.cells.length ≤ 3 * K ∧ ∀ c ∈ r.cells, hp c.head ∧ lim hp (3 * K) N c.flow) rs _ (by simp) fun q r hm hq => ?_
        unfold lrowStep
        dsimp only
        split
        · exact all_push hq ⟨hf _ _ (hc r hm).1, cells _ _ (hc r hm).2.1 (hc r hm).2.2⟩
        · exact hq
      refine ⟨by have := llist_len (f := f) (fl := lflow f N) (sc := sc) (mid := mid) l ([], s); simp at this; unfold llist; omega, ?_, ?_⟩
      · have : ∀ (l : List Item) (q : List Item × σ), textsL (l.foldl (lstep f (lflow f N) sc mid) q).1 ≤ textsL q.1 + textsL l := by
          intro l
          induction l with
          | nil => intro q; simp
          | cons a l ih =>
            intro q
            have e : textsL (a :: l) = a.text.size + textsL l := by simp [textsL]
            have h1 := ih (lstep f (lflow f N) sc mid q a)
            have h2 : textsL (lstep f (lflow f N) sc mid q a).1 ≤ textsL q.1 + a.text.size := by
              unfold lstep; dsimp only; split
              · rw [textsL_append]; simp [textsL, Item.put, Item.text]
              · omega
            simp only [List.foldl_cons]; omega
        have := this l ([], s)
        have e0 : textsL [] = 0 := rfl
        unfold llist; simp only [e0] at this; omega
      · refine foldl_all _ (fun q : List Item × σ => ∀ x ∈ q.1, limI hp (3 * K) N x) l _ (by simp) fun q x hm hq => ?_
        obtain ⟨a1, a2, a3, a4⟩ := h3 x hm
        unfold lstep
        dsimp only
        split
        · refine all_push hq ?_
          have m3 : K ≤ 3 * K := by omega
          have up : lim hp (3 * K) N x.flow := a2.mono (fun _ h => h) m3
          refine ⟨hf _ _ a1, ?_, rows _ _ a3 a4⟩
          show lim hp (3 * K) N (lin (lflow f N) sc mid x _).1
          unfold lin
          split
          · exact lflow_lim hf N _ _ _ _ _ a2
          · exact up
        · exact hq
    rw [lflow]
    split
    · have p1 := parts noScope false _ s (lim_slice 0 sc.a h)
      generalize llist f (lflow f N) noScope false (runSlice l 0 sc.a).1 s = q1 at p1 ⊢
      have p2 := parts noScope true _ q1.2 (lim_slice sc.a sc.b h)
      dsimp only
      generalize llist f (lflow f N) noScope true (runSlice l sc.a sc.b).1 q1.2 = q2 at p2 ⊢
      have p3 := parts noScope false _ q2.2 (lim_slice sc.b (runLen l).1 h)
      generalize llist f (lflow f N) noScope false (runSlice l sc.b (runLen l).1).1 q2.2 = q3 at p3 ⊢
      refine lim_iff.2 ⟨by simp; omega, by simp only [textsL_append]; omega, fun x hx => ?_⟩
      simp only [List.mem_append] at hx
      rcases hx with (hx | hx) | hx
      · exact p1.2.2 x hx
      · exact p2.2.2 x hx
      · exact p3.2.2 x hx
    · have p1 := parts sc mid _ s h
      exact lim_iff.2 ⟨by omega, by omega, p1.2.2⟩
end
theorem all_mem {m2 : List Int} {h : Head} (H : hpS m2 h) : ∀ u ∈ h.all, u ∈ 0 :: m2 := fun u hu => by
  have k := H.2
  simp only [Head.all, List.mem_cons, List.mem_append, List.mem_map] at hu ⊢
  rcases hu with rfl | ⟨x, hx, rfl⟩ | ⟨x, hx, rfl⟩
  · rcases k.ins with e | e
    · exact .inl e
    · exact .inr e
  · exact .inr (k.dels x hx)
  · exact .inr (k.layers x hx)
theorem docFacts {m2 : List Int} {K N : Nat} {W : Document} (hm : m2.length ≤ 1000) (hK : K ≤ 1048576) (h : lim (hpS m2) K N W.flow) (he : hpS m2 W.«end») (hr : W.revs.length ≤ 1048576) (hs : W.settings.sized) :
    W.sized ∧ W.normal.sized ∧ (addU [] (Item.usL (runNormal W.flow) ++ W.«end».all)).length ≤ 1048576 := by
  have h1 := h.sized (fun x g => g.1) hK
  have h2 := (lim_normal h).sized (fun x g => g.1) hK
  refine ⟨⟨h1.1, h1.2, he.1, hr, hs⟩, ⟨h2.1, h2.2, he.1, ?_, hs⟩, ?_⟩
  · exact Nat.le_trans (List.length_filter_le _ _) hr
  · refine Nat.le_trans (addU_le (L := 0 :: m2) fun u hu => ?_) (by simp only [List.length_cons]; omega)
    rcases List.mem_append.1 hu with hu | hu
    · exact lim_us (fun h g => all_mem g) (lim_normal h) u hu
    · exact all_mem he u hu
theorem hpS_z (m2 : List Int) : hpS m2 zHead := ⟨⟨by simp [zHead], by simp [zHead], by simp [zHead]⟩, ⟨.inl rfl, by simp [zHead], by simp [zHead], by simp [zHead], by simp [zHead]⟩⟩
theorem hpS_revs {m2 : List Int} {h : Head} (g : hpS m2 h) : h.revs.length ≤ 1048576 := by
  have a := g.2.dlen
  have b := g.2.llen
  unfold Head.revs
  split <;> simp <;> omega
theorem revsErr_len {l : List Rev} (h : revsErr l = 0) : l.length ≤ 256 := by
  unfold revsErr at h
  have hl : ¬ (256 : Int) < l.length := fun g => by simp [firstE, g] at h
  omega
theorem counts {B N : Nat} (_hB : B ≤ 1048576) {d : Document} (hl : lim Head.sized B N d.flow) (he : d.«end».sized) (hs : d.settings.sized) (hd : okDoc N d) (hf : few N d.flow) (rev : Int) (sc : Scope) :
    ∃ a b e : Int, PC 13 [d.enc, intE rev, sc.enc] (.tup [intE a, intE b, intE e]) ∧ PC 14 [d.enc, intE rev, sc.enc] (.tup [intE a, intE b, intE e]) := by
  obtain ⟨m2, hm2⟩ : ∃ m2, m2 = addU [] (d.revs.map (·.id)) := ⟨_, rfl⟩
  have hrl := revsErr_len hd.revs
  have hm : m2.length ≤ 1000 := by
    have := addU_len (d.revs.map (·.id)) []
    rw [hm2]; simp at this; omega
  have h1 : lim (hpS m2) 150000 N d.flow := few_lim hl hf (hm2 ▸ hd.flow)
  have h2 : hpS m2 d.«end» := ⟨he, hm2 ▸ hd.end⟩
  have hsz := h1.sized (fun x g => g.1) (by omega)
  have hfl : ∀ fl, docFlow d sc.id = some fl → fl.items.length ≤ 1048576 ∧ ∀ x ∈ fl.items, x.text.size ≤ 1048576 := fun fl e => by
    have o := flowsOf_ok hsz.1 hsz.2 fl (List.mem_of_find?_eq_some e)
    exact ⟨o.1, Item.sizedL_text o.2⟩
  have w1 := docFacts (W := (whole0 (lookF (cntU rev)) sc N d d.revs (0, 0)).1) hm (by omega) (itemsG_lim (fun s p g => g) N 0 d.flow false (0, 0) h1).1 h2 (by show d.revs.length ≤ _; omega) hs
  have w2 := docFacts (W := (lvis0 (cntF rev) sc N d (0, 0)).1) hm (by omega) (lflow_lim (fun s p _ => hpS_z m2) N 0 d.flow sc false (0, 0) h1) (hpS_z m2) (by simp [lvis0]) hs
  refine ⟨(spCount N d rev sc).1, (spCount N d rev sc).2.1, (spCount N d rev sc).2.2, ?_, ?_⟩
  · exact c13 (hpS m2) 150000 (by omega) (fun h g => ⟨⟨g.1, hpS_revs g⟩, g.1⟩) N d rev sc h1 h2 (by omega) hfl w1.1 w1.2.1 w1.2.2
  · rw [count_eq2 hl hd rev sc]
    exact c14n (hpS m2) 150000 (by omega) (fun h g => g.1) N d rev sc h1 h2 (by omega) hfl w2.1 w2.2.1 w2.2.2
structure Cut where
  rev : Int
  sc : Scope
  next : Rev
def Cut.enc (c : Cut) : SV := .agg [intE c.rev, intE c.sc.id, intE c.sc.a, intE c.sc.b, intE c.next.id, .str c.next.author, intE c.next.time]
set_option maxHeartbeats 2000000 in
theorem splitCounts (d : Document) (c : Cut) {B N : Nat} (hB : B ≤ 1048576) (hd : d.sizedT B N) : PC 3 [d.enc, c.enc] (.bool true) := by
  intro h n
  refine goS Tryz.func3 rfl (by kernel_rfl) (by kernel_rfl) (by simp [go_sem]) fun ho => ?_
  have hHb : ∀ j y, h j = some y → j < n := fun j y e => (ho j y e).1
  obtain ⟨X, hX⟩ : ∃ X : SV, X = .iptr ([itemsE d.flow] ++ d.«end».flat ++ [revsE d.revs] ++ d.settings.flat) := ⟨_, rfl⟩
  obtain ⟨Y, hY⟩ : ∃ Y : SV, Y = .iptr [intE c.rev, intE c.sc.id, intE c.sc.a, intE c.sc.b, intE c.next.id, .str c.next.author, intE c.next.time] := ⟨_, rfl⟩
  refine SP_mid 1 (α := Unit) (fun _ => [(2, X), (3, Y)]) (fun _ => h) (fun _ m => n ≤ m) ?_ (fun _ m hm => ?_)
  · rw [hX, hY]
    simp [go_sem, Document.enc, Cut.enc, Head.flat, Settings.flat]
    exact ⟨by omega, ⟨ptr_fz (ho.none (by omega)) (by simp [hset]), ptr_fz (ho.none (by omega)) (by simp [hset])⟩, fun j y e => by have := hHb j y e; simp only [hset]; grind⟩
  refine SP_midS 0 (α := Unit) (fun _ => [(2, X), (3, Y)]) (fun _ => h) (fun b m => n ≤ m ∧ okDoc N d ∧ few N d.flow) ?_ (fun _ m hm => ?_)
  · refine SP_mid 0 (α := Bx) (fun b => [(2, X), (3, Y), (17, .bool b.b)]) (fun _ => h) (fun b m => n ≤ m ∧ (b.b = false → okDoc N d ∧ few N d.flow)) ?_ (fun b m hm => ?_)
    · rw [hX]
      simp [go_sem, Head.flat, Settings.flat]
      refine PC.use k11 ?_
      simp [go_sem]
      refine TC.use (by simpa [Document.enc, Head.flat, Settings.flat] using t12s d hB hd) ?_
      rintro v ⟨b, rfl, hb⟩
      simp [go_sem, Fz.same, hm]
      exact ⟨⟨!b⟩, fun g => hb (by simpa using g), rfl⟩
    obtain ⟨b⟩ := b
    obtain ⟨hm, hb⟩ := hm
    dsimp only at hb ⊢
    cases b with
    | true =>
      refine SP_of ?_
      simp [go_sem]
      refine PC.use k11 ?_
      simp [go_sem]
      exact ret0 ho rfl rfl
    | false =>
      refine SP_of ?_
      simp [go_sem, Fz.same, hm]
      exact hb rfl
  obtain ⟨hm, h1, h2⟩ := hm
  obtain ⟨x, y, e, c1, c2⟩ := counts hB hd.flow hd.end hd.settings.tosized h1 h2 c.rev c.sc
  refine SP_of ?_
  rw [hX, hY]
  simp [go_sem, Head.flat, Settings.flat]
  refine PC.use (by simpa [Document.enc, Scope.enc, Head.flat, Settings.flat] using c1) ?_
  simp [go_sem]
  refine PC.use (by simpa [Document.enc, Scope.enc, Head.flat, Settings.flat] using c2) ?_
  simp [go_sem]
  exact ret0 ho rfl rfl
def cx0 (w : World) : Cx := ⟨fun _ => none, fun _ => False, w⟩
def BB : Nat := 1048576
section
variable {H : Type} (enc : TypeId × Value → H) (P : Program) (w : World) (base : Nat) (spare : Nat → Bool) (held : Bool)
variable {α β : Type}
def Rd (k : Nat) (e : TypeId) (F : α → List SV) (z : Nat) (ok : α → Prop) (μ : α → Nat) : Prop :=
  ∀ cs x, DataW.trod enc P w base spare held k e cs = some x → Rows.uptoBulk x.1 ≤ BB → ∃ a, VL (cx0 w) (F a) cs ∧ cs.length = z ∧ (∀ v ∈ cs, v.oneCell' = true) ∧ ok a ∧ μ a + 1 ≤ Rows.uptoBulk x.1
def RdS (n : Nat) (L : Nat) (fs : List Field) (o : Nat) (F : α → List SV) (ok : α → Prop) (μ : α → Nat) : Prop :=
  ∀ (cs : List Value) (xs : List (DataW H × List MemPlace)), cs.length = L → xs.length = fs.length → (∀ (i : Nat) (f : Field), fs[i]? = some f → DataW.trod enc P w base spare held n f.type ((cs.drop f.offset).take (P.cellsOf f.type)) = xs[i]?) →
    Rows.uptoBulkAll (xs.map (·.1)) ≤ BB → ∃ b, VL (cx0 w) (F b) (cs.drop o) ∧ (∀ v ∈ cs.drop o, v.oneCell' = true) ∧ ok b ∧ μ b ≤ Rows.uptoBulkAll (xs.map (·.1))
variable {enc P w base spare held}
theorem VL_app {c : Cx} {a b : List SV} {x y : List Value} (h : VL c a x) (g : VL c b y) : VL c (a ++ b) (x ++ y) := VL_iff.2 (All2.append (VL_iff.1 h) (VL_iff.1 g))
theorem RdS.nil {n L : Nat} : RdS enc P w base spare held n L [] L (fun _ : Unit => []) (fun _ => True) (fun _ => 0) := fun cs xs h1 h2 _ _ => by
  have : cs.drop L = [] := List.drop_eq_nil_of_le (by omega)
  exact ⟨(), by rw [this, VL], by rw [this]; simp, trivial, Nat.zero_le _⟩
theorem RdS.cons {n L : Nat} {f : Field} {fs : List Field} {o z : Nat} {F1 : α → List SV} {F2 : β → List SV} {ok1 : α → Prop} {ok2 : β → Prop} {μ1 : α → Nat} {μ2 : β → Nat} (h1 : Rd enc P w base spare held n f.type F1 z ok1 μ1) (hz : P.cellsOf f.type = z) (ho : f.offset = o)
    (h2 : RdS enc P w base spare held n L fs (o + z) F2 ok2 μ2) : RdS enc P w base spare held n L (f :: fs) o (fun p : α × β => F1 p.1 ++ F2 p.2) (fun p => ok1 p.1 ∧ ok2 p.2) (fun p => μ1 p.1 + μ2 p.2) := fun cs xs g1 g2 g3 g4 => by
  cases xs with
  | nil => simp at g2
  | cons x xs =>
    simp only [List.map_cons, Rows.uptoBulkAll] at g4
    have e0 := g3 0 f rfl
    rw [ho, hz] at e0
    obtain ⟨a, a1, a2, a3, a4, a5⟩ := h1 _ x (by simpa using e0) (by omega)
    obtain ⟨b, b1, b2, b3, b4⟩ := h2 cs xs g1 (by simpa using g2) (fun i f' hf => by have := g3 (i + 1) f' (by simpa using hf); simpa using this) (by omega)
    have ed : cs.drop o = (cs.drop o).take z ++ cs.drop (o + z) := by rw [← List.drop_drop, List.take_append_drop]
    refine ⟨(a, b), ?_, ?_, ⟨a4, b3⟩, ?_⟩
    · rw [ed]; exact VL_app a1 b1
    · rw [ed]; intro v hv
      rcases List.mem_append.1 hv with hv | hv
      · exact a3 v hv
      · exact b2 v hv
    · simp only [List.map_cons, Rows.uptoBulkAll]; omega
theorem RdS.rd {n L : Nat} {T : TypeId} {fs : Array Field} {F : α → List SV} {ok : α → Prop} {μ : α → Nat} (ht : P.underlying T = some (.struct fs)) (hz : P.cellsOf T = L) (h : RdS enc P w base spare held n L fs.toList 0 F ok μ) : Rd enc P w base spare held (n + 1) T F L ok μ := fun cs x hx hb => by
  obtain ⟨xs, m, hm, rfl, hl, hlen, hf⟩ := DataW.trod_struct ht hx
  obtain rfl : n = m := by omega
  simp only [Rows.uptoBulk] at hb ⊢
  obtain ⟨b, b1, b2, b3, b4⟩ := h cs xs (by omega) (by simpa using hlen) (fun i f e => hf i f (by simpa using e)) (by omega)
  exact ⟨b, by simpa using b1, by omega, by simpa using b2, b3, by omega⟩
theorem Rd.map {k e z : Nat} {F : α → List SV} {ok : α → Prop} {μ : α → Nat} (h : Rd enc P w base spare held k e F z ok μ) (g : α → β) {F' : β → List SV} {ok' : β → Prop} {μ' : β → Nat} (hF : ∀ a, F' (g a) = F a) (hok : ∀ a, ok a → ok' (g a)) (hμ : ∀ a, μ' (g a) ≤ μ a) : Rd enc P w base spare held k e F' z ok' μ' := fun cs x hx hb => by
  obtain ⟨a, a1, a2, a3, a4, a5⟩ := h cs x hx hb
  exact ⟨g a, by rw [hF]; exact a1, a2, a3, hok a a4, by have := hμ a; omega⟩
theorem VL_one {c : Cx} {s : SV} {v : Value} (h : V c s v) : VL c [s] [v] := VL_iff.2 ⟨h, trivial⟩
theorem rd_int {k : Nat} {T : TypeId} (ht : P.underlying T = some (.int .i64)) : Rd enc P w base spare held k T (fun n : Int => [intE n]) 1 (fun _ => True) (fun _ => 0) := fun cs x hx _ => by
  obtain ⟨n, rfl, rfl, _⟩ := DataW.trod_int ht hx
  exact ⟨n, VL_one (by rw [V]), rfl, by simp [Value.oneCell'], trivial, by simp [Rows.uptoBulk]⟩
theorem rd_bool {k : Nat} {T : TypeId} (ht : P.underlying T = some .bool) : Rd enc P w base spare held k T (fun n : Bool => [.bool n]) 1 (fun _ => True) (fun _ => 0) := fun cs x hx _ => by
  obtain ⟨n, rfl, rfl⟩ := DataW.trod_bool ht hx
  exact ⟨n, VL_one (by rw [V]), rfl, by simp [Value.oneCell'], trivial, by simp [Rows.uptoBulk]⟩
theorem rd_str {k : Nat} {T : TypeId} (ht : P.underlying T = some .string) : Rd enc P w base spare held k T (fun s : ByteArray => [.str s]) 1 (fun s => s.size ≤ BB) (fun s => s.size) := fun cs x hx hb => by
  obtain ⟨s, rfl, rfl, _⟩ := DataW.trod_string ht hx
  have e : s.data.toList.length = s.size := by rw [Array.length_toList]; rfl
  simp only [Rows.uptoBulk] at hb ⊢
  exact ⟨s, VL_one (by rw [V]), rfl, by simp [Value.oneCell'], by omega, by omega⟩
def sumμ (μ : α → Nat) (l : List α) : Nat := (l.map fun a => μ a + 1).sum
theorem sumμ_len (μ : α → Nat) : ∀ l : List α, l.length ≤ sumμ μ l
  | [] => by simp
  | a :: l => by have := sumμ_len μ l; simp only [sumμ, List.map_cons, List.sum_cons, List.length_cons] at this ⊢; omega
theorem rd_list {k z : Nat} {e : TypeId} {F : α → List SV} {f : α → SV} {ok : α → Prop} {μ : α → Nat} (hf : ∀ a, f a = .agg (F a)) (hs : ∀ a, (f a).storable = true) (hR : Rd enc P w base spare held k e F z ok μ) (hz : P.cellsOf e = z) (hz0 : 0 < z) (a : Addr) :
    ∀ (ys : List (DataW H × List MemPlace)) (i : Nat), (∀ j, j < ys.length → (w.cells? base (a.add ((i + j) * P.cellsOf e)) (P.cellsOf e)).bind (DataW.trod enc P w base spare held k e) = ys[j]?) → Rows.uptoBulkAll (ys.map (·.1)) ≤ BB →
      ∃ l : List α, ∃ us : List Value, l.length = ys.length ∧ All2 (V (cx0 w)) (l.map f) us ∧ (∀ u ∈ us, u.cells.size = z) ∧ (∀ v ∈ us.flatMap (·.cells.toList), v.oneCell' = true) ∧ (∀ j v, (us.flatMap (·.cells.toList))[j]? = some v → w.cell? (a.add (i * z + j)) = some v) ∧ (∀ a ∈ l, ok a) ∧ sumμ μ l ≤ Rows.uptoBulkAll (ys.map (·.1))
  | [], i, _, _ => ⟨[], [], rfl, trivial, by simp, by simp, by simp, by simp, by simp [sumμ]⟩
  | y :: ys, i, hy, hb => by
    simp only [List.map_cons, Rows.uptoBulkAll] at hb
    have h0 := hy 0 (by simp)
    simp only [List.getElem?_cons_zero, Nat.add_zero] at h0
    obtain ⟨cs, hcs, hx⟩ := Option.bind_eq_some_iff.1 h0
    obtain ⟨_, hcl, hce⟩ := World.cells?_some hcs
    obtain ⟨b, b1, b2, b3, b4, b5⟩ := hR cs y hx (by omega)
    obtain ⟨l, us, l1, l2, l3, l4, l5, l6, l7⟩ := rd_list hf hs hR hz hz0 a ys (i + 1) (fun j hj => by have := hy (j + 1) (by simp; omega); rw [show i + 1 + j = i + (j + 1) by omega]; simpa using this) (by omega)
    have hc : (Value.agg cs.toArray).cells.toList = cs := by simp [Value.cells]
    refine ⟨b :: l, .agg cs.toArray :: us, by simp [l1], ⟨?_, l2⟩, ?_, ?_, ?_, ?_, ?_⟩
    · show V (cx0 w) (f b) (.agg cs.toArray)
      rw [hf, V]; exact ⟨cs, rfl, b1, b3⟩
    · intro u hu
      rcases List.mem_cons.1 hu with rfl | hu
      · simpa [Value.cells] using b2
      · exact l3 u hu
    · intro v hv
      rw [List.flatMap_cons, hc] at hv
      rcases List.mem_append.1 hv with hv | hv
      · exact b3 v hv
      · exact l4 v hv
    · intro j v hv
      rw [List.flatMap_cons, hc] at hv
      by_cases hj : j < z
      · rw [List.getElem?_append_left (by omega)] at hv
        have := hce j (by rw [hz]; exact hj)
        rw [hz, hv] at this
        have e : (a.add (i * z)).add j = a.add (i * z + j) := by
          unfold Addr.add
          by_cases e1 : i * z = 0
          · simp [e1]
          · by_cases e2 : j = 0
            · simp [e1, e2]
            · simp [e1, e2, Nat.add_assoc]
        rw [e] at this; exact this
      · rw [List.getElem?_append_right (by omega)] at hv
        have := l5 (j - cs.length) v hv
        rw [show (i + 1) * z + (j - cs.length) = i * z + j by rw [b2, Nat.add_mul, Nat.one_mul]; omega] at this
        exact this
    · intro q hq
      rcases List.mem_cons.1 hq with rfl | hq
      · exact b4
      · exact l6 q hq
    · simp only [List.map_cons, Rows.uptoBulkAll, sumμ, List.sum_cons] at l7 ⊢; omega
theorem rd_slice {k z : Nat} {e T : TypeId} {F : α → List SV} {f : α → SV} {ok : α → Prop} {μ : α → Nat} (hf : ∀ a, f a = .agg (F a)) (hs : ∀ a, (f a).storable = true) (ht : P.underlying T = some (.slice e)) (hz : P.cellsOf e = z) (hz0 : 0 < z) (hR : ∀ m, m + 1 = k → Rd enc P w base spare held m e F z ok μ) :
    Rd enc P w base spare held k T (fun l : List α => [.imm z (l.map f) false]) 1 (fun l => (∀ a ∈ l, ok a) ∧ sumμ μ l ≤ BB) (sumμ μ) := fun cs x hx hb => by
  rcases DataW.trod_slice ht hx with ⟨rfl, rfl⟩ | ⟨a, len, cap, elems, rest, n, hn, rfl, rfl, _, hlc, _, hel, he, _, _⟩
  · exact ⟨[], VL_one (by rw [V]; exact .inl ⟨rfl, rfl⟩), rfl, by simp [Value.oneCell'], ⟨by simp, by simp [sumμ]⟩, by simp [sumμ, Rows.uptoBulk]⟩
  · simp only [Rows.uptoBulk] at hb ⊢
    obtain ⟨l, us, l1, l2, l3, l4, l5, l6, l7⟩ := rd_list hf hs (hR n hn.symm) hz hz0 a elems 0 (fun j hj => by rw [Nat.zero_add]; exact he j (by omega)) (by omega)
    refine ⟨l, VL_one ?_, rfl, by simp [Value.oneCell'], ⟨l6, by omega⟩, by omega⟩
    rw [V]
    right
    refine ⟨a, cap, us.flatMap (·.cells.toList), by rw [List.length_map, l1, hel], by rw [List.length_map, l1, hel]; exact hlc, by simp, ?_, VE_iff.2 ⟨us, l2, l3, fun s hs' => ?_, rfl⟩⟩
    · have hsp : us.flatMap (·.cells.toList) ≠ [] → a.spot = none := fun hne => by
        obtain ⟨v, r, hv⟩ := List.exists_cons_of_ne_nil hne
        have := World.cell?_spot (l5 0 v (by rw [hv]; rfl))
        simpa [Addr.add] using this
      refine ⟨hsp, fun _ h => h, fun i v hv => ?_, l4⟩
      have h1 := l5 i v hv
      have h2 := hsp (by rintro e; rw [e] at hv; simp at hv)
      rw [Nat.zero_mul, Nat.zero_add] at h1
      have e : a.add i = ⟨a.block, a.off + i, none⟩ := by
        unfold Addr.add
        split
        · subst_vars; cases a; simp_all
        · rfl
      rw [e] at h1; exact h1
    · obtain ⟨q, _, rfl⟩ := List.mem_map.1 hs'
      exact hs q
end
section
variable {H : Type} {enc : TypeId × Value → H} {w : World} {base : Nat} {spare : Nat → Bool} {held : Bool} {α : Type}
theorem Rd.zero {e : TypeId} {F : α → List SV} {z : Nat} {ok : α → Prop} {μ : α → Nat} : Rd enc Tryz.prog w base spare held 0 e F z ok μ := fun cs x hx _ => by simp [DataW.trod] at hx
theorem rInt (k : Nat) : Rd enc Tryz.prog w base spare held k 3 (fun n : Int => [intE n]) 1 (fun _ => True) (fun _ => 0) := rd_int Tryz.underlying3
theorem rStr (k : Nat) : Rd enc Tryz.prog w base spare held k 9 (fun s : ByteArray => [.str s]) 1 (fun s => s.size ≤ BB) (fun s => s.size) := rd_str Tryz.underlying9
theorem rBool (k : Nat) : Rd enc Tryz.prog w base spare held k 4 (fun b : Bool => [.bool b]) 1 (fun _ => True) (fun _ => 0) := rd_bool Tryz.underlying4
def Prp.F (p : Prp) : List SV := [intE p.key, intE p.value]
theorem rPrp : ∀ k, Rd enc Tryz.prog w base spare held k 193 Prp.F 2 (fun _ => True) (fun _ => 0)
  | 0 => Rd.zero
  | k + 1 => (RdS.rd Tryz.underlying193 (by kernel_rfl) (RdS.cons (rInt k) (by kernel_rfl) rfl (RdS.cons (rInt k) (by kernel_rfl) rfl RdS.nil))).map (fun p => ⟨p.1, p.2.1⟩) (fun _ => rfl) (fun _ _ => trivial) (fun _ => Nat.zero_le _)
def Del.F (p : Del) : List SV := [intE p.rev, intE p.move]
theorem rDel : ∀ k, Rd enc Tryz.prog w base spare held k 166 Del.F 2 (fun _ => True) (fun _ => 0)
  | 0 => Rd.zero
  | k + 1 => (RdS.rd Tryz.underlying166 (by kernel_rfl) (RdS.cons (rInt k) (by kernel_rfl) rfl (RdS.cons (rInt k) (by kernel_rfl) rfl RdS.nil))).map (fun p => ⟨p.1, p.2.1⟩) (fun _ => rfl) (fun _ _ => trivial) (fun _ => Nat.zero_le _)
def Layer.F (p : Layer) : List SV := [intE p.rev, intE p.key, intE p.before, .bool p.had]
theorem rLayer : ∀ k, Rd enc Tryz.prog w base spare held k 164 Layer.F 4 (fun _ => True) (fun _ => 0)
  | 0 => Rd.zero
  | k + 1 => (RdS.rd Tryz.underlying164 (by kernel_rfl) (RdS.cons (rInt k) (by kernel_rfl) rfl (RdS.cons (rInt k) (by kernel_rfl) rfl (RdS.cons (rInt k) (by kernel_rfl) rfl (RdS.cons (rBool k) (by kernel_rfl) rfl RdS.nil))))).map (fun p => ⟨p.1, p.2.1, p.2.2.1, p.2.2.2.1⟩) (fun _ => rfl) (fun _ _ => trivial) (fun _ => Nat.zero_le _)
def Rev.F (p : Rev) : List SV := [intE p.id, .str p.author, intE p.time]
theorem rRev : ∀ k, Rd enc Tryz.prog w base spare held k 42 Rev.F 3 (fun r => r.author.size ≤ BB) (fun _ => 0)
  | 0 => Rd.zero
  | k + 1 => (RdS.rd Tryz.underlying42 (by kernel_rfl) (RdS.cons (rInt k) (by kernel_rfl) rfl (RdS.cons (rStr k) (by kernel_rfl) rfl (RdS.cons (rInt k) (by kernel_rfl) rfl RdS.nil)))).map (fun p => (⟨p.1, p.2.1, p.2.2.1⟩ : Rev)) (fun _ => rfl) (fun _ h => h.2.1) (fun _ => Nat.zero_le _)
theorem rProps (k : Nat) : Rd enc Tryz.prog w base spare held k 23 (fun l : List Prp => [propsE l]) 1 (fun l => l.length ≤ BB) (fun _ => 0) :=
  (rd_slice (f := Prp.enc) (F := Prp.F) (fun _ => rfl) Prp.E.st Tryz.underlying23 (by kernel_rfl) (by omega) (fun m _ => rPrp m)).map (fun l => l) (fun _ => rfl) (fun l h => by have := sumμ_len (fun _ => 0) l; have := h.2; omega) (fun _ => Nat.zero_le _)
theorem rDels (k : Nat) : Rd enc Tryz.prog w base spare held k 24 (fun l : List Del => [delsE l]) 1 (fun l => l.length ≤ BB) (fun _ => 0) :=
  (rd_slice (f := Del.enc) (F := Del.F) (fun _ => rfl) Del.E.st Tryz.underlying24 (by kernel_rfl) (by omega) (fun m _ => rDel m)).map (fun l => l) (fun _ => rfl) (fun l h => by have := sumμ_len (fun _ => 0) l; have := h.2; omega) (fun _ => Nat.zero_le _)
theorem rLayers (k : Nat) : Rd enc Tryz.prog w base spare held k 25 (fun l : List Layer => [layersE l]) 1 (fun l => l.length ≤ BB) (fun _ => 0) :=
  (rd_slice (f := Layer.enc) (F := Layer.F) (fun _ => rfl) Layer.E.st Tryz.underlying25 (by kernel_rfl) (by omega) (fun m _ => rLayer m)).map (fun l => l) (fun _ => rfl) (fun l h => by have := sumμ_len (fun _ => 0) l; have := h.2; omega) (fun _ => Nat.zero_le _)
theorem rRevs (k : Nat) : Rd enc Tryz.prog w base spare held k 30 (fun l : List Rev => [revsE l]) 1 (fun l => l.length ≤ BB ∧ ∀ r ∈ l, r.author.size ≤ BB) (fun _ => 0) :=
  (rd_slice (f := Rev.enc) (F := Rev.F) (fun _ => rfl) Rev.E.st Tryz.underlying30 (by kernel_rfl) (by omega) (fun m _ => rRev m)).map (fun l => l) (fun _ => rfl) (fun l h => ⟨by have := sumμ_len (fun _ => 0) l; have := h.2; omega, h.1⟩) (fun _ => Nat.zero_le _)
theorem rMarks : ∀ k, Rd enc Tryz.prog w base spare held k 27 (fun m : Int × Int × List Del × List Layer => [intE m.1, intE m.2.1, delsE m.2.2.1, layersE m.2.2.2]) 4 (fun m => m.2.2.1.length ≤ BB ∧ m.2.2.2.length ≤ BB) (fun _ => 0)
  | 0 => Rd.zero
  | k + 1 => (RdS.rd Tryz.underlying27 (by kernel_rfl) (RdS.cons (rInt k) (by kernel_rfl) rfl (RdS.cons (rInt k) (by kernel_rfl) rfl (RdS.cons (rDels k) (by kernel_rfl) rfl (RdS.cons (rLayers k) (by kernel_rfl) rfl RdS.nil))))).map (fun p => (p.1, p.2.1, p.2.2.1, p.2.2.2.1)) (fun _ => rfl) (fun _ h => ⟨h.2.2.1, h.2.2.2.1⟩) (fun _ => Nat.zero_le _)
theorem rHead : ∀ k, Rd enc Tryz.prog w base spare held k 29 Head.flat 5 Head.sized (fun _ => 0)
  | 0 => Rd.zero
  | k + 1 => (RdS.rd Tryz.underlying29 (by kernel_rfl) (RdS.cons (rProps k) (by kernel_rfl) rfl (RdS.cons (rMarks k) (by kernel_rfl) rfl RdS.nil))).map (fun p => (⟨p.1, p.2.1.1, p.2.1.2.1, p.2.1.2.2.1, p.2.1.2.2.2⟩ : Head)) (fun _ => rfl) (fun _ h => ⟨h.1, h.2.1.1, h.2.1.2⟩) (fun _ => Nat.zero_le _)
def Item.F (x : Item) : List SV := [intE x.kind, intE x.code, intE x.id, .str x.text, propsE x.head.props, intE x.head.ins, intE x.head.move, delsE x.head.dels, layersE x.head.layers, itemsE x.flow, rowsE x.rows]
def Row.F (x : Row) : List SV := [propsE x.head.props, intE x.head.ins, intE x.head.move, delsE x.head.dels, layersE x.head.layers, cellsE x.cells]
def Cell.F (x : Cell) : List SV := [intE x.id, propsE x.head.props, intE x.head.ins, intE x.head.move, delsE x.head.dels, layersE x.head.layers, itemsE x.flow]
def limC (N : Nat) (c : Cell) : Prop := c.head.sized ∧ lim Head.sized BB N c.flow
def limR (N : Nat) (r : Row) : Prop := r.head.sized ∧ r.cells.length ≤ BB ∧ ∀ c ∈ r.cells, limC N c
theorem texts_sum : ∀ l : List Item, textsL l ≤ sumμ (fun x => x.text.size) l
  | [] => by simp [textsL]
  | x :: l => by
    have := texts_sum l
    simp only [textsL, sumμ, List.map_cons, List.sum_cons] at this ⊢; omega
theorem rItems : ∀ k, Rd enc Tryz.prog w base spare held k 22 (fun l : List Item => [itemsE l]) 1 (fun l => ∀ N, k < N → lim Head.sized BB N l) (sumμ fun x => x.text.size) := fun k => by
  induction k using Nat.strongRecOn with
  | ind k ih =>
  have cell : ∀ m, m < k → Rd enc Tryz.prog w base spare held m 171 Cell.F 7 (fun c => ∀ N, m ≤ N → limC N c) (fun _ => 0) := fun m hm => by
    cases m with
    | zero => exact Rd.zero
    | succ m =>
      exact (RdS.rd Tryz.underlying171 (by kernel_rfl) (RdS.cons (rInt m) (by kernel_rfl) rfl (RdS.cons (rHead m) (by kernel_rfl) rfl (RdS.cons (ih m (by omega)) (by kernel_rfl) rfl RdS.nil)))).map (fun p => Cell.mk p.1 p.2.1 p.2.2.1) (fun _ => rfl) (fun _ h N hN => ⟨h.2.1, h.2.2.1 N (by omega)⟩) (fun _ => Nat.zero_le _)
  have cells : ∀ m, m < k → Rd enc Tryz.prog w base spare held m 167 (fun l : List Cell => [cellsE l]) 1 (fun l => l.length ≤ BB ∧ ∀ c ∈ l, ∀ N, m ≤ N → limC N c) (fun _ => 0) := fun m hm =>
    (rd_slice (f := Cell.enc) (F := Cell.F) (ok := fun c => ∀ N, m ≤ N → limC N c) (fun c => Cell.enc_eq c) Cell.E.st Tryz.underlying167 (by kernel_rfl) (by omega) (fun q hq => (cell q (by omega)).map (fun c => c) (fun _ => rfl) (fun _ h N hN => h N (by omega)) (fun _ => Nat.le_refl _))).map (fun l => l) (fun _ => rfl) (fun l h => ⟨by have := sumμ_len (fun _ => 0) l; have := h.2; omega, h.1⟩) (fun _ => Nat.zero_le _)
  have row : ∀ m, m < k → Rd enc Tryz.prog w base spare held m 169 Row.F 6 (fun r => ∀ N, m ≤ N → limR N r) (fun _ => 0) := fun m hm => by
    cases m with
    | zero => exact Rd.zero
    | succ m =>
      exact (RdS.rd Tryz.underlying169 (by kernel_rfl) (RdS.cons (rHead m) (by kernel_rfl) rfl (RdS.cons (cells m (by omega)) (by kernel_rfl) rfl RdS.nil))).map (fun p => Row.mk p.1 p.2.1) (fun _ => rfl) (fun _ h N hN => ⟨h.1, h.2.1.1, fun c hc => h.2.1.2 c hc N (by omega)⟩) (fun _ => Nat.zero_le _)
  have rows : ∀ m, m < k → Rd enc Tryz.prog w base spare held m 68 (fun l : List Row => [rowsE l]) 1 (fun l => l.length ≤ BB ∧ ∀ c ∈ l, ∀ N, m ≤ N → limR N c) (fun _ => 0) := fun m hm =>
    (rd_slice (f := Row.enc) (F := Row.F) (ok := fun c => ∀ N, m ≤ N → limR N c) (fun c => Row.enc_eq c) Row.E.st Tryz.underlying68 (by kernel_rfl) (by omega) (fun q hq => (row q (by omega)).map (fun c => c) (fun _ => rfl) (fun _ h N hN => h N (by omega)) (fun _ => Nat.le_refl _))).map (fun l => l) (fun _ => rfl) (fun l h => ⟨by have := sumμ_len (fun _ => 0) l; have := h.2; omega, h.1⟩) (fun _ => Nat.zero_le _)
  have item : ∀ m, m < k → Rd enc Tryz.prog w base spare held m 70 Item.F 11 (fun x => ∀ N, m ≤ N → limI Head.sized BB N x) (fun x => x.text.size) := fun m hm => by
    cases m with
    | zero => exact Rd.zero
    | succ m =>
      exact (RdS.rd Tryz.underlying70 (by kernel_rfl) (RdS.cons (rInt m) (by kernel_rfl) rfl (RdS.cons (rInt m) (by kernel_rfl) rfl (RdS.cons (rInt m) (by kernel_rfl) rfl (RdS.cons (rStr m) (by kernel_rfl) rfl (RdS.cons (rHead m) (by kernel_rfl) rfl (RdS.cons (ih m (by omega)) (by kernel_rfl) rfl (RdS.cons (rows m (by omega)) (by kernel_rfl) rfl RdS.nil)))))))).map (fun p => Item.mk p.1 p.2.1 p.2.2.1 p.2.2.2.1 p.2.2.2.2.1 p.2.2.2.2.2.1 p.2.2.2.2.2.2.1) (fun _ => rfl)
        (fun _ h N hN => ⟨h.2.2.2.2.1, h.2.2.2.2.2.1 N (by omega), h.2.2.2.2.2.2.1.1, fun r hr => h.2.2.2.2.2.2.1.2 r hr N (by omega)⟩) (fun p => by show p.2.2.2.1.size ≤ _; omega)
  exact (rd_slice (f := Item.enc) (F := Item.F) (ok := fun x => ∀ N, k ≤ N + 1 → limI Head.sized BB N x) (fun c => Item.enc_eq c) Item.E.st Tryz.underlying22 (by kernel_rfl) (by omega) (fun q hq => (item q (by omega)).map (fun c => c) (fun _ => rfl) (fun _ h N hN => h N (by omega)) (fun _ => Nat.le_refl _))).map (fun l => l) (fun _ => rfl) (fun l h N hN => by
    cases N with
    | zero => omega
    | succ N =>
      have h1 := sumμ_len (fun x : Item => x.text.size) l
      have h2 := texts_sum l
      have h3 := h.2
      exact lim_iff.2 ⟨by omega, by omega, fun x hx => h.1 x hx N (by omega)⟩) (fun _ => Nat.le_refl _)
end
section
variable {H : Type} {enc : TypeId × Value → H} {w : World} {base : Nat} {spare : Nat → Bool} {held : Bool} {α : Type}
def Style.F (s : Style) : List SV := [intE s.id, intE s.kind, .str s.name, intE s.base, intE s.next, propsE s.props]
theorem rStyle : ∀ k, Rd enc Tryz.prog w base spare held k 198 Style.F 6 (fun s => s.props.length ≤ BB) (fun _ => 0)
  | 0 => Rd.zero
  | k + 1 => (RdS.rd Tryz.underlying198 (by kernel_rfl) (RdS.cons (rInt k) (by kernel_rfl) rfl (RdS.cons (rInt k) (by kernel_rfl) rfl (RdS.cons (rStr k) (by kernel_rfl) rfl (RdS.cons (rInt k) (by kernel_rfl) rfl (RdS.cons (rInt k) (by kernel_rfl) rfl (RdS.cons (rProps k) (by kernel_rfl) rfl RdS.nil))))))).map
      (fun p => (⟨p.1, p.2.1, p.2.2.1, p.2.2.2.1, p.2.2.2.2.1, p.2.2.2.2.2.1⟩ : Style)) (fun _ => rfl) (fun _ h => h.2.2.2.2.2.1) (fun _ => Nat.zero_le _)
def Level.F (s : Level) : List SV := [intE s.format, intE s.start, .str s.template, intE s.restart]
theorem rLevel : ∀ k, Rd enc Tryz.prog w base spare held k 106 Level.F 4 (fun s => s.template.size ≤ BB) (fun _ => 0)
  | 0 => Rd.zero
  | k + 1 => (RdS.rd Tryz.underlying106 (by kernel_rfl) (RdS.cons (rInt k) (by kernel_rfl) rfl (RdS.cons (rInt k) (by kernel_rfl) rfl (RdS.cons (rStr k) (by kernel_rfl) rfl (RdS.cons (rInt k) (by kernel_rfl) rfl RdS.nil))))).map
      (fun p => (⟨p.1, p.2.1, p.2.2.1, p.2.2.2.1⟩ : Level)) (fun _ => rfl) (fun _ h => h.2.2.1) (fun _ => Nat.zero_le _)
theorem rLevels (k : Nat) : Rd enc Tryz.prog w base spare held k 101 (fun l : List Level => [levelsE l]) 1 (fun l => l.length ≤ BB ∧ ∀ r ∈ l, r.template.size ≤ BB) (fun _ => 0) :=
  (rd_slice (f := Level.enc) (F := Level.F) (fun _ => rfl) Level.E.st Tryz.underlying101 (by kernel_rfl) (by omega) (fun m _ => rLevel m)).map (fun l => l) (fun _ => rfl) (fun l h => ⟨by have := sumμ_len (fun _ => 0) l; have := h.2; omega, h.1⟩) (fun _ => Nat.zero_le _)
def Lst.F (s : Lst) : List SV := [intE s.id, levelsE s.levels]
theorem rLst : ∀ k, Rd enc Tryz.prog w base spare held k 103 Lst.F 2 (fun s => s.levels.length ≤ BB ∧ ∀ r ∈ s.levels, r.template.size ≤ BB) (fun _ => 0)
  | 0 => Rd.zero
  | k + 1 => (RdS.rd Tryz.underlying103 (by kernel_rfl) (RdS.cons (rInt k) (by kernel_rfl) rfl (RdS.cons (rLevels k) (by kernel_rfl) rfl RdS.nil))).map (fun p => (⟨p.1, p.2.1⟩ : Lst)) (fun _ => rfl) (fun _ h => h.2.1) (fun _ => Nat.zero_le _)
def Comment.F (c : Comment) : List SV := [intE c.id, intE c.parent, .str c.author, intE c.time, .str c.text, .bool c.done]
theorem rComment : ∀ k, Rd enc Tryz.prog w base spare held k 115 Comment.F 6 (fun s => s.author.size ≤ BB ∧ s.text.size ≤ BB) (fun _ => 0)
  | 0 => Rd.zero
  | k + 1 => (RdS.rd Tryz.underlying115 (by kernel_rfl) (RdS.cons (rInt k) (by kernel_rfl) rfl (RdS.cons (rInt k) (by kernel_rfl) rfl (RdS.cons (rStr k) (by kernel_rfl) rfl (RdS.cons (rInt k) (by kernel_rfl) rfl (RdS.cons (rStr k) (by kernel_rfl) rfl (RdS.cons (rBool k) (by kernel_rfl) rfl RdS.nil))))))).map
      (fun p => (⟨p.1, p.2.1, p.2.2.1, p.2.2.2.1, p.2.2.2.2.1, p.2.2.2.2.2.1⟩ : Comment)) (fun _ => rfl) (fun _ h => ⟨h.2.2.1, h.2.2.2.2.1⟩) (fun _ => Nat.zero_le _)
def Var.F (c : Var) : List SV := [.str c.name, .str c.value]
theorem rVar : ∀ k, Rd enc Tryz.prog w base spare held k 118 Var.F 2 (fun s => s.name.size ≤ BB ∧ s.value.size ≤ BB) (fun _ => 0)
  | 0 => Rd.zero
  | k + 1 => (RdS.rd Tryz.underlying118 (by kernel_rfl) (RdS.cons (rStr k) (by kernel_rfl) rfl (RdS.cons (rStr k) (by kernel_rfl) rfl RdS.nil))).map (fun p => (⟨p.1, p.2.1⟩ : Var)) (fun _ => rfl) (fun _ h => ⟨h.1, h.2.1⟩) (fun _ => Nat.zero_le _)
theorem rStyles (k : Nat) : Rd enc Tryz.prog w base spare held k 31 (fun l : List Style => [stylesE l]) 1 (fun l => l.length ≤ BB ∧ ∀ r ∈ l, r.props.length ≤ BB) (fun _ => 0) :=
  (rd_slice (f := Style.enc) (F := Style.F) (fun _ => rfl) Style.E.st Tryz.underlying31 (by kernel_rfl) (by omega) (fun m _ => rStyle m)).map (fun l => l) (fun _ => rfl) (fun l h => ⟨by have := sumμ_len (fun _ => 0) l; have := h.2; omega, h.1⟩) (fun _ => Nat.zero_le _)
theorem rLists (k : Nat) : Rd enc Tryz.prog w base spare held k 32 (fun l : List Lst => [listsE l]) 1 (fun l => l.length ≤ BB ∧ ∀ s ∈ l, s.levels.length ≤ BB ∧ ∀ r ∈ s.levels, r.template.size ≤ BB) (fun _ => 0) :=
  (rd_slice (f := Lst.enc) (F := Lst.F) (fun _ => rfl) Lst.E.st Tryz.underlying32 (by kernel_rfl) (by omega) (fun m _ => rLst m)).map (fun l => l) (fun _ => rfl) (fun l h => ⟨by have := sumμ_len (fun _ => 0) l; have := h.2; omega, h.1⟩) (fun _ => Nat.zero_le _)
theorem rComments (k : Nat) : Rd enc Tryz.prog w base spare held k 33 (fun l : List Comment => [commentsE l]) 1 (fun l => l.length ≤ BB ∧ ∀ s ∈ l, s.author.size ≤ BB ∧ s.text.size ≤ BB) (fun _ => 0) :=
  (rd_slice (f := Comment.enc) (F := Comment.F) (fun _ => rfl) Comment.E.st Tryz.underlying33 (by kernel_rfl) (by omega) (fun m _ => rComment m)).map (fun l => l) (fun _ => rfl) (fun l h => ⟨by have := sumμ_len (fun _ => 0) l; have := h.2; omega, h.1⟩) (fun _ => Nat.zero_le _)
theorem rVars (k : Nat) : Rd enc Tryz.prog w base spare held k 34 (fun l : List Var => [varsE l]) 1 (fun l => l.length ≤ BB ∧ ∀ s ∈ l, s.name.size ≤ BB ∧ s.value.size ≤ BB) (fun _ => 0) :=
  (rd_slice (f := Var.enc) (F := Var.F) (fun _ => rfl) Var.E.st Tryz.underlying34 (by kernel_rfl) (by omega) (fun m _ => rVar m)).map (fun l => l) (fun _ => rfl) (fun l h => ⟨by have := sumμ_len (fun _ => 0) l; have := h.2; omega, h.1⟩) (fun _ => Nat.zero_le _)
theorem rSettings : ∀ k, Rd enc Tryz.prog w base spare held k 36 Settings.flat 4 Settings.sizedT (fun _ => 0)
  | 0 => Rd.zero
  | k + 1 => (RdS.rd Tryz.underlying36 (by kernel_rfl) (RdS.cons (rStyles k) (by kernel_rfl) rfl (RdS.cons (rLists k) (by kernel_rfl) rfl (RdS.cons (rComments k) (by kernel_rfl) rfl (RdS.cons (rVars k) (by kernel_rfl) rfl RdS.nil))))).map
      (fun p => (⟨p.1, p.2.1, p.2.2.1, p.2.2.2.1⟩ : Settings)) (fun _ => rfl) (fun _ h => ⟨⟨h.1.1, h.2.1.1, h.2.2.1.1, h.2.2.2.1.1, h.1.2, fun x hx => (h.2.1.2 x hx).1⟩, fun x hx => (h.2.1.2 x hx).2, h.2.2.1.2, h.2.2.2.1.2⟩) (fun _ => Nat.zero_le _)
def Document.F (d : Document) : List SV := [itemsE d.flow] ++ d.«end».flat ++ [revsE d.revs] ++ d.settings.flat
theorem rDocument : ∀ k, Rd enc Tryz.prog w base spare held k 38 Document.F 11 (fun d => d.sizedT BB k) (fun _ => 0)
  | 0 => Rd.zero
  | k + 1 => (RdS.rd Tryz.underlying38 (by kernel_rfl) (RdS.cons (rItems k) (by kernel_rfl) rfl (RdS.cons (rHead k) (by kernel_rfl) rfl (RdS.cons (rRevs k) (by kernel_rfl) rfl (RdS.cons (rSettings k) (by kernel_rfl) rfl RdS.nil))))).map
      (fun p => (⟨p.1, p.2.1, p.2.2.1, p.2.2.2.1⟩ : Document)) (fun _ => rfl) (fun _ h => ⟨h.1 _ (by omega), h.2.1, h.2.2.1.1, h.2.2.1.2, h.2.2.2.1⟩) (fun _ => Nat.zero_le _)
def Scope.F (s : Scope) : List SV := [intE s.id, intE s.a, intE s.b]
theorem rScope : ∀ k, Rd enc Tryz.prog w base spare held k 40 Scope.F 3 (fun _ => True) (fun _ => 0)
  | 0 => Rd.zero
  | k + 1 => (RdS.rd Tryz.underlying40 (by kernel_rfl) (RdS.cons (rInt k) (by kernel_rfl) rfl (RdS.cons (rInt k) (by kernel_rfl) rfl (RdS.cons (rInt k) (by kernel_rfl) rfl RdS.nil)))).map (fun p => (⟨p.1, p.2.1, p.2.2.1⟩ : Scope)) (fun _ => rfl) (fun _ _ => trivial) (fun _ => Nat.zero_le _)
def Cut.F (c : Cut) : List SV := [intE c.rev, intE c.sc.id, intE c.sc.a, intE c.sc.b, intE c.next.id, .str c.next.author, intE c.next.time]
theorem rCut : ∀ k, Rd enc Tryz.prog w base spare held k 44 Cut.F 7 (fun c => c.next.author.size ≤ BB) (fun _ => 0)
  | 0 => Rd.zero
  | k + 1 => (RdS.rd Tryz.underlying44 (by kernel_rfl) (RdS.cons (rInt k) (by kernel_rfl) rfl (RdS.cons (rScope k) (by kernel_rfl) rfl (RdS.cons (rRev k) (by kernel_rfl) rfl RdS.nil)))).map (fun p => (⟨p.1, p.2.1, p.2.2.1⟩ : Cut)) (fun _ => rfl) (fun _ h => h.2.2.1) (fun _ => Nat.zero_le _)
theorem Rd.arg {k e z : Nat} {F : α → List SV} {ok : α → Prop} {μ : α → Nat} (h : Rd enc Tryz.prog w base spare held k e F z ok μ) {fs : Array Field} (ht : Tryz.prog.underlying e = some (.struct fs)) {r : Reach} {b0 : Nat} {v : Value} (hv : Value.okWide Tryz.prog w r b0 e v) {x : DataW H × List MemPlace}
    (hx : DataW.trod enc Tryz.prog w base spare held k e v.cells.toList = some x) (hb : Rows.uptoBulk x.1 ≤ BB) : ∃ a, V (cx0 w) (.agg (F a)) v ∧ ok a := by
  simp only [Value.okWide, ht] at hv
  obtain ⟨cs, rfl, _, _⟩ := hv
  obtain ⟨a, a1, a2, a3, a4, a5⟩ := h _ x hx hb
  refine ⟨a, ?_, a4⟩
  rw [V]
  exact ⟨cs.toList, by simp, by simpa [Value.cells] using a1, by simpa [Value.cells] using a3⟩
end
open Go.ChangeShapes Go.WideShapes Go.ChangeAt Go.RowKit
theorem kidsT : Kids Tryz.prog (· < Tryz.prog.types.size) := kids_rows (by kernel_rfl) (by kernel_rfl)
theorem fullT : ∀ t e, t < Tryz.prog.types.size → Tryz.prog.underlying t = some (.slice e) → 0 < Tryz.prog.cellsOf e := slices_full_of Tryz.prog (by kernel_rfl)
section
variable {H : Type} {enc : TypeId × Value → H}
theorem ext_block {W : World} {c' : Cx} (x : Ext (cx0 W) c') {b : Nat} (h : b < W.heap.size) : c'.w.heap[b]? = W.heap[b]? := (x.keep b h (fun h => h)).2
theorem carryAll {P : Program} {w w' : World} {base : Nat} {sp : Nat → Bool} {held : Bool} (hw : ∀ b, b < w.heap.size → w'.heap[b]? = w.heap[b]?) : ∀ {ts : List TypeId} {vs : List Value} {ds : List (DataW H)} {ps : List MemPlace}, DataW.TrodAll enc P w base sp held ts vs ds ps → (∀ p ∈ ps, p.block < w.heap.size) → DataW.TrodAll enc P w' base sp held ts vs ds ps
  | [], [], [], _, h, _ => h
  | _ :: _, _ :: _, _ :: _, _, ⟨p, q, ⟨n, h1⟩, h2, e⟩, hs => by
    have hp : ∀ x ∈ p, w.sameAt w' x := fun x hx => by
      have hb := hs x (by rw [e]; exact List.mem_append_left _ hx)
      cases x with
      | cell b off => simp only [World.sameAt, World.cell?, hw b hb]
      | map b => exact hw b hb
    exact ⟨p, q, ⟨n, DataW.trod_carry n _ _ _ h1 hp⟩, carryAll hw h2 (fun x hx => hs x (by rw [e]; exact List.mem_append_right _ hx)), e⟩
theorem post_still {f : Func} {s : ChangeSpec} {apart fresh handsOn again : Bool} {W W' : World} {args : Array Value} {v : Value} {ds gs : List (DataW H)} {before : List MemPlace} {x : DataW H}
    (hW : DataW.Whole enc Tryz.prog f.params.toList s.vars apart W args.toList ds gs before) (hv : s.vars = []) (hpt : ∀ t ∈ f.params.toList, t < Tryz.prog.types.size)
    (hos : W'.os = W.os) (hout : W'.output = W.output) (hw : ∀ b, b < W.heap.size → W'.heap[b]? = W.heap[b]?)
    (hfn : s.fn H (ds ++ gs) = { results := [x], args := ds })
    (hres : ∀ (b : Nat) (sp : Nat → Bool) (hd : Bool), DataW.TrodAll enc Tryz.prog W' b sp hd f.resultTypes.toList (v.resultList f.resultTypes.size) [x] [])
    (hok : ∀ (j : Nat) (t : TypeId) (r : Value), f.resultTypes[j]? = some t → (v.resultList f.resultTypes.size)[j]? = some r → Value.okWide Tryz.prog W' .any 0 t r) :
    s.post enc Tryz.prog f apart fresh handsOn again W args v W' := by
  have hlt := hW.lt
  have hW2 := hW
  obtain ⟨p, q, h1, h2, rfl, hz, hn⟩ := hW
  rw [hv] at h2
  obtain ⟨rfl, rfl⟩ := trodVars_none h2
  rw [List.append_nil] at hlt hz hn hW2
  have c1 := carryAll hw h1 hlt
  have c2 : ∀ sp : Nat → Bool, (∀ x ∈ p, sp x.block = true) → DataW.TrodAll enc Tryz.prog W' 0 sp true f.params.toList args.toList ds p := fun sp hs => DataW.TrodAll.respare kidsT fullT hpt c1 hs
  have hvars : ∀ sp : Nat → Bool, DataW.TrodVars enc Tryz.prog W' sp s.vars [] [] := fun sp => by rw [hv]; rfl
  refine ⟨ds, [], p, [], p, [], hW2, by rw [hfn]; exact hres _ _ _, by rw [hfn]; exact c2 _ (fun x hx => by simpa using hlt x hx), by rw [hfn]; exact hvars _, ?_, fun _ => ?_⟩
  · refine ⟨hos, hout, fun i hi => ?_⟩
    rw [hw i hi]
    generalize W.heap[i]? = o
    cases o with
    | none => rfl
    | some b => cases b <;> simp
  · refine ⟨hok, x :: ds, [], p, ⟨p, [], by simpa using trodAll_append (c2 _ (fun _ _ => rfl)) (hres 0 (fun _ => true) true), hvars _, by simp, ?_, hn⟩, fun x hx _ => hx⟩
    intro b off hp
    have hb := hlt _ hp
    have := hz b off hp
    simp only [World.frozen?] at this ⊢
    rw [hw b hb]; exact this
theorem rel0 (W : World) : Rel (fun _ => none) (cx0 W) := ⟨fun _ _ h => (by cases h), fun _ _ _ _ _ _ _ h => (by cases h), fun b => ⟨fun h => h.elim, fun ⟨_, _, _, h, _⟩ => (by cases h)⟩⟩
theorem PC.calls {f : FuncId} {a : List SV} {v : SV} (h : PC f a v) {W : World} {vs : List Value} (hv : All2 (V (cx0 W)) a vs) : Calls Tryz.prog f vs.toArray W fun e W' => ∃ u c', e = .returned u ∧ c'.w = W' ∧ V c' v u ∧ Ext (cx0 W) c' := by
  have := (h (fun _ => none) 0).2 (cx0 W) vs trivial (rel0 W) (fun _ _ => rfl) hv
  refine this.mono ?_
  rintro e W' ⟨u, v', h', n', c', rfl, ⟨rfl, _⟩, hw, hV, _, _, hA⟩
  exact ⟨u, c', rfl, hw, hV, hA.ext⟩
end
end Go.Proofs.YtgakninlhfkkmaaGreat.Sh
