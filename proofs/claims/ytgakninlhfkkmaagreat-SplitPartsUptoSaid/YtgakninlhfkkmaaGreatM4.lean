/- SplitPartsUptoSaid: a part of its proof (part 4 of 14). -/
import Derived.Test.YtgakninlhfkkmaaGreatM3
import Derived.RangeFuncIn
import Derived.Laws.StructEq
namespace Go.Proofs.YtgakninlhfkkmaaGreat.Sh
open Proofs
set_option maxRecDepth 10000
structure IL where
 number : Int
 group : Int
 low : Int
 high : Int
 standard : Int
 name : ByteArray
def IL.enc (k : IL) : SV := .agg [AA k.number, AA k.group, AA k.low, AA k.high, AA k.standard, .str k.name]
theorem c306 (l : List IL) (hl : l.length ≤ 1048576) (t : SV) (g : FuncId) (a b : List SV) (c : Nat → Int) (hc : ∀ (i : Nat) (h : i < l.length), PC g (a ++ [IL.enc l[i], t] ++ b) (AA (c i))) :
 PC 306 [.imm 6 (l.map IL.enc) false, t, .fn (.func g) a b] (.tup [AA (A7 c l.length).1, .bool (A7 c l.length).2]) := by
 intro h n
 refine gq Tryz.func306 rfl fun ho => ?_
 simp [go_sem]
 refine An 1 (α := Nat × Nat) (fun q => [(0, .imm 6 (l.map IL.enc) false), (1, t), (2, .fn (.func g) a b), (8, AA l.length), (9, AA q.1), (10, AA q.2)]) (fun _ => h) (fun q m => q.1 ≤ q.2 ∧ q.2 ≤ l.length ∧ n ≤ m ∧ E6 c 0 l.length = E6 c q.1 q.2) (fun q => q.2 - q.1) (0, l.length) ?_ ?_ AB ?_
 · simp
 · simp [Ai]
 rintro ⟨i, j⟩ m ⟨hij, hj, hnm, hf⟩
 dsimp only at hij hj hf
 by_cases hlt : i < j
 · have hm : (i + j) / 2 < l.length := by omega
   have w1 : IntKind.i64.wrap ((i : Int) + j) = ((i + j : Nat) : Int) := by rw [C8] <;> omega
   have w2 : IntKind.u64.wrap ((i + j : Nat) : Int) = ((i + j : Nat) : Int) := by rw [SL] <;> omega
   have w3 : (((i + j : Nat) : Int)).fdiv 2 = (((i + j) / 2 : Nat) : Int) := by rw [Int.fdiv_eq_ediv_of_nonneg _ (by omega)]; omega
   have w4 : IntKind.i64.wrap (((i + j) / 2 : Nat) : Int) = (((i + j) / 2 : Nat) : Int) := by rw [C8] <;> omega
   have w5 : IntKind.i64.wrap ((((i + j) / 2 : Nat) : Int) + 1) = (((i + j) / 2 + 1 : Nat) : Int) := by rw [C8] <;> omega
   have H := hc _ hm
   simp only [List.append_assoc, List.cons_append, List.nil_append] at H
   rw [E6.eq_def c i j] at hf
   simp [go_sem, hlt, w1, w2, w3, w4, hm, IL.enc, -Int.natCast_add, -Int.natCast_ediv]
   refine PC.use (by simpa [IL.enc] using H) ?_
   by_cases hb : c ((i + j) / 2) < 0
   · simp [hlt, hb] at hf
     simp [go_sem, hb, w5, -Int.natCast_add, -Int.natCast_ediv]
     exact ⟨(i + j) / 2 + 1, j, by omega, ⟨by omega, hj, hnm, hf⟩, Fz.same, Fz.same⟩
   · simp [hlt, hb] at hf
     simp [go_sem, hb, -Int.natCast_add, -Int.natCast_ediv]
     exact ⟨i, (i + j) / 2, by omega, ⟨by omega, by omega, hnm, hf⟩, Fz.same, Fz.same⟩
 · have e : E6 c 0 l.length = i := by rw [hf, E6.eq_def]; simp [hlt]
   by_cases hi : i < l.length
   · have H := hc i hi
     simp only [List.append_assoc, List.cons_append, List.nil_append] at H
     simp [go_sem, hlt, hi, IL.enc]
     refine PC.use (by simpa [IL.enc] using H) ?_
     simp [go_sem]
     exact BC ho rfl (by simp [A7, e, hi]; by_cases h0 : c i = 0 <;> simp [h0])
   · simp [go_sem, hlt, hi]
     exact BC ho rfl (by simp [A7, e, hi])
theorem c131 (l : List BF) (hl : l.length ≤ 1048576) (t : SV) (g : FuncId) (a b : List SV) (c : Nat → Int) (hc : ∀ (i : Nat) (h : i < l.length), PC g (a ++ [BF.enc l[i], t] ++ b) (AA (c i))) :
 PC 131 [.imm 3 (l.map BF.enc) false, t, .fn (.func g) a b] (.tup [AA (A7 c l.length).1, .bool (A7 c l.length).2]) := by
 intro h n
 refine gq Tryz.func131 rfl fun ho => ?_
 simp [go_sem]
 refine An 1 (α := Nat × Nat) (fun q => [(0, .imm 3 (l.map BF.enc) false), (1, t), (2, .fn (.func g) a b), (8, AA l.length), (9, AA q.1), (10, AA q.2)]) (fun _ => h) (fun q m => q.1 ≤ q.2 ∧ q.2 ≤ l.length ∧ n ≤ m ∧ E6 c 0 l.length = E6 c q.1 q.2) (fun q => q.2 - q.1) (0, l.length) ?_ ?_ AB ?_
 · simp
 · simp [Ai]
 rintro ⟨i, j⟩ m ⟨hij, hj, hnm, hf⟩
 dsimp only at hij hj hf
 by_cases hlt : i < j
 · have hm : (i + j) / 2 < l.length := by omega
   have w1 : IntKind.i64.wrap ((i : Int) + j) = ((i + j : Nat) : Int) := by rw [C8] <;> omega
   have w2 : IntKind.u64.wrap ((i + j : Nat) : Int) = ((i + j : Nat) : Int) := by rw [SL] <;> omega
   have w3 : (((i + j : Nat) : Int)).fdiv 2 = (((i + j) / 2 : Nat) : Int) := by rw [Int.fdiv_eq_ediv_of_nonneg _ (by omega)]; omega
   have w4 : IntKind.i64.wrap (((i + j) / 2 : Nat) : Int) = (((i + j) / 2 : Nat) : Int) := by rw [C8] <;> omega
   have w5 : IntKind.i64.wrap ((((i + j) / 2 : Nat) : Int) + 1) = (((i + j) / 2 + 1 : Nat) : Int) := by rw [C8] <;> omega
   have H := hc _ hm
   simp only [List.append_assoc, List.cons_append, List.nil_append] at H
   rw [E6.eq_def c i j] at hf
   simp [go_sem, hlt, w1, w2, w3, w4, hm, BF.enc, -Int.natCast_add, -Int.natCast_ediv]
   refine PC.use (by simpa [BF.enc] using H) ?_
   by_cases hb : c ((i + j) / 2) < 0
   · simp [hlt, hb] at hf
     simp [go_sem, hb, w5, -Int.natCast_add, -Int.natCast_ediv]
     exact ⟨(i + j) / 2 + 1, j, by omega, ⟨by omega, hj, hnm, hf⟩, Fz.same, Fz.same⟩
   · simp [hlt, hb] at hf
     simp [go_sem, hb, -Int.natCast_add, -Int.natCast_ediv]
     exact ⟨i, (i + j) / 2, by omega, ⟨by omega, by omega, hnm, hf⟩, Fz.same, Fz.same⟩
 · have e : E6 c 0 l.length = i := by rw [hf, E6.eq_def]; simp [hlt]
   by_cases hi : i < l.length
   · have H := hc i hi
     simp only [List.append_assoc, List.cons_append, List.nil_append] at H
     simp [go_sem, hlt, hi, BF.enc]
     refine PC.use (by simpa [BF.enc] using H) ?_
     simp [go_sem]
     exact BC ho rfl (by simp [A7, e, hi]; by_cases h0 : c i = 0 <;> simp [h0])
   · simp [go_sem, hlt, hi]
     exact BC ho rfl (by simp [A7, e, hi])
set_option maxRecDepth 100000
def Be : List IL := [
 ⟨1, 1, 0, 1073741824, 0, ⟨#[99, 104, 97, 114, 97, 99, 116, 101, 114, 45, 115, 116, 121, 108, 101]⟩⟩,
 ⟨2, 1, 0, 1, 0, ⟨#[98, 111, 108, 100]⟩⟩,
 ⟨3, 1, 0, 1, 0, ⟨#[105, 116, 97, 108, 105, 99]⟩⟩,
 ⟨4, 1, 0, 3, 0, ⟨#[117, 110, 100, 101, 114, 108, 105, 110, 101]⟩⟩,
 ⟨5, 1, 2, 1638, 22, ⟨#[115, 105, 122, 101]⟩⟩,
 ⟨6, 1, 0, 16777215, 0, ⟨#[99, 111, 108, 111, 114]⟩⟩,
 ⟨7, 1, 0, 63, 0, ⟨#[102, 111, 110, 116]⟩⟩,
 ⟨8, 1, 0, 255, 0, ⟨#[108, 97, 110, 103, 117, 97, 103, 101]⟩⟩,
 ⟨9, 1, (-400), 400, 0, ⟨#[114, 97, 105, 115, 101]⟩⟩,
 ⟨10, 1, 0, 1, 0, ⟨#[104, 105, 100, 100, 101, 110]⟩⟩,
 ⟨20, 2, 0, 1073741824, 0, ⟨#[112, 97, 114, 97, 103, 114, 97, 112, 104, 45, 115, 116, 121, 108, 101]⟩⟩,
 ⟨21, 2, 0, 3, 0, ⟨#[97, 108, 105, 103, 110]⟩⟩,
 ⟨22, 2, (-31680), 31680, 0, ⟨#[108, 101, 102, 116]⟩⟩,
 ⟨23, 2, (-31680), 31680, 0, ⟨#[114, 105, 103, 104, 116]⟩⟩,
 ⟨24, 2, (-31680), 31680, 0, ⟨#[102, 105, 114, 115, 116]⟩⟩,
 ⟨25, 2, 0, 31680, 0, ⟨#[98, 101, 102, 111, 114, 101]⟩⟩,
 ⟨26, 2, 0, 31680, 0, ⟨#[97, 102, 116, 101, 114]⟩⟩,
 ⟨27, 2, 0, 31680, 0, ⟨#[108, 101, 97, 100, 105, 110, 103]⟩⟩,
 ⟨28, 2, 0, 1, 0, ⟨#[107, 101, 101, 112, 45, 110, 101, 120, 116]⟩⟩,
 ⟨29, 2, 0, 1, 0, ⟨#[107, 101, 101, 112, 45, 108, 105, 110, 101, 115]⟩⟩,
 ⟨30, 2, 0, 1, 1, ⟨#[119, 105, 100, 111, 119]⟩⟩,
 ⟨31, 2, 0, 1, 0, ⟨#[112, 97, 103, 101, 45, 98, 101, 102, 111, 114, 101]⟩⟩,
 ⟨32, 2, 0, 9, 0, ⟨#[111, 117, 116, 108, 105, 110, 101]⟩⟩,
 ⟨33, 2, 0, 1073741824, 0, ⟨#[108, 105, 115, 116]⟩⟩,
 ⟨34, 2, 1, 9, 1, ⟨#[108, 101, 118, 101, 108]⟩⟩,
 ⟨35, 2, 0, 32767, 0, ⟨#[114, 101, 115, 116, 97, 114, 116]⟩⟩,
 ⟨36, 2, 1, 31680, 720, ⟨#[116, 97, 98, 45, 115, 116, 111, 112]⟩⟩,
 ⟨37, 2, 0, 1, 0, ⟨#[104, 121, 112, 104, 101, 110, 97, 116, 101]⟩⟩,
 ⟨40, 3, 720, 31680, 12240, ⟨#[112, 97, 103, 101, 45, 119, 105, 100, 116, 104]⟩⟩,
 ⟨41, 3, 720, 31680, 15840, ⟨#[112, 97, 103, 101, 45, 104, 101, 105, 103, 104, 116]⟩⟩,
 ⟨42, 3, 0, 31680, 1440, ⟨#[116, 111, 112]⟩⟩,
 ⟨43, 3, 0, 31680, 1440, ⟨#[98, 111, 116, 116, 111, 109]⟩⟩,
 ⟨44, 3, 0, 31680, 1440, ⟨#[105, 110, 110, 101, 114]⟩⟩,
 ⟨45, 3, 0, 31680, 1440, ⟨#[111, 117, 116, 101, 114]⟩⟩,
 ⟨46, 3, 0, 32767, 0, ⟨#[102, 105, 114, 115, 116, 45, 112, 97, 103, 101]⟩⟩,
 ⟨47, 3, 1, 6, 1, ⟨#[112, 97, 103, 101, 45, 102, 111, 114, 109, 97, 116]⟩⟩,
 ⟨50, 4, 0, 1, 0, ⟨#[104, 101, 97, 100, 101, 114]⟩⟩,
 ⟨51, 4, 0, 1, 0, ⟨#[99, 97, 110, 116, 45, 115, 112, 108, 105, 116]⟩⟩,
 ⟨52, 4, 0, 31680, 0, ⟨#[114, 111, 119, 45, 104, 101, 105, 103, 104, 116]⟩⟩,
 ⟨60, 5, 1, 32, 1, ⟨#[99, 111, 108, 117, 109, 110, 45, 115, 112, 97, 110]⟩⟩,
 ⟨61, 5, 0, 2, 0, ⟨#[118, 101, 114, 116, 105, 99, 97, 108, 45, 109, 101, 114, 103, 101]⟩⟩,
 ⟨62, 5, 0, 31680, 0, ⟨#[99, 101, 108, 108, 45, 119, 105, 100, 116, 104]⟩⟩,
 ⟨63, 5, 0, 16777215, 16777215, ⟨#[115, 104, 97, 100, 101]⟩⟩,
 ⟨70, 6, 0, 31680, 0, ⟨#[116, 97, 98, 108, 101, 45, 119, 105, 100, 116, 104]⟩⟩,
 ⟨71, 6, 0, 2, 0, ⟨#[116, 97, 98, 108, 101, 45, 97, 108, 105, 103, 110]⟩⟩]
def He : List SV := Be.flatMap fun k => k.enc.cells
theorem UO (Q : Exit → SV → Hp → Nat → Prop) (h : Hp) (n : Nat) : swp Tryz.prog 47 (Tryz.f305.body.getD .ret) (fun e sa h n => Q e (Ai sa 0) h n) [] h n = Q .ret (.sl n 0 6 45 true) (hset h n (some (.cells He))) (n + 1) := by kernel_rfl
theorem c305 : PC 305 [] (.imm 6 (Be.map IL.enc) false) := by
 intro h n
 refine gq Tryz.func305 rfl fun ho => ?_
 rw [EM]
 have e := UO (fun e v h' n' => (e = .normal ∨ e = .ret) ∧ ∃ rs, some [v] = some rs ∧ CG n h' n' (JL rs) (Is (.imm 6 (Be.map IL.enc) false) h n)) h n
 refine cast e.symm ⟨.inr rfl, _, rfl, ?_⟩
 refine Dp 1 ho (AO ho (Nat.le_refl _) AB) (.inr ⟨ho.none (Nat.le_refl _), by simp, by kernel_rfl, rfl, He, He, AC _ _ _, by kernel_rfl, ?_, ?_⟩) ?_
 · intro x hx
   simp only [List.mem_map] at hx
   obtain ⟨k, _, rfl⟩ := hx
   exact ⟨rfl, rfl⟩
 · have all : ∀ l : List SV, AQ (Fz (hset h n (some (.cells He))) h 0) l l := by
    intro l; induction l with
    | nil => trivial
    | cons a l ih => exact ⟨Fz.same, ih⟩
   have e : (Be.map IL.enc).flatMap SV.cells = He := by kernel_rfl
   rw [e]; exact all _
 · rw [closed]
   refine DY.2 fun x hx => ?_
   simp only [List.mem_map] at hx
   obtain ⟨k, _, rfl⟩ := hx
   rfl
end Go.Proofs.YtgakninlhfkkmaaGreat.Sh
namespace Go.Proofs.YtgakninlhfkkmaaGreat.Sh
open Proofs
set_option maxRecDepth 100000
theorem c307 (k : IL) (t : Int) : PC 307 [k.enc, AA t] (AA (HU k.number t)) := by
 intro h n
 refine gq Tryz.func307 rfl fun ho => ?_
 simp [go_sem, IL.enc, AC]
 refine (Sa _ _).use ?_
 simp [go_sem]
 exact Av ho (AO ho (Nat.le_refl _) AB) rfl rfl
def G4 (t : Int) (i : Nat) : Int := match Be[i]? with | some k => HU k.number t | none => 0
def D9 (t : Int) : Option IL := if (A7 (G4 t) Be.length).2 then Be[(A7 (G4 t) Be.length).1]? else none
def IL.zero : IL := ⟨0, 0, 0, 0, 0, ⟨#[]⟩⟩
theorem L6 : Be.length = 45 := by kernel_rfl
theorem c273 (t : Int) : PC 273 [AA t] (.tup [((D9 t).getD IL.zero).enc, .bool (D9 t).isSome]) := by
 intro h n
 refine gq Tryz.func273 rfl fun ho => ?_
 simp [go_sem]
 refine c305.use ?_
 simp [go_sem]
 refine (c306 Be (by rw [L6]; omega) (AA t) 307 [] [] (G4 t) (fun i hi => by simpa [G4, hi] using c307 Be[i] t)).use ?_
 by_cases hb : (A7 (G4 t) Be.length).2 = true
 · have hi : (A7 (G4 t) Be.length).1 < Be.length := by
    simp only [A7, decide_eq_true_eq] at hb
    exact hb.1
   have hf : D9 t = some Be[(A7 (G4 t) Be.length).1] := by simp [D9, hb, hi]
   generalize hk : Be[(A7 (G4 t) Be.length).1] = k at hf
   have hg : (Be.map IL.enc)[(A7 (G4 t) Be.length).1]? = some k.enc := by rw [← hk]; simp [hi]
   simp only [List.getElem?_map] at hg
   simp [go_sem, hb, hg, IL.enc, AC]
   refine Av ho (fun o y e => ?_) (by simp [hf]) rfl
   have := (ho o y e).1
   have ne : o ≠ n := by omega
   simp [hset, ne, e]
 · have hf : D9 t = none := by simp [D9, hb]
   simp [go_sem, hb, AC]
   refine Av ho (fun o y e => ?_) (by simp [hf, IL.zero, IL.enc]; rfl) rfl
   have := (ho o y e).1
   have ne : o ≠ n := by omega
   simp [hset, ne, e]
def Bu (e : Int) : List Int :=
 if e = 1 ∨ e = 4 ∨ e = 5 ∨ e = 6 then [1] else if e = 2 then [1, 2] else if e = 3 then [3] else if e = 7 then [6] else if e = 9 then [4] else if e = 10 then [5] else []
theorem c274 (e : Int) : PC 274 [AA e] (.imm 1 ((Bu e).map AA) false) := by
 intro h n
 refine gq Tryz.func274 rfl fun ho => ?_
 have fin : ∀ (g : List Int) (m : Nat), n ≤ m → CG n (hset h m (some (.cells (g.map AA)))) (m + 1) (.sl m 0 1 g.length true) (Is (.imm 1 (g.map AA) false) h n) := fun g m hm => by
  refine Dp 1 ho (AO ho hm AB) (.inr ⟨ho.none hm, by simp, by simp, rfl, _, _, AC _ _ _, by simp [Bi]; rfl, ?_, ?_⟩) ?_
  · intro x hx; simp at hx; obtain ⟨_, _, rfl⟩ := hx; exact ⟨rfl, rfl⟩
  · have e : (g.map AA).flatMap SV.cells = g.map AA := by induction g with | nil => rfl | cons a l ih => simpa [SV.cells] using ih
    rw [e]
    have all : ∀ l : List SV, AQ (Fz (hset h m (some (.cells (g.map AA)))) h 0) l l := by
     intro l; induction l with
     | nil => trivial
     | cons a l ih => exact ⟨Fz.same, ih⟩
    rw [List.take_of_length_le (by simp)]
    exact all _
  · rw [closed]; refine DY.2 fun x hx => ?_
    simp only [List.mem_map] at hx
    obtain ⟨k, _, rfl⟩ := hx
    rfl
 by_cases h1 : e = 1
 · subst h1; simp [go_sem, Bu]; exact fin [1] n (Nat.le_refl _)
 by_cases h4 : e = 4
 · subst h4; simp [go_sem, Bu]; exact fin [1] n (Nat.le_refl _)
 by_cases h5 : e = 5
 · subst h5; simp [go_sem, Bu]; exact fin [1] n (Nat.le_refl _)
 by_cases h6 : e = 6
 · subst h6; simp [go_sem, Bu]; exact fin [1] n (Nat.le_refl _)
 by_cases h2 : e = 2
 · subst h2; simp [go_sem, Bu]; exact fin [1, 2] n (Nat.le_refl _)
 by_cases h3 : e = 3
 · subst h3; simp [go_sem, Bu]; exact fin [3] n (Nat.le_refl _)
 by_cases h7 : e = 7
 · subst h7; simp [go_sem, Bu]; exact fin [6] n (Nat.le_refl _)
 by_cases h9 : e = 9
 · subst h9; simp [go_sem, Bu]; exact fin [4] n (Nat.le_refl _)
 by_cases h10 : e = 10
 · subst h10; simp [go_sem, Bu]; exact fin [5] n (Nat.le_refl _)
 simp [go_sem, Bu, h1, h2, h3, h4, h5, h6, h7, h9, h10]
 exact Dp 1 ho AB (.inr ⟨by simp, .inl rfl, trivial, by simp⟩) rfl
def QQ (el key : Int) : Bool := match D9 key with | some k => decide (k.group ∈ Bu el) | none => false
theorem La (e : Int) : (Bu e).length ≤ 1048576 := by unfold Bu; (repeat' split) <;> simp
theorem c220 (el key : Int) : PC 220 [AA el, AA key] (.bool (QQ el key)) := by
 intro h n
 refine gq Tryz.func220 rfl fun ho => ?_
 simp [go_sem]
 refine (c273 key).use ?_
 cases hf : D9 key with
 | none =>
  simp [go_sem, IL.zero, IL.enc, AC]
  repeat first | refine nq ?_ | refine sq ?_
  refine Av ho (fun o y e => ?_) (by simp [QQ, hf]) rfl
  have := (ho o y e).1
  have ne : o ≠ n := by omega
  simp [hset, ne, e]
 | some k =>
  simp [go_sem, IL.enc, AC]
  repeat first | refine nq ?_ | refine sq ?_
  refine Bg.pure _ _ _ _ _ _ (c274 el) ?_
  simp [go_sem, AC]
  repeat first | refine nq ?_ | refine sq ?_
  refine Bg.pure _ _ _ _ _ _ (c113 (Bu el) k.group (La el)) ?_
  simp [go_sem]
  repeat first | refine nq ?_ | refine sq ?_
  refine Av ho (fun o y e => ?_) (by simp [QQ, hf]) rfl
  have := (ho o y e).1
  have ne : o ≠ n := by omega
  simp [hset, ne, e]
def EB (key v : Int) : Int := match D9 key with | some k => if v < k.low ∨ k.high < v then 5 else 0 | none => 4
theorem Tu (key v : Int) : PC 221 [AA key, AA v] (AA (EB key v)) := by
 intro h n
 refine gq Tryz.func221 rfl fun ho => ?_
 simp [go_sem]
 refine (c273 key).use ?_
 have hh : ∀ a b : Option BV, ∀ o x, h o = some x → hset (hset h n a) n b o = some x := fun a b o y e => by
  have := (ho o y e).1
  have ne : o ≠ n := by omega
  simp [hset, ne, e]
 cases hf : D9 key with
 | none =>
  simp [go_sem, IL.zero, IL.enc, AC]
  exact Av ho (hh _ _) (by simp [EB, hf]) rfl
 | some k =>
  by_cases h1 : v < k.low <;> by_cases h2 : k.high < v <;> simp [go_sem, IL.enc, AC, h1, h2]
  all_goals exact Av ho (hh _ _) (by simp [EB, hf, h1, h2]) rfl
def DP (el : Int) (l : List FH) (i : Nat) : Int := match l[i]? with
 | some p => if !QQ el p.key then 4 else if decide (0 < i) && ((l[i - 1]?).map FH.key == some p.key) then 7
  else if decide (0 < i) && (match l[i - 1]? with | some q => decide (p.key < q.key) | none => false) then 6 else EB p.key p.value
 | none => 0
def Fv (el : Int) (l : List FH) : Int := if el < 1 ∨ 10 < el then 3 else Ev (DP el l) l.length
theorem c156 (el : Int) (l : List FH) (hl : l.length ≤ 1048576) : PC 156 [AA el, Ah l] (AA (Fv el l)) := by
 intro h n
 refine gq Tryz.func156 rfl fun ho => ?_
 by_cases e1 : el < 1
 · simp [go_sem, e1]; exact BC ho rfl (by simp [Fv, e1])
 by_cases e2 : 10 < el
 · simp [go_sem, e1, e2]; exact BC ho rfl (by simp [Fv, e2])
 have hP : Fv el l = Ev (DP el l) l.length := by simp [Fv, e1, e2]
 rw [hP]
 simp [go_sem, e1, e2]
 refine An 1 (α := Nat) (fun k => [(0, AA el), (1, Ah l), (14, Ah l), (15, AA l.length), (16, AA k)]) (fun _ => h) (fun k m => k ≤ l.length ∧ n ≤ m ∧ Ev (DP el l) k = 0) (fun k => l.length - k) 0 ?_ ?_ AB ?_
 · simp [Ev]
 · simp [Ai]
 rintro k m ⟨hk, hnm, hf⟩
 have hh : ∀ a b : Option BV, ∀ o x, h o = some x → hset (hset h m a) m b o = some x := fun a b o y e => by
  have := (ho o y e).1
  have ne : o ≠ m := by omega
  simp [hset, ne, e]
 by_cases hlt : k < l.length
 · have w1 := wS k (by omega)
   obtain ⟨p, hp⟩ : ∃ p, l[k]? = some p := ⟨l[k], by simp [hlt]⟩
   have hp' : l[k] = p := by simpa [hlt] using hp
   have nz : ∀ e, DP el l k = e → e ≠ 0 → Ev (DP el l) l.length = e := fun e h1 h2 => by rw [IR _ hlt hf (by rw [h1]; exact h2), h1]
   simp [go_sem, hlt, hp', FH.enc, AC]
   refine (c220 _ _).use ?_
   by_cases hfit : QQ el p.key = true
   · by_cases h0 : 0 < k
     · obtain ⟨q, hq⟩ : ∃ q, l[k - 1]? = some q := ⟨l[k - 1], by simp [show k - 1 < l.length by omega]⟩
       have w2 : IntKind.i64.wrap ((k : Int) - 1) = ((k - 1 : Nat) : Int) := by rw [C8] <;> omega
       have hq' : (l.map FH.enc)[k - 1]? = some q.enc := by simp [hq]
       simp only [List.getElem?_map] at hq'
       by_cases h7 : p.key = q.key
       · have hfit' : QQ el q.key = true := by rw [← h7]; exact hfit
         simp [go_sem, hfit', h0, w2, hq, FH.enc, AC, h7]
         repeat first | refine nq ?_ | refine sq ?_
         exact Av ho (hh _ _) (by rw [nz 7 (by simp [DP, hp, hfit', h0, hq, h7]) (by simp)]) rfl
       · by_cases h6 : p.key < q.key
         · simp [go_sem, hfit, h0, w2, hq, FH.enc, AC, h7, h6]
           repeat first | refine nq ?_ | refine sq ?_
           exact Av ho (hh _ _) (by rw [nz 6 (by simp [DP, hp, hfit, h0, hq, h6, Ne.symm h7]) (by simp)]) rfl
         · simp [go_sem, hfit, h0, w2, hq, FH.enc, AC, h7, h6]
           repeat first | refine nq ?_ | refine sq ?_
           refine (Tu _ _).use ?_
           have hs : DP el l k = EB p.key p.value := by simp [DP, hp, hfit, h0, hq, h6, Ne.symm h7]
           by_cases hv : EB p.key p.value = 0
           · simp [go_sem, hv, w1, -Int.natCast_add]
             exact ⟨k + 1, by omega, ⟨by omega, by omega, by simp [Ev, hf, hs, hv]⟩, Fz.same, hh _ _⟩
           · simp [go_sem, hv]
             exact Av ho (hh _ _) (by rw [nz _ hs hv]) rfl
     · simp [go_sem, hfit, h0, AC]
       repeat first | refine nq ?_ | refine sq ?_
       refine (Tu _ _).use ?_
       have hs : DP el l k = EB p.key p.value := by simp [DP, hp, hfit, h0]
       by_cases hv : EB p.key p.value = 0
       · simp [go_sem, hv, w1, -Int.natCast_add]
         exact ⟨k + 1, by omega, ⟨by omega, by omega, by simp [Ev, hf, hs, hv]⟩, Fz.same, hh _ _⟩
       · simp [go_sem, hv]
         exact Av ho (hh _ _) (by rw [nz _ hs hv]) rfl
   · simp [go_sem, hfit]
     exact Av ho (hh _ _) (by rw [nz 4 (by simp [DP, hp, hfit]) (by simp)]) rfl
 · simp [go_sem, hlt]
   have : k = l.length := by omega
   subst this
   exact BC ho rfl (by rw [hf])
end Go.Proofs.YtgakninlhfkkmaaGreat.Sh
namespace Go.Proofs.YtgakninlhfkkmaaGreat.Sh
open Proofs
set_option maxRecDepth 10000
def QK (p : Nat → Bool) (n : Nat) : Bool := decide (0 ≤ BK p n 0)
structure Bm where
 literal : ByteArray
 level : Int
 plain : Bool
def Bm.enc (p : Bm) : SV := .agg [.str p.literal, AA p.level, .bool p.plain]
abbrev IK : Int → SV := .int .u8
theorem c299 (l : List A6) (hl : l.length ≤ 1048576) (g : FuncId) (a b : List SV) (p : Nat → Bool) (hp : ∀ (i : Nat) (h : i < l.length), PC g (a ++ [A6.enc l[i]] ++ b) (.bool (p i))) :
 PC 299 [.imm 6 (l.map A6.enc) false, .fn (.func g) a b] (AA (BK p l.length 0)) := by
 intro h n
 refine gq Tryz.func299 rfl fun ho => ?_
 simp [go_sem]
 refine An 1 (α := Nat) (fun k => [(0, .imm 6 (l.map A6.enc) false), (1, .fn (.func g) a b), (7, AA l.length), (8, AA k)]) (fun _ => h) (fun k m => k ≤ l.length ∧ n ≤ m ∧ BK p l.length 0 = BK p l.length k) (fun k => l.length - k) 0 ?_ ?_ AB ?_
 · simp
 · simp [Ai]
 rintro k m ⟨hk, hnm, hf⟩
 rw [BK.eq_def _ _ k] at hf
 by_cases hlt : k < l.length
 · have w1 := wS k (by omega)
   have H := hp k hlt
   simp only [List.append_assoc, List.cons_append, List.nil_append] at H
   simp [go_sem, hlt, A6.enc]
   refine PC.use (by simpa [A6.enc] using H) ?_
   by_cases h0 : p k = true
   · simp [go_sem, h0]
     exact BC ho rfl (by rw [hf]; simp [hlt, h0])
   · simp [go_sem, h0, w1, -Int.natCast_add]
     exact ⟨k + 1, by omega, ⟨by omega, hnm, by rw [hf]; simp [hlt, h0]⟩, Fz.same⟩
 · simp [go_sem, hlt]
   exact BC ho rfl (by rw [hf]; simp [hlt])
theorem c272 (l : List Aw) (hl : l.length ≤ 1048576) (g : FuncId) (a b : List SV) (p : Nat → Bool) (hp : ∀ (i : Nat) (h : i < l.length), PC g (a ++ [Aw.enc l[i]] ++ b) (.bool (p i))) :
 PC 272 [.imm 6 (l.map Aw.enc) false, .fn (.func g) a b] (AA (BK p l.length 0)) := by
 intro h n
 refine gq Tryz.func272 rfl fun ho => ?_
 simp [go_sem]
 refine An 1 (α := Nat) (fun k => [(0, .imm 6 (l.map Aw.enc) false), (1, .fn (.func g) a b), (7, AA l.length), (8, AA k)]) (fun _ => h) (fun k m => k ≤ l.length ∧ n ≤ m ∧ BK p l.length 0 = BK p l.length k) (fun k => l.length - k) 0 ?_ ?_ AB ?_
 · simp
 · simp [Ai]
 rintro k m ⟨hk, hnm, hf⟩
 rw [BK.eq_def _ _ k] at hf
 by_cases hlt : k < l.length
 · have w1 := wS k (by omega)
   have H := hp k hlt
   simp only [List.append_assoc, List.cons_append, List.nil_append] at H
   simp [go_sem, hlt, Aw.enc]
   refine PC.use (by simpa [Aw.enc] using H) ?_
   by_cases h0 : p k = true
   · simp [go_sem, h0]
     exact BC ho rfl (by rw [hf]; simp [hlt, h0])
   · simp [go_sem, h0, w1, -Int.natCast_add]
     exact ⟨k + 1, by omega, ⟨by omega, hnm, by rw [hf]; simp [hlt, h0]⟩, Fz.same⟩
 · simp [go_sem, hlt]
   exact BC ho rfl (by rw [hf]; simp [hlt])
theorem c141 (l : List BF) (hl : l.length ≤ 1048576) (g : FuncId) (a b : List SV) (p : Nat → Bool) (hp : ∀ (i : Nat) (h : i < l.length), PC g (a ++ [BF.enc l[i]] ++ b) (.bool (p i))) :
 PC 141 [.imm 3 (l.map BF.enc) false, .fn (.func g) a b] (AA (BK p l.length 0)) := by
 intro h n
 refine gq Tryz.func141 rfl fun ho => ?_
 simp [go_sem]
 refine An 1 (α := Nat) (fun k => [(0, .imm 3 (l.map BF.enc) false), (1, .fn (.func g) a b), (7, AA l.length), (8, AA k)]) (fun _ => h) (fun k m => k ≤ l.length ∧ n ≤ m ∧ BK p l.length 0 = BK p l.length k) (fun k => l.length - k) 0 ?_ ?_ AB ?_
 · simp
 · simp [Ai]
 rintro k m ⟨hk, hnm, hf⟩
 rw [BK.eq_def _ _ k] at hf
 by_cases hlt : k < l.length
 · have w1 := wS k (by omega)
   have H := hp k hlt
   simp only [List.append_assoc, List.cons_append, List.nil_append] at H
   simp [go_sem, hlt, BF.enc]
   refine PC.use (by simpa [BF.enc] using H) ?_
   by_cases h0 : p k = true
   · simp [go_sem, h0]
     exact BC ho rfl (by rw [hf]; simp [hlt, h0])
   · simp [go_sem, h0, w1, -Int.natCast_add]
     exact ⟨k + 1, by omega, ⟨by omega, hnm, by rw [hf]; simp [hlt, h0]⟩, Fz.same⟩
 · simp [go_sem, hlt]
   exact BC ho rfl (by rw [hf]; simp [hlt])
theorem c193 (l : List AS) (hl : l.length ≤ 1048576) (g : FuncId) (a b : List SV) (p : Nat → Bool) (hp : ∀ (i : Nat) (h : i < l.length), PC g (a ++ [AS.enc l[i]] ++ b) (.bool (p i))) :
 PC 193 [.imm 6 (l.map AS.enc) false, .fn (.func g) a b] (AA (BK p l.length 0)) := by
 intro h n
 refine gq Tryz.func193 rfl fun ho => ?_
 simp [go_sem]
 refine An 1 (α := Nat) (fun k => [(0, .imm 6 (l.map AS.enc) false), (1, .fn (.func g) a b), (7, AA l.length), (8, AA k)]) (fun _ => h) (fun k m => k ≤ l.length ∧ n ≤ m ∧ BK p l.length 0 = BK p l.length k) (fun k => l.length - k) 0 ?_ ?_ AB ?_
 · simp
 · simp [Ai]
 rintro k m ⟨hk, hnm, hf⟩
 rw [BK.eq_def _ _ k] at hf
 by_cases hlt : k < l.length
 · have w1 := wS k (by omega)
   have H := hp k hlt
   simp only [List.append_assoc, List.cons_append, List.nil_append] at H
   simp [go_sem, hlt, AS.enc_eq]
   refine PC.use (by simpa [AS.enc_eq] using H) ?_
   by_cases h0 : p k = true
   · simp [go_sem, h0]
     exact BC ho rfl (by rw [hf]; simp [hlt, h0])
   · simp [go_sem, h0, w1, -Int.natCast_add]
     exact ⟨k + 1, by omega, ⟨by omega, hnm, by rw [hf]; simp [hlt, h0]⟩, Fz.same⟩
 · simp [go_sem, hlt]
   exact BC ho rfl (by rw [hf]; simp [hlt])
theorem c321 (l : List Bm) (hl : l.length ≤ 1048576) (g : FuncId) (a b : List SV) (p : Nat → Bool) (hp : ∀ (i : Nat) (h : i < l.length), PC g (a ++ [Bm.enc l[i]] ++ b) (.bool (p i))) :
 PC 321 [.imm 3 (l.map Bm.enc) false, .fn (.func g) a b] (AA (BK p l.length 0)) := by
 intro h n
 refine gq Tryz.func321 rfl fun ho => ?_
 simp [go_sem]
 refine An 1 (α := Nat) (fun k => [(0, .imm 3 (l.map Bm.enc) false), (1, .fn (.func g) a b), (7, AA l.length), (8, AA k)]) (fun _ => h) (fun k m => k ≤ l.length ∧ n ≤ m ∧ BK p l.length 0 = BK p l.length k) (fun k => l.length - k) 0 ?_ ?_ AB ?_
 · simp
 · simp [Ai]
 rintro k m ⟨hk, hnm, hf⟩
 rw [BK.eq_def _ _ k] at hf
 by_cases hlt : k < l.length
 · have w1 := wS k (by omega)
   have H := hp k hlt
   simp only [List.append_assoc, List.cons_append, List.nil_append] at H
   simp [go_sem, hlt, Bm.enc]
   refine PC.use (by simpa [Bm.enc] using H) ?_
   by_cases h0 : p k = true
   · simp [go_sem, h0]
     exact BC ho rfl (by rw [hf]; simp [hlt, h0])
   · simp [go_sem, h0, w1, -Int.natCast_add]
     exact ⟨k + 1, by omega, ⟨by omega, hnm, by rw [hf]; simp [hlt, h0]⟩, Fz.same⟩
 · simp [go_sem, hlt]
   exact BC ho rfl (by rw [hf]; simp [hlt])
theorem c327 (l : List Int) (hl : l.length ≤ 1048576) (g : FuncId) (a b : List SV) (p : Nat → Bool) (hp : ∀ (i : Nat) (h : i < l.length), PC g (a ++ [IK l[i]] ++ b) (.bool (p i))) :
 PC 327 [.imm 1 (l.map IK) false, .fn (.func g) a b] (AA (BK p l.length 0)) := by
 intro h n
 refine gq Tryz.func327 rfl fun ho => ?_
 simp [go_sem]
 refine An 1 (α := Nat) (fun k => [(0, .imm 1 (l.map IK) false), (1, .fn (.func g) a b), (7, AA l.length), (8, AA k)]) (fun _ => h) (fun k m => k ≤ l.length ∧ n ≤ m ∧ BK p l.length 0 = BK p l.length k) (fun k => l.length - k) 0 ?_ ?_ AB ?_
 · simp
 · simp [Ai]
 rintro k m ⟨hk, hnm, hf⟩
 rw [BK.eq_def _ _ k] at hf
 by_cases hlt : k < l.length
 · have w1 := wS k (by omega)
   have H := hp k hlt
   simp only [List.append_assoc, List.cons_append, List.nil_append] at H
   simp [go_sem, hlt, IK]
   refine PC.use (by simpa [IK] using H) ?_
   by_cases h0 : p k = true
   · simp [go_sem, h0]
     exact BC ho rfl (by rw [hf]; simp [hlt, h0])
   · simp [go_sem, h0, w1, -Int.natCast_add]
     exact ⟨k + 1, by omega, ⟨by omega, hnm, by rw [hf]; simp [hlt, h0]⟩, Fz.same⟩
 · simp [go_sem, hlt]
   exact BC ho rfl (by rw [hf]; simp [hlt])
theorem c214 (l : List Aw) (hl : l.length ≤ 1048576) (g : FuncId) (a b : List SV) (p : Nat → Bool) (hp : ∀ (i : Nat) (h : i < l.length), PC g (a ++ [Aw.enc l[i]] ++ b) (.bool (p i))) :
 PC 214 [.imm 6 (l.map Aw.enc) false, .fn (.func g) a b] (.bool (QK p l.length)) := by
 intro h n
 refine gq Tryz.func214 rfl fun ho => ?_
 simp [go_sem]
 refine (c272 l hl g a b p hp).use ?_
 simp [go_sem]
 exact BC ho rfl rfl
theorem c303 (l : List Bm) (hl : l.length ≤ 1048576) (g : FuncId) (a b : List SV) (p : Nat → Bool) (hp : ∀ (i : Nat) (h : i < l.length), PC g (a ++ [Bm.enc l[i]] ++ b) (.bool (p i))) :
 PC 303 [.imm 3 (l.map Bm.enc) false, .fn (.func g) a b] (.bool (QK p l.length)) := by
 intro h n
 refine gq Tryz.func303 rfl fun ho => ?_
 simp [go_sem]
 refine (c321 l hl g a b p hp).use ?_
 simp [go_sem]
 exact BC ho rfl rfl
theorem c318 (l : List Int) (hl : l.length ≤ 1048576) (g : FuncId) (a b : List SV) (p : Nat → Bool) (hp : ∀ (i : Nat) (h : i < l.length), PC g (a ++ [IK l[i]] ++ b) (.bool (p i))) :
 PC 318 [.imm 1 (l.map IK) false, .fn (.func g) a b] (.bool (QK p l.length)) := by
 intro h n
 refine gq Tryz.func318 rfl fun ho => ?_
 simp [go_sem]
 refine (c327 l hl g a b p hp).use ?_
 simp [go_sem]
 exact BC ho rfl rfl
abbrev SP (E : Bl) (N : Nat) (c : Code) (Q : CZ) (sa : SA) (h : Hp) (n : Nat) : Prop := HQ E Tryz.prog N c Q sa h n
section
variable {E : Bl} {N : Nat} {a b : Code} {Q : CZ} {sa : SA} {h : Hp} {n : Nat}
theorem AH (H : Ja E Tryz.prog N a Q sa h n) : SP E N a Q sa h n := EX follows _ _ _ _ _ (by rw [← EM]; exact H)
theorem Jb (sb : SA) (H1 : Ja E Tryz.prog N a (C7 (fun sa' h' n' => (∀ p ∈ sb, Ai sa' p.1 = p.2) ∧ h' = h ∧ n' = n) Q) sa h n) (H2 : SP E N b Q sb h n) : SP E N (.seq a b) Q sa h n :=
 Ir (Fy (AH H1) (FA fun sa' h' n' ⟨h1, h2, h3⟩ => by subst h2; subst h3; exact O1 H2 h1))
theorem BM {α : Type} (k : Nat) (fr : α → SA) (hp : α → Hp) (I : α → Nat → Prop)
 (H1 : Ja E Tryz.prog N a (C7 (fun sa' h' n' => ∃ x, I x n' ∧ (∀ p ∈ fr x, Fz h' (hp x) k (Ai sa' p.1) p.2) ∧ (∀ o y, hp x o = some y → h' o = some y)) Q) sa h n)
 (H2 : ∀ x m, I x m → SP E N b Q (fr x) (hp x) m) : SP E N (.seq a b) Q sa h n :=
 Ir (Fy (AH H1) (FA fun _sa' _h' n' ⟨x, hI, h1, h2⟩ => Mz k h2 (Nat.le_refl _) h1 (H2 x n' hI)))
theorem AX {α : Type} (k : Nat) (fr : α → SA) (hp : α → Hp) (I : α → Nat → Prop)
 (H1 : SP E N a (C7 (fun sa' h' n' => ∃ x, I x n' ∧ (∀ p ∈ fr x, Fz h' (hp x) k (Ai sa' p.1) p.2) ∧ (∀ o y, hp x o = some y → h' o = some y)) Q) sa h n)
 (H2 : ∀ x m, I x m → SP E N b Q (fr x) (hp x) m) : SP E N (.seq a b) Q sa h n :=
 Ir (Fy H1 (FA fun _sa' _h' n' ⟨x, hI, h1, h2⟩ => Mz k h2 (Nat.le_refl _) h1 (H2 x n' hI)))
theorem Bn (k : Nat) (fr : SA) (hp : Hp) (I : Nat → Prop)
 (H1 : Ja E Tryz.prog N a (C7 (fun sa' h' n' => ∃ _ : Unit, I n' ∧ (∀ p ∈ fr, Fz h' hp k (Ai sa' p.1) p.2) ∧ (∀ o y, hp o = some y → h' o = some y)) Q) sa h n)
 (H2 : ∀ m, I m → SP E N b Q fr hp m) : SP E N (.seq a b) Q sa h n :=
 BM k (α := Unit) (fun _ => fr) (fun _ => hp) (fun _ => I) H1 fun _ => H2
theorem B5 (k : Nat) (fr : SA) (hp : Hp) (I : Nat → Prop)
 (H1 : SP E N a (C7 (fun sa' h' n' => ∃ _ : Unit, I n' ∧ (∀ p ∈ fr, Fz h' hp k (Ai sa' p.1) p.2) ∧ (∀ o y, hp o = some y → h' o = some y)) Q) sa h n)
 (H2 : ∀ m, I m → SP E N b Q fr hp m) : SP E N (.seq a b) Q sa h n :=
 AX k (α := Unit) (fun _ => fr) (fun _ => hp) (fun _ => I) H1 fun _ => H2
theorem Ae (k : Nat) (fr : SA) (hp : Hp) (q : Nat)
 (H1 : Ja E Tryz.prog N a (C7 (fun sa' h' n' => ∃ _ : Unit, q ≤ n' ∧ (∀ p ∈ fr, Fz h' hp k (Ai sa' p.1) p.2) ∧ (∀ o y, hp o = some y → h' o = some y)) Q) sa h n)
 (H2 : ∀ m, q ≤ m → SP E N b Q fr hp m) : SP E N (.seq a b) Q sa h n := Bn k fr hp (q ≤ ·) H1 H2
theorem Bs (k : Nat) (fr : SA) (hp : Hp) (q : Nat)
 (H1 : SP E N a (C7 (fun sa' h' n' => ∃ _ : Unit, q ≤ n' ∧ (∀ p ∈ fr, Fz h' hp k (Ai sa' p.1) p.2) ∧ (∀ o y, hp o = some y → h' o = some y)) Q) sa h n)
 (H2 : ∀ m, q ≤ m → SP E N b Q fr hp m) : SP E N (.seq a b) Q sa h n := B5 k fr hp (q ≤ ·) H1 H2
theorem DA (k : Nat) (fr : SA) (hp : Hp) (q : Nat)
 (H1 : Ja E Tryz.prog N a (C7 (fun sa' h' n' => ∃ _ : Unit, q = n' ∧ (∀ p ∈ fr, Fz h' hp k (Ai sa' p.1) p.2) ∧ (∀ o y, hp o = some y → h' o = some y)) Q) sa h n)
 (H2 : ∀ m, q = m → SP E N b Q fr hp m) : SP E N (.seq a b) Q sa h n := Bn k fr hp (q = ·) H1 H2
theorem Fx (k : Nat) (fr : SA) (hp : Hp) (q : Nat)
 (H1 : SP E N a (C7 (fun sa' h' n' => ∃ _ : Unit, q = n' ∧ (∀ p ∈ fr, Fz h' hp k (Ai sa' p.1) p.2) ∧ (∀ o y, hp o = some y → h' o = some y)) Q) sa h n)
 (H2 : ∀ m, q = m → SP E N b Q fr hp m) : SP E N (.seq a b) Q sa h n := B5 k fr hp (q = ·) H1 H2
theorem Ab {id : Nat} (H : SP E N a (E5 id Q) sa h n) : SP E N (.block id a) Q sa h n := MJ H
theorem Gt (H : SP E N a (C7 (SP E N b Q) Q) sa h n) : SP E N (.seq a b) Q sa h n := Ir H
theorem goS {f : FuncId} {fn : Func} {code : Code} {args : List SV} {K : SV → Hp → Nat → Prop} (hf : Tryz.prog.funcs[f]? = some fn) (hb : fn.body = some code)
 (hn : (fn.name != "runtime.NumGoroutine") = true) (hd : Code.dok fn.ntmps code = true) (hl : args.length ≤ fn.ntmps)
 (H : Fd h n → SP (E.call false 0) fn.ntmps code (MB Tryz.prog fn n K) (EH 0 args) h n) : Ag E Tryz.prog f args h n K :=
 MI hf hb hn hd hl fun _ ho => H ho
theorem ED {f : FuncId} {fn : Func} {code : Code} {args : List SV} {K : SV → Hp → Nat → Prop} (hf : Tryz.prog.funcs[f]? = some fn) (hb : fn.body = some code)
 (H : Fd h n → SP (E.call false 0) fn.ntmps code (MB Tryz.prog fn n K) (EH 0 args) h n)
 (hn : (fn.name != "runtime.NumGoroutine") = true := by kernel_rfl) (hd : Code.dok fn.ntmps code = true := by kernel_rfl) (hl : args.length ≤ fn.ntmps := by simp [go_sem]) : Ag E Tryz.prog f args h n K :=
 goS hf hb hn hd hl H
theorem Bf {x : Code} {α : Type} (k : Nat) (fr : α → SA) (hp : α → Hp) (I : α → Nat → Prop) (μ : α → Nat) (a0 : α) (hI : I a0 n)
 (hfr : ∀ p ∈ fr a0, Fz h (hp a0) k (Ai sa p.1) p.2) (hhp : ∀ o y, hp a0 o = some y → h o = some y)
 (round : ∀ a n, I a n → SP E N x (C7 (fun sa' h' n' => ∃ a', μ a' < μ a ∧ I a' n' ∧ (∀ p ∈ fr a', Fz h' (hp a') k (Ai sa' p.1) p.2) ∧ (∀ o y, hp a' o = some y → h' o = some y)) Q) (fr a) (hp a) n) :
 SP E N (.loop x) Q sa h n := by
 refine Nv (μ a0) (fun m sa h n => ∃ a, m = μ a ∧ I a n ∧ (∀ p ∈ fr a, Fz h (hp a) k (Ai sa p.1) p.2) ∧ (∀ o y, hp a o = some y → h o = some y)) ⟨a0, rfl, hI, hfr, hhp⟩ ?_
 rintro m sa h n ⟨a, rfl, hI, hfr, hhp⟩
 refine Mz k hhp (Nat.le_refl _) hfr (Fy (round a n hI) ?_)
 refine FA fun sa' h' n' ⟨a', h1, h2, h3, h4⟩ => ⟨μ a', h1, a', rfl, h2, h3, h4⟩
end
@[go_sem] theorem L4 (id : Nat) (Q : CZ) : E5 id Q .normal = Q .normal := rfl
@[go_sem] theorem Tm (id : Nat) (Q : CZ) : E5 id Q .ret = Q .ret := rfl
@[go_sem] theorem TQ (id i : Nat) (Q : CZ) (sa : SA) (h : Hp) (n : Nat) : E5 id Q (.exit i) sa h n = if i = id then Q .normal sa h n else Q (.exit i) sa h n := rfl
def IP (p : Nat → Bool) : Nat → Bool
 | 0 => true
 | n + 1 => IP p n && p n
theorem IQ {p : Nat → Bool} {k n : Nat} (hk : k < n) (h : p k = false) : IP p n = false := by
 induction n with
 | zero => omega
 | succ n ih =>
  rw [IP]
  by_cases e : k = n
  · subst e; simp [h]
  · rw [ih (by omega)]; rfl
def NV (d : Int) : Int := IntKind.u8.wrap (BitVec.ofInt 8 d ||| BitVec.ofInt 8 32).toNat
def D8 (first : Bool) (d : Int) : Bool := decide (97 ≤ NV d ∧ NV d ≤ 122) || (!first && decide ((48 ≤ d ∧ d ≤ 57) ∨ d = 45 ∨ d = 95))
def HW (s : ByteArray) : Bool := decide ((1 : Int) ≤ s.size ∧ (s.size : Int) ≤ 40) && IP (fun i => D8 (decide (i = 0)) (Ad s i)) s.size
theorem Tt (s : ByteArray) : PC 219 [.str s] (.bool (HW s)) := by
 intro h n
 refine gq Tryz.func219 rfl fun ho => ?_
 by_cases e1 : (s.size : Int) < 1
 · simp [go_sem, e1]; exact BC ho rfl (by simp [HW]; omega)
 by_cases e2 : (40 : Int) < s.size
 · simp [go_sem, e1, e2]; exact BC ho rfl (by simp [HW]; omega)
 have hN : HW s = IP (fun i => D8 (decide (i = 0)) (Ad s i)) s.size := by
  have : decide ((1 : Int) ≤ s.size ∧ (s.size : Int) ≤ 40) = true := by simp; omega
  rw [HW, this]; rfl
 rw [hN]
 simp [go_sem, e1, e2]
 refine Bf 1 (α := Nat) (fun k => [(0, .str s), (16, AA s.size), (17, AA k)]) (fun _ => h) (fun k m => k ≤ s.size ∧ n ≤ m ∧ IP (fun i => D8 (decide (i = 0)) (Ad s i)) k = true) (fun k => s.size - k) 0 ?_ ?_ AB ?_
 · simp [IP]
 · simp [Ai]
 rintro k m ⟨hk, hnm, hf⟩
 by_cases hlt : k < s.size
 · have w1 := wS k (by omega)
   obtain ⟨g1, g2⟩ := Di hlt
   have no : D8 (decide (k = 0)) (Ad s k) = false → IP (fun i => D8 (decide (i = 0)) (Ad s i)) s.size = false := fun hb => IQ hlt hb
   have yes' : D8 (decide (k = 0)) (Ad s k) = true → IP (fun i => D8 (decide (i = 0)) (Ad s i)) (k + 1) = true := fun hb => by rw [IP, hf, hb]; rfl
   refine Jb [(0, .str s), (16, AA s.size), (17, AA k), (18, .bool true)] (by simp [go_sem, hlt]) ?_
   refine Jb [(0, .str s), (16, AA s.size), (17, AA k)] (by simp [go_sem]) ?_
   refine AX 1 (α := Unit) (fun _ => [(0, .str s), (16, AA s.size), (17, AA k)]) (fun _ => h) (fun _ m' => m' = m ∧ D8 (decide (k = 0)) (Ad s k) = true) (Ab ?_) (fun _ m' hI => AH ?_)
   rotate_left
   · simp [go_sem, w1, -Int.natCast_add]
     exact ⟨k + 1, by omega, ⟨by omega, by omega, yes' hI.2⟩, Fz.same⟩
   refine Jb [(0, .str s), (16, AA s.size), (17, AA k), (3, AA k)] (by simp [go_sem]) ?_
   refine Jb [(0, .str s), (16, AA s.size), (17, AA k), (3, AA k), (4, .int .u8 (NV (Ad s k)))] (by simp [go_sem, g1, ← g2]; rfl) ?_
   generalize hc : NV (Ad s k) = c
   generalize hd : Ad s k = d at g2
   refine Jb [(0, .str s), (16, AA s.size), (17, AA k), (3, AA k), (5, .bool (decide (97 ≤ c ∧ c ≤ 122)))] (by by_cases l1 : 97 ≤ c <;> simp [go_sem, l1]) ?_
   refine Jb [(0, .str s), (16, AA s.size), (17, AA k), (3, AA k), (5, .bool (decide (97 ≤ c ∧ c ≤ 122))), (6, .bool (decide ((48 ≤ d ∧ d ≤ 57) ∨ d = 45 ∨ d = 95)))] ?_ ?_
   · by_cases d1 : 48 ≤ d
     · by_cases d2 : d ≤ 57
       · simp [go_sem, g1, ← g2, d1, d2]
       · have d3 : ¬ d = 45 := by omega
         by_cases d4 : d = 95 <;> simp [go_sem, g1, ← g2, d1, d2, d3, d4]
     · have d4 : ¬ d = 95 := by omega
       by_cases d3 : d = 45 <;> simp [go_sem, g1, ← g2, d1, d3, d4]
   generalize hL : decide (97 ≤ c ∧ c ≤ 122) = L
   generalize hO : decide ((48 ≤ d ∧ d ≤ 57) ∨ d = 45 ∨ d = 95) = O
   have hnb : D8 (decide (k = 0)) (Ad s k) = (L || (!decide (k = 0) && O)) := by rw [D8, hc, hd, hL, hO]
   rw [hnb] at no
   rw [hd] at hnb
   rw [hnb]
   refine AH ?_
   by_cases hz : k = 0
   · cases L <;> cases O <;> simp [hz] at no ⊢ <;> simp [go_sem]
     all_goals exact BC ho rfl (by rw [no])
   · cases L <;> cases O <;> simp [hz] at no ⊢ <;> simp [go_sem, hz]
     all_goals exact BC ho rfl (by rw [no])
 · refine AH ?_
   simp [go_sem, hlt]
   have : k = s.size := by omega
   subst this
   exact BC ho rfl (by rw [hf])
theorem c268 (k : Int) : PC 268 [AA k] (AA (if k = 1 then 2 else 1)) := by
 intro h n
 refine gq Tryz.func268 rfl fun ho => ?_
 by_cases h1 : k = 1 <;> simp [go_sem, h1] <;> exact BC ho rfl rfl
theorem c301 (s : A6) (id : Int) : PC 301 [s.enc, .iptr [AA id]] (.bool (decide (s.id = id))) := by
 intro h n
 refine gq Tryz.func301 rfl fun ho => ?_
 simp [go_sem, A6.enc, AC]
 exact Av ho (AO ho (Nat.le_refl _) AB) (by by_cases e : s.id = id <;> simp [e]) rfl
def QB (a b : ByteArray) : Bool := a.toList == b.toList
theorem c300 (s : A6) (kind : Int) (name : ByteArray) : PC 300 [s.enc, .iptr [AA kind], .iptr [.str name]] (.bool (decide (s.kind = kind) && QB s.name name)) := by
 intro h n
 refine gq Tryz.func300 rfl fun ho => ?_
 by_cases e : s.kind = kind <;> simp [go_sem, A6.enc, AC, e]
 all_goals exact Av ho (AO ho (Nat.le_refl _) AB) (by simp [QB]) rfl
def Dv (l : List A6) (id : Int) : Int := BK (fun i => match l[i]? with | some s => decide (s.id = id) | none => false) l.length 0
theorem c269 (l : List A6) (id : Int) (hl : l.length ≤ 1048576) : PC 269 [AT l, AA id] (.tup [AA (if 0 ≤ Dv l id then Dv l id else 0), .bool (decide (0 ≤ Dv l id))]) := by
 intro h n
 refine gq Tryz.func269 rfl fun ho => ?_
 simp [go_sem]
 have H := c299 l hl 301 [] [.iptr [AA id]] (fun i => match l[i]? with | some s => decide (s.id = id) | none => false) (fun i hi => by simpa [hi] using c301 l[i] id)
 refine H.lend 3 rfl ?_ ?_
 · simp [AQ, Fz, hset]
 · by_cases e : 0 ≤ Dv l id
   · have e2 : ¬ Dv l id < 0 := by omega
     simp only [Dv] at e e2
     simp [go_sem, e, e2]
     exact Av ho (AO ho (Nat.le_refl _) AB) (by simp [Dv, e]) rfl
   · have e2 : Dv l id < 0 := by omega
     simp only [Dv] at e e2
     simp [go_sem, e, e2]
     exact Av ho (AO ho (Nat.le_refl _) AB) (by simp [Dv, e]) rfl
def Cd (l : List A6) (kind : Int) (name : ByteArray) : Int := BK (fun i => match l[i]? with | some s => decide (s.kind = kind) && QB s.name name | none => false) l.length 0
theorem c267 (l : List A6) (kind : Int) (name : ByteArray) (hl : l.length ≤ 1048576) : PC 267 [AT l, AA kind, .str name] (.tup [AA (if 0 ≤ Cd l kind name then Cd l kind name else 0), .bool (decide (0 ≤ Cd l kind name))]) := by
 intro h n
 refine gq Tryz.func267 rfl fun ho => ?_
 simp [go_sem]
 have H := c299 l hl 300 [] [.iptr [AA kind], .iptr [.str name]] (fun i => match l[i]? with | some s => decide (s.kind = kind) && QB s.name name | none => false) (fun i hi => by simpa [hi] using c300 l[i] kind name)
 have hh : ∀ a b : Option BV, ∀ o x, h o = some x → hset (hset h n a) (n + 1) b o = some x := fun a b => AO ho (Nat.le_succ n) (AO ho (Nat.le_refl _) AB)
 refine H.lend 3 rfl ?_ ?_
 · simp [AQ, Fz, hset]
 · by_cases e : 0 ≤ Cd l kind name
   · have e2 : ¬ Cd l kind name < 0 := by omega
     simp only [Cd] at e e2
     simp [go_sem, e, e2]
     exact Av ho (hh _ _) (by simp [Cd, e]) rfl
   · have e2 : Cd l kind name < 0 := by omega
     simp only [Cd] at e e2
     simp [go_sem, e, e2]
     exact Av ho (hh _ _) (by simp [Cd, e]) rfl
theorem Qv (l : List A6) (id : Int) (h : 0 ≤ Dv l id) : ∃ i s, Dv l id = (i : Nat) ∧ l[i]? = some s := by
 rcases Fe (fun i => match l[i]? with | some s => decide (s.id = id) | none => false) l.length 0 with e | ⟨i, _, h2, h3, _⟩
 · have : Dv l id = -1 := e
   omega
 · exact ⟨i, l[i], h3, by simp [h2]⟩
def US (l : List A6) (kind id : Int) : Bool := decide (0 ≤ Dv l id) && (match l[(Dv l id).toNat]? with | some s => decide (s.kind = kind) | none => false)
theorem c208 (l : List A6) (kind id : Int) (hl : l.length ≤ 1048576) : PC 208 [AT l, AA kind, AA id] (.bool (US l kind id)) := by
 intro h n
 refine gq Tryz.func208 rfl fun ho => ?_
 simp [go_sem]
 refine (c269 l id hl).use ?_
 by_cases e : 0 ≤ Dv l id
 · obtain ⟨i, s, h1, h2⟩ := Qv l id e
   simp [go_sem, h1, h2, A6.enc]
   exact BC ho rfl (by simp [US, h1, h2]; by_cases hk : s.kind = kind <;> simp [hk])
 · simp [go_sem, e]
   exact BC ho rfl (by simp [US, e])
def IH (b : Int) : Bool := decide (32 ≤ b ∧ b ≤ 126)
def GF (s : ByteArray) : Bool := !decide (s.size = 0) && decide ((s.size : Int) ≤ 40) && !decide (Ad s 0 = 32) && !decide (Ad s (s.size - 1) = 32) && IP (fun i => IH (Ad s i)) s.size
theorem c266 (s : ByteArray) : PC 266 [.str s] (.bool (GF s)) := by
 intro h n
 refine gq Tryz.func266 rfl fun ho => ?_
 by_cases e1 : s.size = 0
 · simp [go_sem, e1]; exact BC ho rfl (by simp [GF, e1])
 by_cases e2 : (40 : Int) < s.size
 · simp [go_sem, e1, e2]; exact BC ho rfl (by simp [GF, e1]; omega)
 have e2' : (s.size : Int) ≤ 40 := by omega
 obtain ⟨a1, a2⟩ := Di (s := s) (i := 0) (by omega)
 obtain ⟨b1, b2⟩ := Di (s := s) (i := s.size - 1) (by omega)
 have w0 : IntKind.i64.wrap ((s.size : Int) - 1) = ((s.size - 1 : Nat) : Int) := by rw [C8] <;> omega
 have e1' : 0 < s.size := by omega
 by_cases e3 : Ad s 0 = 32
 · simp [go_sem, e1, e1', e2, ← a2, e3]; exact BC ho rfl (by simp [GF, e1, e3])
 by_cases e4 : Ad s (s.size - 1) = 32
 · simp [go_sem, e1, e1', e2, ← a2, e3, b1, ← b2, e4, w0]; exact BC ho rfl (by simp [GF, e1, e4])
 have hN : GF s = IP (fun i => IH (Ad s i)) s.size := by simp [GF, e1, e2', e3, e4]
 rw [hN]
 simp [go_sem, e1, e1', e2, ← a2, e3, b1, ← b2, e4, w0]
 refine An 1 (α := Nat) (fun k => [(0, .str s), (26, AA s.size), (27, AA k)]) (fun _ => h) (fun k m => k ≤ s.size ∧ n ≤ m ∧ IP (fun i => IH (Ad s i)) k = true) (fun k => s.size - k) 0 ?_ ?_ AB ?_
 · simp [IP]
 · simp [Ai]
 rintro k m ⟨hk, hnm, hf⟩
 by_cases hlt : k < s.size
 · have w1 := wS k (by omega)
   obtain ⟨g1, g2⟩ := Di hlt
   by_cases l1 : Ad s k < 32
   · simp [go_sem, hlt, ← g2, l1]
     exact BC ho rfl (by rw [IQ hlt (by simp [IH]; omega)])
   · by_cases l2 : 126 < Ad s k
     · simp [go_sem, hlt, ← g2, l1, l2]
       exact BC ho rfl (by rw [IQ hlt (by simp [IH]; omega)])
     · simp [go_sem, hlt, ← g2, l1, l2, w1, -Int.natCast_add]
       exact ⟨k + 1, by omega, ⟨by omega, hnm, by rw [IP, hf]; simp [IH]; omega⟩, Fz.same⟩
 · simp [go_sem, hlt]
   have : k = s.size := by omega
   subst this
   exact BC ho rfl (by rw [hf])
theorem OM (h : Hp) (j : Nat) (x : Option BV) : hset h j x j = x := by simp [hset]
theorem Aq (h : Hp) (j : Nat) (x y : Option BV) : hset (hset h j x) j y = hset h j y := by funext k; simp only [hset]; split <;> rfl
def Bl.inRound (E : Bl) (l : Nat) : Bl := { ro := some l, mks := false, base := 0, inv := E.inv, ext := E.ext }
def JY : List (Tmp × SV) → SA → SA
 | [], sa => sa
 | p :: r, sa => JY r (p :: sa)
section
variable {P : Program} {E : Bl} {N : Nat}
theorem FR.zip {c : Cx} : ∀ {ps : List Tmp} {args : List SV} {vs : List Value} {sa : SA} {tm : Array Value}, (∀ p ∈ ps, p < N) → AQ (V c) args vs → ps.length = args.length → FR E N sa c { tmps := tm, defers := [] } →
 FR E N (JY (ps.zip args) sa) c { tmps := (ps.zip vs).foldl (fun t p => t.setIfInBounds p.1 p.2) tm, defers := [] }
 | [], _, _, _, _, _, _, _, F => F
 | p :: ps, [], _, _, _, _, _, hl, _ => by simp at hl
 | p :: ps, a :: args, [], _, _, _, h, _, _ => h.elim
 | p :: ps, a :: args, v :: vs, sa, tm, hp, h, hl, F => by
  have := F.put (dst := some p) (fun d e => by cases e; exact hp _ (by simp)) h.1
  exact FR.zip (ps := ps) (fun q hq => hp q (by simp [hq])) h.2 (by simpa using hl) this
theorem Hi {h : Hp} {c : Cx} {o l : Nat} {r : Loop} (R : Bq h c) (ho : h o = some (.loop r)) (hρ : c.ρ o = some (l, 0)) : c.w.heap[l]? = some (.loop r) := by
 obtain ⟨b, h1, h2⟩ := R.obj o _ ho
 rw [hρ] at h1; cases h1; exact h2
theorem If {h : Hp} {c : Cx} {o l : Nat} {r : Loop} (r' : Loop) (R : Bq h c) (ho : h o = some (.loop r)) (hρ : c.ρ o = some (l, 0)) :
 Bq (hset h o (some (.loop r'))) { c with w := c.w.putObj l (.loop r') } ∧ DV c { c with w := c.w.putObj l (.loop r') } := by
 have hl := Hi R ho hρ
 have hlt := (Array.getElem?_eq_some_iff.1 hl).1
 refine R.write ho hρ (by simp) (fun b' hb' => World.putObj_heap_other hb') ?_ rfl rfl fun X => ⟨l, hρ, World.putObj_heap_same hlt⟩
 simp [rm, hl]
def Gj (fn : FuncId) (tm : Array Value) (ps : Array Tmp) (assign body : Code) (D : Nat) (st : LoopState) (pe : Option Code) : Loop :=
 { state := st, pending := pe, fn := fn, tmps := tm, params := ps, assign := assign, body := body, defers := D }
def Hl (n : Nat) (R : LoopState → Option Code → Loop) (Q1 : SV → Hp → Nat → Prop) : CZ := fun e _ h2 m2 =>
 h2 n = some (.loop (R .busy none)) ∧ match e with
  | .normal => Q1 (.bool true) (hset h2 n (some (.loop (R .ready none)))) m2
  | .ret => Q1 (.bool false) (hset h2 n (some (.loop (R .done (some .ret))))) m2
  | .exit id => Q1 (.bool false) (hset h2 n (some (.loop (R .done (some (.exit id)))))) m2
  | _ => False
def Pc (P : Program) (E : Bl) (N n : Nat) (R : LoopState → Option Code → Loop) (assign body : Code) (Q1 : SV → Hp → Nat → Prop) (sa : SA) (h : Hp) (m : Nat) : Prop :=
 HQ E P N assign (fun e sa1 h1 m1 => e = .normal ∧ h1 n = some (.loop (R .ready none)) ∧ HQ E P N body (Hl n R Q1) sa1 (hset h1 n (some (.loop (R .busy none)))) m1) sa h m
def loopQ (n : Nat) (R : LoopState → Option Code → Loop) (Q : CZ) (sa : SA) : SV → Hp → Nat → Prop := fun _ h' n' =>
 ∃ st pe, h' n = some (.loop (R st pe)) ∧ st ≠ .busy ∧ match pe with
  | none => Q .normal sa (hset h' n none) n'
  | some .ret => Q .ret sa (hset h' n none) n'
  | some (.exit id) => Q (.exit id) sa (hset h' n none) n'
  | _ => False
theorem OZ {E1 : Bl} {c1 : Cx} {l n : Nat} {fn : FuncId} {tm : Array Value} {ps : Array Tmp} {assign body : Code} {D : Nat} {sa : SA} (hinv : ∀ c', E1.inv c' → DV c1 c') (hρ : c1.ρ n = some (l, 0))
 (hps : ∀ p ∈ ps.toList, p < N) (hda : Code.dok N assign = true) (hdb : Code.dok N body = true) (hsz : tm.size = N) (hv : ∀ t, V c1 (Ai sa t) (tm.getD t undef))
 {args : List SV} {hy : Hp} {m : Nat} {Q1 : SV → Hp → Nat → Prop} (hn : hy n = some (.loop (Gj fn tm ps assign body D .ready none))) (hl : args.length = ps.size)
 (H : Pc P (E1.inRound l) N n (Gj fn tm ps assign body D) assign body Q1 (JY (ps.toList.zip args) sa) hy m) : Ez E1 P l args hy m Q1 := by
 intro c vs I R F A
 have X1 := hinv c I
 have hρc : c.ρ n = some (l, 0) := X1.ρ _ _ hρ
 have hlen := A.length
 refine ⟨_, _, _, _, run_yield (Hi R hn hρc) (by simp [Gj]; omega), roundIn_of_wpIn (F := Fence.wide) trivial ?_⟩
 have F0 : FR (E1.inRound l) N sa c { tmps := tm, defers := [] } := ⟨hsz, ⟨Nat.zero_le _, fun _ => rfl, by simp, by simp⟩, fun t => V.mono X1 (hv t)⟩
 have FZ := F0.zip (ps := ps.toList) hps A (by simp; omega)
 have etm : (ps.zip vs.toArray).foldl (fun tmps x => tmps.setIfInBounds x.1 x.2) tm = (ps.toList.zip vs).foldl (fun t p => t.setIfInBounds p.1 p.2) tm := by
  rw [← Array.foldl_toList, Array.toList_zip]
 have hA := H hda c _ I R F FZ
 rw [← etm] at hA
 refine wpIn_mono hA ?_
 rintro e a2 w2 ⟨sa2, h2, n2, c2, ⟨rfl, hn2, hB⟩, rfl, R2, F2, A2, X2⟩
 have hρ2 : c2.ρ n = some (l, 0) := X2.ext.ρ _ _ hρc
 obtain ⟨R3, X3⟩ := If (Gj fn tm ps assign body D .busy none) R2 hn2 hρ2
 refine ⟨_, run_beginRound (Hi R2 hn2 hρ2) rfl, ?_⟩
 have X23 : DV c { c2 with w := c2.w.putObj l (.loop (Gj fn tm ps assign body D .busy none)) } := X2.ext.trans X3
 refine wpIn_mono (hB hdb { c2 with w := c2.w.putObj l (.loop (Gj fn tm ps assign body D .busy none)) } a2 (E1.ext X23 I) R3 F2 (A2.ext X3)) ?_
 rintro e a4 w4 ⟨sa4, h4, n4, c4, ⟨hn4, hq⟩, rfl, R4, F4, A4, X4⟩
 have hρ4 : c4.ρ n = some (l, 0) := X4.ext.ρ _ _ hρ2
 have hl4 := Hi R4 hn4 hρ4
 have fin : ∀ (jump : Option Code) (b : Bool) (st : LoopState), b = jump.isNone → st = (if jump.isNone then .ready else .done) → Q1 (.bool b) (hset h4 n (some (.loop (Gj fn tm ps assign body D st jump)))) n4 →
  ∃ v w', (Instr.endRound l jump).run P c4.w = .ok v w' ∧ ∃ u v' h' n' c', Ending.returned v = .returned u ∧ Q1 v' h' n' ∧ c'.w = w' ∧ V c' v' u ∧ Bq h' c' ∧ Fr n' c' ∧ FY m c n' c' := by
  rintro jump b st rfl rfl hq
  obtain ⟨R5, X5⟩ := If (Gj fn tm ps assign body D (if jump.isNone then .ready else .done) jump) R4 hn4 hρ4
  refine ⟨_, _, run_endRound jump hl4, .bool jump.isNone, .bool jump.isNone, _, n4, _, rfl, hq, rfl, by simp [V], R5, F4, ⟨X23.trans (X4.ext.trans X5), Nat.le_trans X2.le X4.le, fun j hj => ?_⟩⟩
  exact (X4.same j (Nat.lt_of_lt_of_le hj X2.le)).trans (X2.same j hj)
 cases e with
 | normal => exact fin none true .ready rfl rfl hq
 | ret => exact fin (some .ret) false .done rfl rfl hq
 | exit id => exact fin (some (.exit id)) false .done rfl rfl hq
 | _ => exact hq.elim
def Cx.begin (c : Cx) (n : Nat) (r : Loop) : Cx := Cx.alloc { c with w := c.w.alloc (.deferred (some [])) } n (.loop r)
theorem Kz (c : Cx) : DV c { c with w := c.w.alloc (.deferred (some [])) } := by
 refine ⟨fun _ _ e => e, by simp, fun b hb ho => ⟨ho, ?_⟩, fun b => ?_, rfl, rfl⟩
 · simp [BX, Array.getElem?_push, Nat.ne_of_lt hb]
 · unfold rm
   rcases Nat.lt_or_ge b c.w.heap.size with hx | hx
   · simp [BX, Array.getElem?_push, Nat.ne_of_lt hx]
   · simp [Array.getElem?_eq_none hx]
theorem O7 {h : Hp} {c : Cx} (R : Bq h c) : Bq h { c with w := c.w.alloc (.deferred (some [])) } := by
 refine ⟨fun o x e => (R.obj o x e).mono (Kz c) fun b st hb => ?_, R.inj, R.own⟩
 obtain ⟨b', st', h1, h2⟩ := (R.obj o x e).block
 rw [hb] at h1; cases h1
 simp [BX, Array.getElem?_push, Nat.ne_of_lt h2]
theorem FC {g : Operand} {ps : Array Tmp} {assign body : Code} {Q : CZ} {sa : SA} {h : Hp} {n : Nat} {f : FuncId} {ys : List SV} (hro : E.ro = none) (hmk : E.mks = true) (hg : GW sa g = .fn (.func f) [] ys)
 (H : ∀ (E1 : Bl) (l : Nat) (R : LoopState → Option Code → Loop),
   (∀ args hy m Q1, hy n = some (.loop (R .ready none)) → args.length = ps.size → Pc P (E1.inRound l) N n R assign body Q1 (JY (ps.toList.zip args) sa) hy m → Ez E1 P l args hy m Q1) →
   Ag E1 P f (.fn (.yield l) [] [] :: ys) (hset h n (some (.loop (R .ready none)))) (n + 1) (loopQ n R Q sa)) :
 HQ E P N (.rangeFunc g ps assign body) Q sa h n := by
 intro hd c a I R F A
 simp only [Code.dok, Bool.and_eq_true, List.all_eq_true, decide_eq_true_eq] at hd
 obtain ⟨hps, hda, hdb⟩ := hd
 have hfc : E.fc = Fence.wide := by simp only [Bl.fc, hro, Fence.wide]
 rw [hfc]
 refine wpIn_rangeFunc fun fn _ => ?_
 have hρn : c.ρ n = none := F n (Nat.le_refl _)
 obtain ⟨r0, hr0⟩ : ∃ r0, r0 = Gj fn a.tmps ps assign body c.w.heap.size .ready none := ⟨_, rfl⟩
 have R1 : Bq (hset h n (some (.loop r0))) (c.begin n r0) := (O7 R).alloc hρn ⟨c.w.heap.size + 1, by simp [Cx.alloc], by have := World.alloc_heap_new (c.w.alloc (.deferred (some []))) (.loop r0); rwa [World.size_alloc] at this⟩
 have X1 : DV c (c.begin n r0) := (Kz c).trans (Cx.alloc_ext _ n (.loop r0) hρn)
 have hρ1 : (c.begin n r0).ρ n = some (c.w.heap.size + 1, 0) := by simp [Cx.begin, Cx.alloc]
 have F1 : Fr (n + 1) (c.begin n r0) := fun j hj => by
  have : j ≠ n := by omega
  simp [Cx.begin, Cx.alloc, this]; exact F j (by omega)
 have hw1 : (c.begin n r0).w = (c.w.alloc (.deferred (some []))).alloc (.loop r0) := rfl
 have hD1 : (c.begin n r0).w.heap[c.w.heap.size]? = some (.deferred (some [])) := by
  rw [hw1]; simp [BX, Array.getElem?_push]
 have hDo : ¬ (c.begin n r0).own c.w.heap.size := by
  rintro (h1 | h1)
  · obtain ⟨o, x, st, e1, e2⟩ := (R.own _).1 h1
    obtain ⟨b', st', h3, h4⟩ := (R.obj o x e1).block
    rw [e2] at h3; cases h3; omega
  · simp at h1
 let E1 : Bl := { ro := none, mks := false, base := 0, inv := fun c' => E.inv c' ∧ DV (c.begin n r0) c', ext := fun x i => ⟨E.ext x i.1, i.2.trans x⟩ }
 have hcall := H E1 (c.w.heap.size + 1) (Gj fn a.tmps ps assign body c.w.heap.size) fun args hy m Q1 hn hl hW =>
  OZ (E1 := E1) (c1 := c.begin n r0) (fun c' i => i.2) hρ1 hps hda hdb A.size (fun t => V.mono X1 (A.val t)) hn hl hW
 rw [← hr0] at hcall
 have hf := A.ev g
 rw [hg, V] at hf
 obtain ⟨xs, yv, hfv, h1, h2⟩ := hf
 simp only [VL] at h1
 subst h1
 have hargs : AQ (V (c.begin n r0)) (.fn (.yield (c.w.heap.size + 1)) [] [] :: ys) (.func (.yield (c.w.heap.size + 1)) #[] #[] :: yv) :=
  ⟨by simp [V, VL], BI.1 (VL.mono X1 h2)⟩
 have hcl := hcall.2 (c.begin n r0) _ ⟨E.ext X1 I, DV.refl _⟩ R1 F1 hargs
 have hok := hcall.1
 unfold L8 at hok
 cases hfn : P.funcs[f]? with
 | none => simp [hfn] at hok
 | some fn' =>
 simp only [hfn, Bool.and_eq_true, bne_iff_ne, ne_eq] at hok
 have hb : fn'.body ≠ none := by intro e; simp [e] at hok
 refine ⟨c.w.heap.size + 1, [Rh c.w.heap.size], (c.begin n r0).w, { target := .fn (.func f) yv.toArray, args := #[.func (.yield (c.w.heap.size + 1)) #[] #[]] }, (c.begin n r0).w, f,
  (.func (.yield (c.w.heap.size + 1)) #[] #[] :: yv).toArray, (c.begin n r0).w, ?_, ?_, fun _ _ => trivial, ?_, fun e => by simp [Fence.wide] at e, ?_⟩
 · rw [hw1, hr0]; exact run_enterLoop_outer _ _ _ _ _
 · simp [resolve, Deferred.ofValue, hfv]
   rfl
 · simp [invoke, callFunc, hfn, hok.2, hb]
 · refine callsIn_wide.2 (hcl.mono ?_)
   rintro e w3 ⟨u, v, h', n', c', rfl, ⟨st, pe, hn', hst, hq⟩, rfl, hv, R', F', X'⟩
   have hρ' : c'.ρ n = some (c.w.heap.size + 1, 0) := X'.ext.ρ _ _ hρ1
   obtain ⟨R3, X3⟩ := If (Gj fn a.tmps ps assign body c.w.heap.size .exhausted pe) R' hn' hρ'
   have R4 := R3.kill n (OM _ _ _)
   have X4 := X3.trans (Cx.kill_ext { c' with w := c'.w.putObj (c.w.heap.size + 1) (.loop (Gj fn a.tmps ps assign body c.w.heap.size .exhausted pe)) } n)
   rw [Aq] at R4
   have XX := X1.trans (X'.ext.trans X4)
   have hD4 := (X'.ext.trans X4).keep _ (Array.getElem?_eq_some_iff.1 hD1).1 hDo
   refine ⟨pe, _, run_endLoop (Hi R' hn' hρ') hst, ?_⟩
   have mk : ∀ e, Q e sa (hset h' n none) n' → Q9 E N n c Q e { a with defers := [Rh c.w.heap.size] ++ a.defers } (c'.w.putObj (c.w.heap.size + 1) (.loop (Gj fn a.tmps ps assign body c.w.heap.size .exhausted pe))) := fun e hq => by
    refine ⟨sa, hset h' n none, n', _, hq, rfl, R4, F', ⟨A.size, ⟨Nat.le_trans A.defers.base XX.size, fun e => (by rw [hmk] at e; cases e), ?_, fun d hd => ?_⟩, fun t => V.mono XX (A.val t)⟩, ⟨XX, by have := X'.le; omega, fun j hj => ?_⟩⟩
    · refine List.nodup_cons.2 ⟨fun hm => ?_, A.defers.nodup⟩
      obtain ⟨D, _, e2, e3, _⟩ := A.defers.ok _ hm
      have : D = c.w.heap.size := by simp [Rh] at e2; exact e2.symm
      have := (Array.getElem?_eq_some_iff.1 e3).1
      omega
    · rcases List.mem_cons.1 hd with rfl | hd
      · exact ⟨c.w.heap.size, A.defers.base, rfl, hD4.2.trans hD1, hD4.1⟩
      · exact (A.defers.mono XX).ok d hd
    · have : j ≠ n := by omega
      have e1 : (c.begin n r0).ρ j = c.ρ j := by simp [Cx.begin, Cx.alloc, this]
      exact (X'.same j (by omega)).trans e1
   cases pe with
   | none => exact mk .normal hq
   | some j =>
    cases j with
    | ret => exact wpIn_ret (mk .ret hq)
    | exit id => exact wpIn_exit (mk (.exit id) hq)
    | _ => exact hq.elim
end
theorem goM {E : Bl} {f : FuncId} {fn : Func} {code : Code} {args : List SV} {h : Hp} {n : Nat} {K : SV → Hp → Nat → Prop} (hf : Tryz.prog.funcs[f]? = some fn) (hb : fn.body = some code)
 (hn : (fn.name != "runtime.NumGoroutine") = true) (hd : Code.dok fn.ntmps code = true) (hl : args.length ≤ fn.ntmps)
 (H : Fd h n → ∀ B, Ja (E.call true B) Tryz.prog fn.ntmps code (MB Tryz.prog fn n K) (EH 0 args) h n) : Ag E Tryz.prog f args h n K :=
 Ku hf hb hn hd hl fun _ ho B => AH (H ho B)
theorem IF {E : Bl} {N n : Nat} {R : LoopState → Option Code → Loop} {assign body : Code} {Q1 : SV → Hp → Nat → Prop} {sa : SA} {h : Hp} {m : Nat}
 (H : Ja E Tryz.prog N assign (fun e sa1 h1 m1 => e = .normal ∧ h1 n = some (.loop (R .ready none)) ∧ Ja E Tryz.prog N body (Hl n R Q1) sa1 (hset h1 n (some (.loop (R .busy none)))) m1) sa h m) : Pc Tryz.prog E N n R assign body Q1 sa h m :=
 Fy (AH H) fun _ _ _ _ ⟨a, b, c⟩ => ⟨a, b, AH c⟩
section
variable {P : Program} {E : Bl}
theorem Ij (d : Nat) {t e : TypeId} (a : Option Addr) (l cap : Nat) (hu : P.underlying t = some (.slice e)) (w : World) : (Op.equalIn (d + 1) t (.slice a l cap) (.slice none 0 0)).run P w = .ok a.isNone w := by
 cases a <;> simp [Op.equalIn, AJ hu]
theorem Nz {t e : TypeId} (a : Option Addr) (l cap : Nat) (hu : P.underlying t = some (.slice e)) (w : World) :
 (binOp .eql t (.slice a l cap) (.slice none 0 0)).run P w = .ok (.bool a.isNone) w := by
 have := Ij 9999 a l cap hu w
 simp only [binOp, Op.equal]; simp [Op.maxDepth, this]
theorem CX {evs : Operand → SV} {o : Oper} {h : Hp} {n : Nat} {K : SV → Hp → Nat → Prop} {t t2 : TypeId} {x : Operand} {z : Nat} {es : List SV} {full : Bool} (ho : o.op = .binOp .eql t x (.const (.slice none 0 0)) t2)
 (ht : (BA P t).isSome = true) (hx : evs x = .imm z es full) (h1 : es = [] → K (.bool true) h n) (h2 : K (.bool false) h n) : Dw E P evs o h n K := by
 refine ⟨by rw [ho]; simp, fun c ev hc _ R F hv => ?_⟩
 have hvx := hv x
 obtain ⟨e, ht⟩ := Option.isSome_iff_exists.1 ht
 have ht := As ht
 rw [hx, V] at hvx
 have fin : ∀ (a : Option Addr) (l cap : Nat), ev x = .slice a l cap → K (.bool a.isNone) h n → ∃ u v h' n' c', (execOp ev o).run P c.w = .ok (.value u) c'.w ∧ V c' v u ∧ Bq h' c' ∧ Fr n' c' ∧ FY n c n' c' ∧ K v h' n' := fun a l cap e hk =>
  ⟨.bool a.isNone, .bool a.isNone, h, n, c, by simp [execOp, ho, e, hc, Ho (P := P) (a := .slice a l cap), Nz a l cap ht], by simp [V], R, F, FY.refl n c, hk⟩
 rcases hvx with ⟨he, e⟩ | ⟨a, cap, vs, e, _⟩
 · exact fin _ _ _ e (h1 he)
 · exact fin _ _ _ e h2
def Ds (P : Program) (t : TypeId) : SV → SV → Option Bool
 | .int k a, .int k' b => if k = k' ∧ (Kd P t).isSome = true ∧ Bb P t = 1 ∧ Fo P t = some false then some (a == b) else none
 | .str a, .str b => if Ep P t = true ∧ Bb P t = 1 ∧ Fo P t = some false then some (a.toList == b.toList) else none
 | .bool a, .bool b => if Lq P t = true ∧ Bb P t = 1 ∧ Fo P t = some false then some (a == b) else none
 | _, _ => none
def CV (P : Program) (cs ds : List SV) : List Field → Option Bool
 | [] => some true
 | f :: fs => if f.name = "_" then none else
  match cs[f.offset]?, ds[f.offset]? with
  | some x, some y => match Ds P f.type x y with | some true => CV P cs ds fs | r => r
  | _, _ => none
def CR (P : Program) (t : TypeId) : List Field := (P.fieldsOf t).toList
theorem PD {c : Cx} {t : TypeId} {x y : SV} {u v : Value} {b : Bool} (h : Ds P t x y = some b) (hx : V c x u) (hy : V c y v) (d : Nat) (w : World) : (Op.equalIn (d + 1) t u v).run P w = .ok b w ∧ Bb P t = 1 ∧ Fo P t = some false := by
 unfold Ds at h
 split at h
 · split at h <;> try cases h
   rename_i hc
   obtain ⟨rfl, h1, h2, h3⟩ := hc
   rw [C9 hx, C9 hy]
   obtain ⟨i, hi⟩ := Option.isSome_iff_exists.1 h1
   exact ⟨run_equalIn_int w d t _ _ _ _ (Fw hi), h2, h3⟩
 · split at h <;> try cases h
   rename_i hc
   obtain ⟨h1, h2, h3⟩ := hc
   rw [Kf hx, Kf hy]
   exact ⟨run_equalIn_string w d t _ _ (by unfold Ep at h1; split at h1 <;> first | assumption | cases h1), h2, h3⟩
 · split at h <;> try cases h
   rename_i hc
   obtain ⟨h1, h2, h3⟩ := hc
   rw [GT hx, GT hy]
   exact ⟨GQ d _ _ (HF h1) w, h2, h3⟩
 · cases h
theorem G2 {c : Cx} {cs ds : List SV} {vs us : List Value} (hc : AQ (V c) cs vs) (hd : AQ (V c) ds us) (h1 : ∀ x ∈ vs, x.oneCell' = true) (h2 : ∀ x ∈ us, x.oneCell' = true) (d : Nat) (w : World) :
 ∀ (fs : List Field) (b : Bool), CV P cs ds fs = some b → (Op.eqFields (d + 1) vs.toArray us.toArray fs).run P w = .ok b w
 | [], b, h => by simp [CV] at h; subst h; simp [Op.eqFields]
 | f :: fs, b, h => by
  simp only [CV] at h
  split at h <;> try cases h
  rename_i hn
  split at h <;> try cases h
  rename_i x y hx hy
  obtain ⟨u, hu, hvx⟩ := hc.get hx
  obtain ⟨v, hv, hvy⟩ := hd.get hy
  obtain ⟨b', hb⟩ : ∃ b', Ds P f.type x y = some b' := by
   cases hb : Ds P f.type x y with
   | none => simp [hb] at h
   | some b' => exact ⟨b', rfl⟩
  obtain ⟨hr, hs, ha⟩ := PD hb hvx hvy d w
  have p1 : (part f.type vs.toArray f.offset).run P w = .ok u w := by simp [part, EJ ha, hu]
  have p2 : (part f.type us.toArray f.offset).run P w = .ok v w := by simp [part, EJ ha, hv]
  simp only [Op.eqFields, ne_eq, hn, not_false_eq_true, if_true, Sem.run_bind, p1, p2, hr, Result.andThen_ok]
  rw [hb] at h
  cases b'
  · simp at h; subst h; simp
  · simp only at h
    simp only [Bool.not_true, Bool.false_eq_true, if_false]
    exact G2 hc hd h1 h2 d w fs b h
theorem G9 {evs : Operand → SV} {o : Oper} {t t2 : TypeId} {x y : Operand} {op : BinOp} {cs ds : List SV} {b : Bool} (ho : o.op = .binOp op t x y t2) (hop : op = .eql ∨ op = .neq)
 (ht : P.underlying t = some (.struct (P.fieldsOf t))) (hp : P.stoodInHeld t = false) (hm : P.eqGuardType P.depth t = false)
 (hx : evs x = .agg cs) (hy : evs y = .agg ds) (hb : CV P cs ds (CR P t) = some b) : QJ P evs o (.bool (if op = .eql then b else !b)) := by
 refine ⟨by rw [ho]; simp, fun c ev _ hv => ?_⟩
 have hvx := hv x (by simp [ho, Op.operands])
 have hvy := hv y (by simp [ho, Op.operands])
 rw [hx] at hvx; rw [hy] at hvy
 obtain ⟨vs, e1, h1, h2⟩ := Fp hvx
 obtain ⟨us, e2, h3, h4⟩ := Fp hvy
 have hr := G2 h1 h3 h2 h4 9998 c.w _ _ hb
 have hrr : (Op.equalIn 10000 t (.agg vs.toArray) (.agg us.toArray)).run P c.w = .ok b c.w := by rw [run_equalIn_struct c.w 9999 t _ _ ht hp]; exact hr
 rcases hop with rfl | rfl
 · exact ⟨.bool b, by simp only [execOp, ho, e1, e2, Sem.run_bind, run_eqGuard_agg c.w _ _ _ _ _ _ hm, Result.andThen_ok, run_eql_struct, hrr]; simp, by simp [V]⟩
 · exact ⟨.bool !b, by simp only [execOp, ho, e1, e2, Sem.run_bind, run_eqGuard_agg c.w _ _ _ _ _ _ hm, Result.andThen_ok, run_neq_struct, hrr]; simp, by simp [V]⟩
theorem DL {evs : Operand → SV} {o : Oper} {h : Hp} {n : Nat} {K : SV → Hp → Nat → Prop} {t : TypeId} {z : Nat} {ps : Array (Nat × Operand)} (ho : o.op = .buildSlice t 0 ps) (hps : ps = #[]) (hi : ((BA P t).bind P.info?).isSome = true)
 (hk : K (.imm z [] true) h n) : Dw E P evs o h n K := by
 subst hps
 refine ⟨by rw [ho]; simp, fun c ev hc _ R F hv => ?_⟩
 obtain ⟨i, hi⟩ := Option.isSome_iff_exists.1 hi
 obtain ⟨e, ht, hi⟩ := Option.bind_eq_some_iff.1 hi
 have hu := As ht
 have hw : (execOp ev o).run P c.w = .ok (.value (.slice (some ⟨c.w.heap.size, 0, none⟩) 0 0)) (c.w.alloc (.cells #[] e)) := by
  simp [execOp, ho, Instr.buildSlice, AJ hu, sizeOf, typeInfo, hi, Instr.fill, newRow]
  congr 2; simp
 have X : DV c { c with w := c.w.alloc (.cells #[] e) } := by
  refine ⟨fun _ _ e => e, by simp, fun b hb hn => ⟨hn, ?_⟩, fun b => ?_, rfl, rfl⟩
  · simp [BX, Array.getElem?_push, Nat.ne_of_lt hb]
  · unfold rm
    rcases Nat.lt_or_ge b c.w.heap.size with hx | hx
    · simp [BX, Array.getElem?_push, Nat.ne_of_lt hx]
    · simp [Array.getElem?_eq_none hx]
 refine ⟨_, .imm z [] true, h, n, { c with w := c.w.alloc (.cells #[] e) }, hw, ?_, ⟨fun o x e => (R.obj o x e).mono X fun b st hb => ?_, R.inj, R.own⟩, F, ⟨X, Nat.le_refl _, fun _ _ => rfl⟩, hk⟩
 · rw [V]; exact .inr ⟨⟨c.w.heap.size, 0, none⟩, 0, [], rfl, Nat.le_refl _, fun _ => rfl, ⟨by simp, by simp, by simp, by simp⟩, by simp [VE]⟩
 · obtain ⟨b', st', h1, h2⟩ := (R.obj o x e).block
   rw [hb] at h1; cases h1
   simp [BX, Array.getElem?_push, Nat.ne_of_lt h2]
def EQ (P : Program) (cs ds : List SV) : List (Bool × TypeId × Nat) → Option Bool
 | [] => some true
 | f :: fs => if f.1 = true then none else
  match cs[f.2.2]?, ds[f.2.2]? with
  | some x, some y => match Ds P f.2.1 x y with | some true => EQ P cs ds fs | r => r
  | _, _ => none
theorem Dk (cs ds : List SV) : ∀ fs : List Field, CV P cs ds fs = EQ P cs ds (fs.map fun f => (f.name == "_", f.type, f.offset))
 | [] => rfl
 | f :: fs => by
  simp only [CV, EQ, List.map_cons, beq_iff_eq, Dk cs ds fs]
end
structure L3 {α : Type} (f : α → SV) (z : Nat) : Prop where
 st : ∀ x, (f x).storable = true
 len : ∀ x, (f x).cells.length = z
 cl : ∀ n x, closed n (f x) = true
theorem L3.size {α : Type} {f : α → SV} {z : Nat} (H : L3 f z) (l : List α) : ∀ e ∈ l.map f, e.storable = true ∧ e.cells.length = z := by
 intro e he; simp only [List.mem_map] at he; obtain ⟨x, _, rfl⟩ := he; exact ⟨H.st x, H.len x⟩
theorem L3.closedL {α : Type} {f : α → SV} {z : Nat} (H : L3 f z) (n : Nat) (l : List α) : closedL n (l.map f) = true := DY.2 (by
 intro e he; simp only [List.mem_map] at he; obtain ⟨x, _, rfl⟩ := he; exact H.cl n x)
theorem L3.imm {α : Type} {f : α → SV} {z : Nat} (H : L3 f z) (n z' : Nat) (l : List α) (full : Bool) : closed n (.imm z' (l.map f) full) = true := by rw [closed]; exact H.closedL n l
theorem LN : L3 AA 1 := ⟨fun _ => rfl, fun _ => rfl, fun _ _ => rfl⟩
theorem FH.E : L3 FH.enc 2 := ⟨fun _ => rfl, fun _ => rfl, fun _ _ => rfl⟩
theorem CF.E : L3 CF.enc 2 := ⟨fun _ => rfl, fun _ => rfl, fun _ _ => rfl⟩
theorem BD.E : L3 BD.enc 4 := ⟨fun _ => rfl, fun _ => rfl, fun _ _ => rfl⟩
theorem BF.E : L3 BF.enc 3 := ⟨fun _ => rfl, fun _ => rfl, fun _ _ => rfl⟩
theorem Cu.E : L3 Cu.enc 4 := ⟨fun _ => rfl, fun _ => rfl, fun _ _ => rfl⟩
theorem Aw.E : L3 Aw.enc 6 := ⟨fun _ => rfl, fun _ => rfl, fun _ _ => rfl⟩
theorem GV.E : L3 GV.enc 2 := ⟨fun _ => rfl, fun _ => rfl, fun _ _ => rfl⟩
theorem A6.E : L3 A6.enc 6 := ⟨fun _ => rfl, fun _ => rfl, fun n s => by simp [A6.enc, closed, closedL, FH.E.closedL]⟩
theorem GY.E : L3 GY.enc 2 := ⟨fun _ => rfl, fun _ => rfl, fun n s => by simp [GY.enc, closed, closedL, Cu.E.closedL]⟩
theorem AF.flat_closed (n : Nat) (h : AF) : Sh.closedL n h.flat = true := by simp [AF.flat, closed, closedL, FH.E.closedL, CF.E.closedL, BD.E.closedL]
theorem AF.E : L3 AF.enc 5 := ⟨fun _ => rfl, fun _ => rfl, fun n s => by rw [AF.enc, closed]; exact s.flat_closed n⟩
theorem Cv (n : Nat) : ∀ (a b : List SV), closedL n (a ++ b) = (closedL n a && closedL n b)
 | [], b => by simp [closedL]
 | x :: a, b => by simp [closedL, Cv n a b, Bool.and_assoc]
mutual
theorem AE.cl (n : Nat) : ∀ x : AE, closed n x.enc = true
 | .mk k c i t h f r => by
  rw [AE.enc, closed, Cv, Cv]
  simp [closed, closedL, h.flat_closed, AE.clL n f, AS.clL n r]
theorem AE.clL (n : Nat) : ∀ l : List AE, closedL n (AE.encL l) = true
 | [] => by simp [AE.encL, closedL]
 | x :: l => by rw [AE.encL, closedL, AE.cl n x, AE.clL n l]; rfl
theorem AS.cl (n : Nat) : ∀ x : AS, closed n x.enc = true
 | .mk h c => by
  rw [AS.enc, closed, Cv]
  simp [closed, closedL, h.flat_closed, AK.clL n c]
theorem AS.clL (n : Nat) : ∀ l : List AS, closedL n (AS.encL l) = true
 | [] => by simp [AS.encL, closedL]
 | x :: l => by rw [AS.encL, closedL, AS.cl n x, AS.clL n l]; rfl
theorem AK.cl (n : Nat) : ∀ x : AK, closed n x.enc = true
 | .mk i h f => by
  rw [AK.enc, closed, Cv, Cv]
  simp [closed, closedL, h.flat_closed, AE.clL n f]
theorem AK.clL (n : Nat) : ∀ l : List AK, closedL n (AK.encL l) = true
 | [] => by simp [AK.encL, closedL]
 | x :: l => by rw [AK.encL, closedL, AK.cl n x, AK.clL n l]; rfl
end
theorem AE.E : L3 AE.enc 11 := ⟨fun x => by rw [AE.enc_eq]; rfl, fun x => by rw [AE.enc_eq]; rfl, AE.cl⟩
theorem AS.E : L3 AS.enc 6 := ⟨fun x => by rw [AS.enc_eq]; rfl, fun x => by rw [AS.enc_eq]; rfl, AS.cl⟩
theorem AK.E : L3 AK.enc 7 := ⟨fun x => by rw [AK.enc_eq]; rfl, fun x => by rw [AK.enc_eq]; rfl, AK.cl⟩
def AI.enc (d : AI) : SV := .agg ([AG d.flow] ++ d.«end».flat ++ [A3 d.revs] ++ d.settings.flat)
theorem Dq {h' h : Hp} {k z o : Nat} {es : List SV} {full full' : Bool} (hn : h o = none) (hf : full' = true → full = true) (hh : h' o = some (.cells (es.flatMap SV.cells))) (hs : ∀ e ∈ es, e.storable = true ∧ e.cells.length = z) :
 Fz h' h (k + 1) (.sl o 0 z es.length full) (.imm z es full') := by
 refine .inr ⟨hn, hf, rfl, rfl, _, _, hh, by simp [Bi, BH hs]; rfl, hs, ?_⟩
 have : ∀ l : List SV, AQ (Fz h' h k) l l := by
  intro l; induction l with
  | nil => trivial
  | cons a l ih => exact ⟨Fz.same, ih⟩
 simp only [← BH hs, List.take_length]
 exact this _
theorem Ba {h' h : Hp} {k z z' : Nat} {full full' : Bool} (hf : full' = true → full = true) : Fz h' h (k + 1) (.imm z [] full) (.imm z' [] full') :=
 .inr ⟨hf, .inl rfl, trivial, by simp⟩
theorem Rv {α : Type} {f : α → SV} {z : Nat} (H : L3 f z) {h h' : Hp} {n n' o : Nat} {v : SV} {l : List α} {full : Bool} (ho : Fd h n) (hh : ∀ o x, h o = some x → h' o = some x) (hn : n ≤ o) (hv : v = .sl o 0 z l.length full) (hc : h' o = some (.cells ((l.map f).flatMap SV.cells))) :
 CG n h' n' v (Is (.imm z (l.map f) false) h n) := by
 subst hv
 have := Dq (h' := h') (h := h) (k := 0) (z := z) (es := l.map f) (full := full) (full' := false) (ho.none hn) (by simp) hc (H.size l)
 rw [List.length_map] at this
 exact Dp 1 ho hh this (H.imm _ _ _ _)
theorem JP {h h' : Hp} {n n' z z' : Nat} {v : SV} {full full' : Bool} (ho : Fd h n) (hh : ∀ o x, h o = some x → h' o = some x) (hf : full' = true → full = true) (hv : v = .imm z [] full) : CG n h' n' v (Is (.imm z' [] full') h n) := by
 subst hv; exact Dp 1 ho hh (Ba hf) (by simp [closed, closedL])
theorem Gu {P : Program} {h : Hp} {n z : Nat} {t t2 el : TypeId} {es : List SV} {full : Bool} (ht : BA P t = some el) (ht2 : (BA P t2).isSome = true) (hz : Bb P el = z) (hz0 : z ≠ 0) (hst : (BN P el).storable = true) (hzl : (BN P el).cells.length = z)
 (hb : Bj P el ≤ 65536) (hne : es ≠ []) (hroom : es.length ≤ 1073741824) (hrow : II el = none := by rfl) :
 AZ P h n .append [t, t2] [.imm z [] true, .imm z es full] = some { val := .sl n 0 z es.length false, new := some (.cells (es.flatMap SV.cells)) } := by
 have h0 : es.length ≠ 0 := by cases es <;> simp at hne ⊢
 have hr : EW (0 + es.length) (Bj P el) = true := by simp [EW]; exact ⟨hroom, hb⟩
 simp only [AZ, ht2, if_true, Ed, ht, F7, flat, hz, hzl, hst]
 simp [J6, hz0, h0, hrow]
 simpa using hr
def Nu (z : Nat) (es : List SV) (h : Hp) (n : Nat) : SV → Hp → Nat → Prop := fun v h' n' =>
 n ≤ n' ∧ (∀ o x, h o = some x → h' o = some x) ∧ ((es = [] ∧ ∃ z' full, v = .imm z' [] full) ∨ ∃ o full, n ≤ o ∧ o < n' ∧ v = .sl o 0 z es.length full ∧ h' o = some (.cells (es.flatMap SV.cells)))
abbrev LC (f : FuncId) (args : List SV) (z : Nat) (es : List SV) : Prop := ∀ h n, BO Tryz.prog f args h n (Nu z es h n)
theorem LC.pc {f : FuncId} {args : List SV} {z : Nat} {es : List SV} (H : LC f args z es) (hs : ∀ e ∈ es, e.storable = true ∧ e.cells.length = z) (hcl : ∀ n, closedL n es = true) : PC f args (.imm z es false) := by
 intro h n
 refine ⟨(H h n).1, fun c vs I R F A => ((H h n).2 c vs I R F A).mono ?_⟩
 rintro e w' ⟨u, v, h', n', c', rfl, ⟨hle, hh, hv⟩, rfl, hV, R', F', X⟩
 have ho : Fd h n := fun o x e => Gx F (R.obj o x e)
 have hfz : Fz h' h 1 v (.imm z es false) := by
  rcases hv with ⟨rfl, z', full, rfl⟩ | ⟨o, full, h1, h2, rfl, h3⟩
  · exact Ba (by simp)
  · exact Dq (ho.none h1) (by simp) h3 hs
 have RL := R'.less hh
 have hv2 : V ((c'.less h).cut h n) (.imm z es false) u := (hfz.sound R' hh 1 hV).cut RL (fun _ _ e => e) (by rw [closed]; exact hcl n)
 refine ⟨u, _, h, n, (c'.less h).cut h n, rfl, ⟨rfl, rfl, rfl⟩, rfl, hv2, RL.cut (fun o x e => ⟨e, ho o x e⟩), RK, ⟨Px RL (fun _ _ e => e) F (Nat.le_refl _) (X.ext.trans (C0 R' hh)), Nat.le_refl _, fun j hj => ?_⟩⟩
 simp only [Cx.cut, hj, if_true]
 exact X.same j hj
theorem LC.use {E : Bl} {f : FuncId} {args : List SV} {z : Nat} {es : List SV} (H : LC f args z es) {h : Hp} {n : Nat} {K : SV → Hp → Nat → Prop} (hk : ∀ v h' n', Nu z es h n v h' n' → K v h' n') : Ag E Tryz.prog f args h n K :=
 Ag.lift ((H h n).mono hk)
structure AF.sized (h : AF) : Prop where
 props : h.props.length ≤ 1048576
 dels : h.dels.length ≤ 1048576
 layers : h.layers.length ≤ 1048576
mutual
def AE.sized : AE → Prop
 | .mk _ _ _ t h f r => t.size ≤ 1048576 ∧ h.sized ∧ f.length ≤ 1048576 ∧ r.length ≤ 1048576 ∧ AE.sizedL f ∧ AS.sizedL r
def AE.sizedL : List AE → Prop
 | [] => True
 | x :: l => x.sized ∧ AE.sizedL l
def AS.sized : AS → Prop
 | .mk h c => h.sized ∧ c.length ≤ 1048576 ∧ AK.sizedL c
def AS.sizedL : List AS → Prop
 | [] => True
 | x :: l => x.sized ∧ AS.sizedL l
def AK.sized : AK → Prop
 | .mk _ h f => h.sized ∧ f.length ≤ 1048576 ∧ AE.sizedL f
def AK.sizedL : List AK → Prop
 | [] => True
 | x :: l => x.sized ∧ AK.sizedL l
end
theorem AE.sizedL_mem : ∀ {l : List AE}, AE.sizedL l → ∀ x ∈ l, x.sized
 | _ :: _, h, x, hx => by rw [AE.sizedL] at h; rcases List.mem_cons.1 hx with rfl | hx; exact h.1; exact AE.sizedL_mem h.2 x hx
theorem AS.sizedL_mem : ∀ {l : List AS}, AS.sizedL l → ∀ x ∈ l, x.sized
 | _ :: _, h, x, hx => by rw [AS.sizedL] at h; rcases List.mem_cons.1 hx with rfl | hx; exact h.1; exact AS.sizedL_mem h.2 x hx
theorem AK.sizedL_mem : ∀ {l : List AK}, AK.sizedL l → ∀ x ∈ l, x.sized
 | _ :: _, h, x, hx => by rw [AK.sizedL] at h; rcases List.mem_cons.1 hx with rfl | hx; exact h.1; exact AK.sizedL_mem h.2 x hx
theorem AE.sizedL_of : ∀ {l : List AE}, (∀ x ∈ l, x.sized) → AE.sizedL l
 | [], _ => by rw [AE.sizedL]; trivial
 | x :: l, h => by rw [AE.sizedL]; exact ⟨h x (by simp), AE.sizedL_of fun y hy => h y (by simp [hy])⟩
theorem AS.sizedL_of : ∀ {l : List AS}, (∀ x ∈ l, x.sized) → AS.sizedL l
 | [], _ => by rw [AS.sizedL]; trivial
 | x :: l, h => by rw [AS.sizedL]; exact ⟨h x (by simp), AS.sizedL_of fun y hy => h y (by simp [hy])⟩
theorem AK.sizedL_of : ∀ {l : List AK}, (∀ x ∈ l, x.sized) → AK.sizedL l
 | [], _ => by rw [AK.sizedL]; trivial
 | x :: l, h => by rw [AK.sizedL]; exact ⟨h x (by simp), AK.sizedL_of fun y hy => h y (by simp [hy])⟩
section
variable {P : Program}
theorem HH {H : Hp} {n m k z : Nat} {es : List SV} {e : SV} {o : Option Nat} {t t2 el : TypeId} (ht : BA P t = some el) (ht2 : (BA P t2).isSome = true) (hz : Bb P el = z) (hz0 : z ≠ 0) (hst : (BN P el).storable = true) (hzl : (BN P el).cells.length = z)
 (hb : Bj P el ≤ 65536) (hroom : es.length + 1 ≤ 1073741824) (hA : BZ n m z o es) (he : e.cells.length = z) (h1 : H k = some (.cells e.cells)) (h2 : ∀ j, o = some j → H j = some (.cells (es.flatMap SV.cells))) (p : Nat) (hrow : II el = none := by rfl) :
 AZ P H p .append [t, t2] [Aa z o es, .sl k 0 z 1 true] =
  some { val := .sl p 0 z (es.length + 1) false, upd := o.map fun j => (j, none), new := some (.cells (es.flatMap SV.cells ++ e.cells)) } := by
 have hfl : flat H (.sl k 0 z 1 true) = some e.cells := by
  simp [flat, h1, Bi, he]
  exact List.take_of_length_le (by omega)
 have hr : EW (es.length + 1) (Bj P el) = true := by simp [EW]; exact ⟨by omega, hb⟩
 simp only [AZ, ht2, if_true, Ed, ht, F7, hfl, hz, hzl, hst]
 cases o with
 | none =>
  have := hA.none rfl
  subst this
  simp [Aa, J6, hz0, hrow]
  have hr' : EW 1 (Bj P el) = true := by simpa using hr
  exact hr'
 | some j =>
  have hf : flat H (.sl j 0 z es.length false) = some (es.flatMap SV.cells) := by
   simp only [flat, h2 j rfl, Bi, Nat.zero_add, BH hA.size, Nat.le_refl, if_true, List.drop_zero]
   rw [← BH hA.size, List.take_length]
  simp [Aa, J6, hz0, hf, hr, Io hrow]
end
theorem DW {h H : Hp} {n m p z : Nat} {es : List SV} {e : SV} {o : Option Nat} {v : SV} (ho : Fd h n) (hn : n ≤ p) (hA : BZ n m z o es) (hH : ∀ j y, h j = some y → H j = some y) :
 ∀ j y, Aj (some p) (es ++ [e]) h j = some y → (DC.app H p { val := v, upd := o.map fun j => (j, none), new := some (.cells (es.flatMap SV.cells ++ e.cells)) }) j = some y := by
 intro j y hj
 simp only [Aj] at hj
 by_cases e1 : j = p
 · subst e1
   rw [AC] at hj
   simp only [DC.app, AC]
   rw [← hj]; simp
 · rw [AD _ _ e1] at hj
   have hlt := (ho j y hj).1
   cases o with
   | none => simp [DC.app, AD _ _ e1, hH j y hj]
   | some k =>
    have hk : j ≠ k := by have := (hA.lt k rfl).1; omega
    simp [DC.app, AD _ _ e1, AD _ _ hk, hH j y hj]
theorem HR {h : Hp} {o : Option Nat} {es : List SV} : ∀ j, o = some j → Aj o es h j = some (.cells (es.flatMap SV.cells)) := by
 rintro j rfl; simp [Aj, hset]
theorem Kh {h h' : Hp} {n m m' z : Nat} {o : Option Nat} {es : List SV} (ho : Fd h n) (hA : BZ n m z o es) (hh : ∀ j y, Aj o es h j = some y → h' j = some y) (hm : n ≤ m') (hm' : m ≤ m') : Nu z es h n (Aa z o es) h' m' := by
 refine ⟨hm, fun j x e => hh j x (Aj.old ho hA j x e), ?_⟩
 cases o with
 | none => exact .inl ⟨hA.none rfl, 0, true, rfl⟩
 | some j => exact .inr ⟨j, false, (hA.lt j rfl).1, Nat.lt_of_lt_of_le (hA.lt j rfl).2 hm', rfl, hh j _ (by simp [Aj, hset])⟩
theorem IW {z : Nat} {es : List SV} (hs : ∀ e ∈ es, e.storable = true ∧ e.cells.length = z) (i : Nat) : (es.flatMap SV.cells).take (i * z) = (es.take i).flatMap SV.cells ∧ (es.flatMap SV.cells).drop (i * z) = (es.drop i).flatMap SV.cells := by
 induction es generalizing i with
 | nil => simp
 | cons e es ih =>
  cases i with
  | zero => simp
  | succ i =>
   have he := (hs e (by simp)).2
   obtain ⟨h1, h2⟩ := ih (fun x hx => hs x (by simp [hx])) i
   have e1 : (i + 1) * z = e.cells.length + i * z := by rw [he, Nat.add_mul, Nat.one_mul, Nat.add_comm]
   simp only [List.flatMap_cons, List.take_succ_cons, List.drop_succ_cons, e1]
   rw [List.take_length_add_append, List.drop_length_add_append, h1, h2]
   exact ⟨rfl, rfl⟩
theorem LG {z : Nat} {es : List SV} (hs : ∀ e ∈ es, e.storable = true ∧ e.cells.length = z) {i : Nat} {e : SV} (h : es[i]? = some e) : i * z + z ≤ (es.flatMap SV.cells).length ∧ ((es.flatMap SV.cells).drop (i * z)).take z = e.cells := by
 obtain ⟨hlt, he⟩ := List.getElem?_eq_some_iff.1 h
 have hz := (hs e (by rw [← he]; exact List.getElem_mem hlt)).2
 refine ⟨?_, ?_⟩
 · rw [BH hs]
   have : (i + 1) * z ≤ es.length * z := Nat.mul_le_mul_right z hlt
   rw [Nat.add_mul, Nat.one_mul] at this; exact this
 · rw [(IW hs i).2, List.drop_eq_getElem_cons hlt, he, List.flatMap_cons, ← hz, List.take_left]
theorem OH {z : Nat} {es : List SV} (hs : ∀ e ∈ es, e.storable = true ∧ e.cells.length = z) {j : Nat} {e : SV} (hj : j < es.length) : (es.flatMap SV.cells).take (j * z) ++ (e.cells ++ (es.flatMap SV.cells).drop (j * z + z)) = (es.set j e).flatMap SV.cells := by
 have h1 := (IW hs j).1
 have h2 := (IW hs (j + 1)).2
 rw [Nat.add_mul, Nat.one_mul] at h2
 rw [h1, h2, List.set_eq_take_append_cons_drop, if_pos hj]
 simp
section
variable {P : Program}
theorem F5 {H : Hp} {n m k z j len : Nat} {es : List SV} {e : SV} {t t2 el : TypeId} (ht : BA P t = some el) (ht2 : (BA P t2).isSome = true) (hz : Bb P el = z) (hz0 : z ≠ 0) (hst : (BN P el).storable = true) (hzl : (BN P el).cells.length = z)
 (hb : Bj P el ≤ 65536) (hroom : es.length + 1 ≤ 1073741824) (hA : BZ n m z (some j) es) (he : e.cells.length = z) (h1 : H k = some (.cells e.cells)) (h2 : H j = some (.cells (es.flatMap SV.cells))) (p : Nat) (hlen : len = es.length) (hrow : II el = none := by rfl) :
 AZ P H p .append [t, t2] [.sl j 0 z len false, .sl k 0 z 1 true] =
  some { val := .sl p 0 z (es.length + 1) false, upd := some (j, none), new := some (.cells (es.flatMap SV.cells ++ e.cells)) } := by
 subst hlen
 exact HH (o := some j) ht ht2 hz hz0 hst hzl hb hroom hA he h1 (fun i e => by cases e; exact h2) p hrow
theorem Kj {H : Hp} {k z : Nat} {e : SV} {t t2 el : TypeId} (ht : BA P t = some el) (ht2 : (BA P t2).isSome = true) (hz : Bb P el = z) (hz0 : z ≠ 0) (hst : (BN P el).storable = true) (hzl : (BN P el).cells.length = z)
 (hb : Bj P el ≤ 65536) (he : e.cells.length = z) (h1 : H k = some (.cells e.cells)) (p : Nat) (hrow : II el = none := by rfl) :
 AZ P H p .append [t, t2] [.imm 0 [] true, .sl k 0 z 1 true] = some { val := .sl p 0 z 1 false, new := some (.cells e.cells) } :=
 HH (n := 0) (m := 0) (o := none) (es := []) ht ht2 hz hz0 hst hzl hb (by simp) (BZ.nil 0 0 z) he h1 (by simp) p hrow
end
theorem l185 (l : List FH) (hl : l.length ≤ 1048576) : LC 185 [.imm 2 (l.map FH.enc) false] 2 (l.map FH.enc) := by
 intro h n
 refine gq Tryz.func185 rfl fun ho => ?_
 simp [go_sem]
 refine CX rfl (by kernel_rfl) rfl (fun e => ?_) ?_
 · simp [go_sem]
   have : l = [] := by simpa using e
   subst this
   exact .inl ⟨Nat.le_refl _, AB, .inl ⟨rfl, _, _, rfl⟩⟩
 · simp [go_sem]
   refine DL (z := 2) rfl rfl (by kernel_rfl) ?_
   cases l with
   | nil =>
    simp [go_sem]
    exact .inl ⟨Nat.le_refl _, AB, .inl ⟨rfl, _, _, rfl⟩⟩
   | cons a l =>
    have hap := Gu (P := Tryz.prog) (h := h) (n := n) (t := 23) (t2 := 23) (el := 193) (z := 2) (es := (a :: l).map FH.enc) (full := false) (by simp [go_sem]) (by simp [go_sem]) (by simp [go_sem]) (by simp) (by simp [go_sem]) (by simp [go_sem]) (by simp [go_sem]) (by simp) (by simp at hl ⊢; omega)
    simp only [List.map_cons] at hap
    simp [go_sem, hap]
    refine .inl ⟨Nat.le_succ n, AO ho (Nat.le_refl _) AB, .inr ⟨n, false, Nat.le_refl _, Nat.lt_succ_self n, ?_, ?_⟩⟩
    · simp
    · simp [AC]; rfl
theorem Ts (l : List FH) (hl : l.length ≤ 1048576) : PC 185 [.imm 2 (l.map FH.enc) false] (.imm 2 (l.map FH.enc) false) := (l185 l hl).pc (FH.E.size l) fun n => FH.E.closedL n l
theorem l186 (l : List CF) (hl : l.length ≤ 1048576) : LC 186 [.imm 2 (l.map CF.enc) false] 2 (l.map CF.enc) := by
 intro h n
 refine gq Tryz.func186 rfl fun ho => ?_
 simp [go_sem]
 refine CX rfl (by kernel_rfl) rfl (fun e => ?_) ?_
 · simp [go_sem]
   have : l = [] := by simpa using e
   subst this
   exact .inl ⟨Nat.le_refl _, AB, .inl ⟨rfl, _, _, rfl⟩⟩
 · simp [go_sem]
   refine DL (z := 2) rfl rfl (by kernel_rfl) ?_
   cases l with
   | nil =>
    simp [go_sem]
    exact .inl ⟨Nat.le_refl _, AB, .inl ⟨rfl, _, _, rfl⟩⟩
   | cons a l =>
    have hap := Gu (P := Tryz.prog) (h := h) (n := n) (t := 24) (t2 := 24) (el := 166) (z := 2) (es := (a :: l).map CF.enc) (full := false) (by simp [go_sem]) (by simp [go_sem]) (by simp [go_sem]) (by simp) (by simp [go_sem]) (by simp [go_sem]) (by simp [go_sem]) (by simp) (by simp at hl ⊢; omega)
    simp only [List.map_cons] at hap
    simp [go_sem, hap]
    refine .inl ⟨Nat.le_succ n, AO ho (Nat.le_refl _) AB, .inr ⟨n, false, Nat.le_refl _, Nat.lt_succ_self n, ?_, ?_⟩⟩
    · simp
    · simp [AC]; rfl
theorem c186 (l : List CF) (hl : l.length ≤ 1048576) : PC 186 [.imm 2 (l.map CF.enc) false] (.imm 2 (l.map CF.enc) false) := (l186 l hl).pc (CF.E.size l) fun n => CF.E.closedL n l
theorem l187 (l : List BD) (hl : l.length ≤ 1048576) : LC 187 [.imm 4 (l.map BD.enc) false] 4 (l.map BD.enc) := by
 intro h n
 refine gq Tryz.func187 rfl fun ho => ?_
 simp [go_sem]
 refine CX rfl (by kernel_rfl) rfl (fun e => ?_) ?_
 · simp [go_sem]
   have : l = [] := by simpa using e
   subst this
   exact .inl ⟨Nat.le_refl _, AB, .inl ⟨rfl, _, _, rfl⟩⟩
 · simp [go_sem]
   refine DL (z := 4) rfl rfl (by kernel_rfl) ?_
   cases l with
   | nil =>
    simp [go_sem]
    exact .inl ⟨Nat.le_refl _, AB, .inl ⟨rfl, _, _, rfl⟩⟩
   | cons a l =>
    have hap := Gu (P := Tryz.prog) (h := h) (n := n) (t := 25) (t2 := 25) (el := 164) (z := 4) (es := (a :: l).map BD.enc) (full := false) (by simp [go_sem]) (by simp [go_sem]) (by simp [go_sem]) (by simp) (by simp [go_sem]) (by simp [go_sem]) (by simp [go_sem]) (by simp) (by simp at hl ⊢; omega)
    simp only [List.map_cons] at hap
    simp [go_sem, hap]
    refine .inl ⟨Nat.le_succ n, AO ho (Nat.le_refl _) AB, .inr ⟨n, false, Nat.le_refl _, Nat.lt_succ_self n, ?_, ?_⟩⟩
    · simp
    · simp [AC]; rfl
theorem c187 (l : List BD) (hl : l.length ≤ 1048576) : PC 187 [.imm 4 (l.map BD.enc) false] (.imm 4 (l.map BD.enc) false) := (l187 l hl).pc (BD.E.size l) fun n => BD.E.closedL n l
theorem Td (l : List BF) (hl : l.length ≤ 1048576) : LC 76 [.imm 3 (l.map BF.enc) false] 3 (l.map BF.enc) := by
 intro h n
 refine gq Tryz.func76 rfl fun ho => ?_
 simp [go_sem]
 refine CX rfl (by kernel_rfl) rfl (fun e => ?_) ?_
 · simp [go_sem]
   have : l = [] := by simpa using e
   subst this
   exact .inl ⟨Nat.le_refl _, AB, .inl ⟨rfl, _, _, rfl⟩⟩
 · simp [go_sem]
   refine DL (z := 3) rfl rfl (by kernel_rfl) ?_
   cases l with
   | nil =>
    simp [go_sem]
    exact .inl ⟨Nat.le_refl _, AB, .inl ⟨rfl, _, _, rfl⟩⟩
   | cons a l =>
    have hap := Gu (P := Tryz.prog) (h := h) (n := n) (t := 30) (t2 := 30) (el := 42) (z := 3) (es := (a :: l).map BF.enc) (full := false) (by simp [go_sem]) (by simp [go_sem]) (by simp [go_sem]) (by simp) (by simp [go_sem]) (by simp [go_sem]) (by simp [go_sem]) (by simp) (by simp at hl ⊢; omega)
    simp only [List.map_cons] at hap
    simp [go_sem, hap]
    refine .inl ⟨Nat.le_succ n, AO ho (Nat.le_refl _) AB, .inr ⟨n, false, Nat.le_refl _, Nat.lt_succ_self n, ?_, ?_⟩⟩
    · simp
    · simp [AC]; rfl
theorem c76 (l : List BF) (hl : l.length ≤ 1048576) : PC 76 [.imm 3 (l.map BF.enc) false] (.imm 3 (l.map BF.enc) false) := (Td l hl).pc (BF.E.size l) fun n => BF.E.closedL n l
theorem l199 (l : List A6) (hl : l.length ≤ 1048576) : LC 199 [.imm 6 (l.map A6.enc) false] 6 (l.map A6.enc) := by
 intro h n
 refine gq Tryz.func199 rfl fun ho => ?_
 simp [go_sem]
 refine CX rfl (by kernel_rfl) rfl (fun e => ?_) ?_
 · simp [go_sem]
   have : l = [] := by simpa using e
   subst this
   exact .inl ⟨Nat.le_refl _, AB, .inl ⟨rfl, _, _, rfl⟩⟩
 · simp [go_sem]
   refine DL (z := 6) rfl rfl (by kernel_rfl) ?_
   cases l with
   | nil =>
    simp [go_sem]
    exact .inl ⟨Nat.le_refl _, AB, .inl ⟨rfl, _, _, rfl⟩⟩
   | cons a l =>
    have hap := Gu (P := Tryz.prog) (h := h) (n := n) (t := 31) (t2 := 31) (el := 198) (z := 6) (es := (a :: l).map A6.enc) (full := false) (by simp [go_sem]) (by simp [go_sem]) (by simp [go_sem]) (by simp) (by simp [go_sem]) (by simp [go_sem]) (by simp [go_sem]) (by simp) (by simp at hl ⊢; omega)
    simp only [List.map_cons] at hap
    simp [go_sem, hap]
    refine .inl ⟨Nat.le_succ n, AO ho (Nat.le_refl _) AB, .inr ⟨n, false, Nat.le_refl _, Nat.lt_succ_self n, ?_, ?_⟩⟩
    · simp
    · simp [AC]; rfl
theorem l200 (l : List GY) (hl : l.length ≤ 1048576) : LC 200 [.imm 2 (l.map GY.enc) false] 2 (l.map GY.enc) := by
 intro h n
 refine gq Tryz.func200 rfl fun ho => ?_
 simp [go_sem]
 refine CX rfl (by kernel_rfl) rfl (fun e => ?_) ?_
 · simp [go_sem]
   have : l = [] := by simpa using e
   subst this
   exact .inl ⟨Nat.le_refl _, AB, .inl ⟨rfl, _, _, rfl⟩⟩
 · simp [go_sem]
   refine DL (z := 2) rfl rfl (by kernel_rfl) ?_
   cases l with
   | nil =>
    simp [go_sem]
    exact .inl ⟨Nat.le_refl _, AB, .inl ⟨rfl, _, _, rfl⟩⟩
   | cons a l =>
    have hap := Gu (P := Tryz.prog) (h := h) (n := n) (t := 32) (t2 := 32) (el := 103) (z := 2) (es := (a :: l).map GY.enc) (full := false) (by simp [go_sem]) (by simp [go_sem]) (by simp [go_sem]) (by simp) (by simp [go_sem]) (by simp [go_sem]) (by simp [go_sem]) (by simp) (by simp at hl ⊢; omega)
    simp only [List.map_cons] at hap
    simp [go_sem, hap]
    refine .inl ⟨Nat.le_succ n, AO ho (Nat.le_refl _) AB, .inr ⟨n, false, Nat.le_refl _, Nat.lt_succ_self n, ?_, ?_⟩⟩
    · simp
    · simp [AC]; rfl
theorem l201 (l : List Aw) (hl : l.length ≤ 1048576) : LC 201 [.imm 6 (l.map Aw.enc) false] 6 (l.map Aw.enc) := by
 intro h n
 refine gq Tryz.func201 rfl fun ho => ?_
 simp [go_sem]
 refine CX rfl (by kernel_rfl) rfl (fun e => ?_) ?_
 · simp [go_sem]
   have : l = [] := by simpa using e
   subst this
   exact .inl ⟨Nat.le_refl _, AB, .inl ⟨rfl, _, _, rfl⟩⟩
 · simp [go_sem]
   refine DL (z := 6) rfl rfl (by kernel_rfl) ?_
   cases l with
   | nil =>
    simp [go_sem]
    exact .inl ⟨Nat.le_refl _, AB, .inl ⟨rfl, _, _, rfl⟩⟩
   | cons a l =>
    have hap := Gu (P := Tryz.prog) (h := h) (n := n) (t := 33) (t2 := 33) (el := 115) (z := 6) (es := (a :: l).map Aw.enc) (full := false) (by simp [go_sem]) (by simp [go_sem]) (by simp [go_sem]) (by simp) (by simp [go_sem]) (by simp [go_sem]) (by simp [go_sem]) (by simp) (by simp at hl ⊢; omega)
    simp only [List.map_cons] at hap
    simp [go_sem, hap]
    refine .inl ⟨Nat.le_succ n, AO ho (Nat.le_refl _) AB, .inr ⟨n, false, Nat.le_refl _, Nat.lt_succ_self n, ?_, ?_⟩⟩
    · simp
    · simp [AC]; rfl
theorem c201 (l : List Aw) (hl : l.length ≤ 1048576) : PC 201 [.imm 6 (l.map Aw.enc) false] (.imm 6 (l.map Aw.enc) false) := (l201 l hl).pc (Aw.E.size l) fun n => Aw.E.closedL n l
theorem l202 (l : List GV) (hl : l.length ≤ 1048576) : LC 202 [.imm 2 (l.map GV.enc) false] 2 (l.map GV.enc) := by
 intro h n
 refine gq Tryz.func202 rfl fun ho => ?_
 simp [go_sem]
 refine CX rfl (by kernel_rfl) rfl (fun e => ?_) ?_
 · simp [go_sem]
   have : l = [] := by simpa using e
   subst this
   exact .inl ⟨Nat.le_refl _, AB, .inl ⟨rfl, _, _, rfl⟩⟩
 · simp [go_sem]
   refine DL (z := 2) rfl rfl (by kernel_rfl) ?_
   cases l with
   | nil =>
    simp [go_sem]
    exact .inl ⟨Nat.le_refl _, AB, .inl ⟨rfl, _, _, rfl⟩⟩
   | cons a l =>
    have hap := Gu (P := Tryz.prog) (h := h) (n := n) (t := 34) (t2 := 34) (el := 118) (z := 2) (es := (a :: l).map GV.enc) (full := false) (by simp [go_sem]) (by simp [go_sem]) (by simp [go_sem]) (by simp) (by simp [go_sem]) (by simp [go_sem]) (by simp [go_sem]) (by simp) (by simp at hl ⊢; omega)
    simp only [List.map_cons] at hap
    simp [go_sem, hap]
    refine .inl ⟨Nat.le_succ n, AO ho (Nat.le_refl _) AB, .inr ⟨n, false, Nat.le_refl _, Nat.lt_succ_self n, ?_, ?_⟩⟩
    · simp
    · simp [AC]; rfl
theorem c202 (l : List GV) (hl : l.length ≤ 1048576) : PC 202 [.imm 2 (l.map GV.enc) false] (.imm 2 (l.map GV.enc) false) := (l202 l hl).pc (GV.E.size l) fun n => GV.E.closedL n l
theorem l203 (l : List Cu) (hl : l.length ≤ 1048576) : LC 203 [.imm 4 (l.map Cu.enc) false] 4 (l.map Cu.enc) := by
 intro h n
 refine gq Tryz.func203 rfl fun ho => ?_
 simp [go_sem]
 refine CX rfl (by kernel_rfl) rfl (fun e => ?_) ?_
 · simp [go_sem]
   have : l = [] := by simpa using e
   subst this
   exact .inl ⟨Nat.le_refl _, AB, .inl ⟨rfl, _, _, rfl⟩⟩
 · simp [go_sem]
   refine DL (z := 4) rfl rfl (by kernel_rfl) ?_
   cases l with
   | nil =>
    simp [go_sem]
    exact .inl ⟨Nat.le_refl _, AB, .inl ⟨rfl, _, _, rfl⟩⟩
   | cons a l =>
    have hap := Gu (P := Tryz.prog) (h := h) (n := n) (t := 101) (t2 := 101) (el := 106) (z := 4) (es := (a :: l).map Cu.enc) (full := false) (by simp [go_sem]) (by simp [go_sem]) (by simp [go_sem]) (by simp) (by simp [go_sem]) (by simp [go_sem]) (by simp [go_sem]) (by simp) (by simp at hl ⊢; omega)
    simp only [List.map_cons] at hap
    simp [go_sem, hap]
    refine .inl ⟨Nat.le_succ n, AO ho (Nat.le_refl _) AB, .inr ⟨n, false, Nat.le_refl _, Nat.lt_succ_self n, ?_, ?_⟩⟩
    · simp
    · simp [AC]; rfl
theorem c203 (l : List Cu) (hl : l.length ≤ 1048576) : PC 203 [.imm 4 (l.map Cu.enc) false] (.imm 4 (l.map Cu.enc) false) := (l203 l hl).pc (Cu.E.size l) fun n => Cu.E.closedL n l
theorem N1 (h0 : AF) (hs : h0.sized) : PC 118 [h0.enc] h0.enc := by
 intro h n
 refine gq Tryz.func118 rfl fun ho => ?_
 simp [go_sem, AF.enc, AF.flat, AC, AD]
 refine (Ts _ hs.props).use ?_
 simp [go_sem, AC, AD]
 repeat first | refine nq ?_ | refine sq ?_ | refine aq ?_
 refine Bg.pure _ _ _ _ _ _ (c186 _ hs.dels) ?_
 simp [go_sem, AC]
 repeat first | refine nq ?_ | refine sq ?_ | refine aq ?_
 refine Bg.pure _ _ _ _ _ _ (c187 _ hs.layers) ?_
 simp [go_sem, AC, AD]
 repeat first | refine nq ?_ | refine sq ?_ | refine aq ?_
 exact Av ho (by repeat (first | exact AB | refine AO ho (by omega) ?_)) rfl (AF.E.cl n h0)
theorem l174 (l : List AE) (hl : l.length ≤ 1048576) (g : FuncId) (a b : List SV) (f : AE → AE) (hf : ∀ (i : Nat) (h : i < l.length), PC g (a ++ [AE.enc l[i]] ++ b) (AE.enc (f l[i]))) : LC 174 [.imm 11 (l.map AE.enc) false, .fn (.func g) a b] 11 ((l.map f).map AE.enc) := by
 intro h n
 generalize hR : (l.map f).map AE.enc = R
 refine gq Tryz.func174 rfl fun ho => ?_
 simp [go_sem]
 refine An 1 (α := Nat × Option Nat) (fun q => [(1, .fn (.func g) a b), (5, Aa 11 q.2 (((l.take q.1).map f).map AE.enc)), (8, .imm 11 (l.map AE.enc) false), (9, AA l.length), (10, AA q.1)]) (fun q => Aj q.2 (((l.take q.1).map f).map AE.enc) h)
  (fun q m => q.1 ≤ l.length ∧ n ≤ m ∧ BZ n m 11 q.2 (((l.take q.1).map f).map AE.enc)) (fun q => l.length - q.1) (0, none) ?_ ?_ AB ?_
 · simp; exact BZ.nil _ _ _
 · simp [Ai, Aa]
 rintro ⟨k, o⟩ m ⟨hk, hnm, hA⟩
 dsimp only at hk hA ⊢
 have hlen : (((l.take k).map f).map AE.enc).length = k := by simp; omega
 by_cases hlt : k < l.length
 · have w1 := wS k (by omega)
   obtain ⟨x, hx⟩ : ∃ x, l[k] = x := ⟨_, rfl⟩
   have H := hf k hlt
   rw [hx] at H
   simp only [List.append_assoc, List.cons_append, List.nil_append] at H
   have hgx : (l.map AE.enc)[k]? = some x.enc := by simp [hlt, hx]
   have htk : ((l.take (k + 1)).map f).map AE.enc = ((l.take k).map f).map AE.enc ++ [(f x).enc] := by rw [List.take_succ_eq_append_getElem hlt, hx]; simp
   have hpush := hA.push (j := m + 1 + 1) (m' := m + 1 + 1 + 1) (e := (f x).enc) (AE.E.st _) (AE.E.len _) (by omega) (by omega)
   rw [← htk] at hpush
   generalize hes : ((l.take k).map f).map AE.enc = es at hA htk hlen ⊢
   simp only [List.getElem?_map] at hgx
   simp [go_sem, hlt, hx, AE.enc_eq, AC, -List.map_map, -List.map_take]
   refine PC.use (by simpa [AE.enc_eq] using H) ?_
   simp [go_sem, -List.map_map, -List.map_take]
   rw [HH (es := es) (e := (f x).enc) (o := o) (t := 22) (t2 := 22) (el := 70) (z := 11) (by simp [go_sem]) (by simp [go_sem]) (by simp [go_sem]) (by simp) (by simp [go_sem]) (by simp [go_sem]) (by simp [go_sem]) (by omega) hA (AE.E.len _) ?a1 ?a2]
   case a1 => simp [AC, AE.enc_eq, SV.cells]
   case a2 =>
    intro j e
    have := (hA.lt j e).2
    rw [AD _ _ (by omega), AD _ _ (by omega), AD _ _ (by omega)]; exact HR j e
   simp [go_sem, w1, -Int.natCast_add, -List.map_map, -List.map_take]
   refine ⟨k + 1, by omega, some (m + 1 + 1), ⟨by omega, by omega, hpush⟩, ⟨?_, Fz.same⟩, ?_⟩
   · rw [htk]; simp [Aa, Fz.same]
   · rw [htk]
     have := DW (p := m + 1 + 1) (v := .sl (m + 1 + 1) 0 11 (es.length + 1) false) (e := (f x).enc) ho (by omega) hA (H := hset (hset (hset (Aj o es h) m (some (.cells [.int .i64 0, .int .i64 0, .int .i64 0, .str .empty, .imm 0 [] true, .int .i64 0, .int .i64 0, .imm 0 [] true, .imm 0 [] true, .imm 0 [] true, .imm 0 [] true]))) m (some (.cells x.enc.cells))) (m + 1) (some (.cells (f x).enc.cells)))
      (AO ho (by omega) (AO ho (by omega) (AO ho (by omega) (Aj.old ho hA))))
     simpa [AE.enc_eq, SV.cells, DC.app] using this
 · have : k = l.length := by omega
   subst this
   simp only [List.take_length, hR] at hA ⊢
   simp [go_sem, -List.map_map, -List.map_take]
   exact .inl (Kh ho hA AB hnm (Nat.le_refl _))
theorem l134 (l : List AS) (hl : l.length ≤ 1048576) (g : FuncId) (a b : List SV) (f : AS → AS) (hf : ∀ (i : Nat) (h : i < l.length), PC g (a ++ [AS.enc l[i]] ++ b) (AS.enc (f l[i]))) : LC 134 [.imm 6 (l.map AS.enc) false, .fn (.func g) a b] 6 ((l.map f).map AS.enc) := by
 intro h n
 generalize hR : (l.map f).map AS.enc = R
 refine gq Tryz.func134 rfl fun ho => ?_
 simp [go_sem]
 refine An 1 (α := Nat × Option Nat) (fun q => [(1, .fn (.func g) a b), (5, Aa 6 q.2 (((l.take q.1).map f).map AS.enc)), (8, .imm 6 (l.map AS.enc) false), (9, AA l.length), (10, AA q.1)]) (fun q => Aj q.2 (((l.take q.1).map f).map AS.enc) h)
  (fun q m => q.1 ≤ l.length ∧ n ≤ m ∧ BZ n m 6 q.2 (((l.take q.1).map f).map AS.enc)) (fun q => l.length - q.1) (0, none) ?_ ?_ AB ?_
 · simp; exact BZ.nil _ _ _
 · simp [Ai, Aa]
 rintro ⟨k, o⟩ m ⟨hk, hnm, hA⟩
 dsimp only at hk hA ⊢
 have hlen : (((l.take k).map f).map AS.enc).length = k := by simp; omega
 by_cases hlt : k < l.length
 · have w1 := wS k (by omega)
   obtain ⟨x, hx⟩ : ∃ x, l[k] = x := ⟨_, rfl⟩
   have H := hf k hlt
   rw [hx] at H
   simp only [List.append_assoc, List.cons_append, List.nil_append] at H
   have hgx : (l.map AS.enc)[k]? = some x.enc := by simp [hlt, hx]
   have htk : ((l.take (k + 1)).map f).map AS.enc = ((l.take k).map f).map AS.enc ++ [(f x).enc] := by rw [List.take_succ_eq_append_getElem hlt, hx]; simp
   have hpush := hA.push (j := m + 1 + 1) (m' := m + 1 + 1 + 1) (e := (f x).enc) (AS.E.st _) (AS.E.len _) (by omega) (by omega)
   rw [← htk] at hpush
   generalize hes : ((l.take k).map f).map AS.enc = es at hA htk hlen ⊢
   simp only [List.getElem?_map] at hgx
   simp [go_sem, hlt, hx, AS.enc_eq, AC, -List.map_map, -List.map_take]
   refine PC.use (by simpa [AS.enc_eq] using H) ?_
   simp [go_sem, -List.map_map, -List.map_take]
   rw [HH (es := es) (e := (f x).enc) (o := o) (t := 68) (t2 := 68) (el := 169) (z := 6) (by simp [go_sem]) (by simp [go_sem]) (by simp [go_sem]) (by simp) (by simp [go_sem]) (by simp [go_sem]) (by simp [go_sem]) (by omega) hA (AS.E.len _) ?a1 ?a2]
   case a1 => simp [AC, AS.enc_eq, SV.cells]
   case a2 =>
    intro j e
    have := (hA.lt j e).2
    rw [AD _ _ (by omega), AD _ _ (by omega), AD _ _ (by omega)]; exact HR j e
   simp [go_sem, w1, -Int.natCast_add, -List.map_map, -List.map_take]
   refine ⟨k + 1, by omega, some (m + 1 + 1), ⟨by omega, by omega, hpush⟩, ⟨?_, Fz.same⟩, ?_⟩
   · rw [htk]; simp [Aa, Fz.same]
   · rw [htk]
     have := DW (p := m + 1 + 1) (v := .sl (m + 1 + 1) 0 6 (es.length + 1) false) (e := (f x).enc) ho (by omega) hA (H := hset (hset (hset (Aj o es h) m (some (.cells [.imm 0 [] true, .int .i64 0, .int .i64 0, .imm 0 [] true, .imm 0 [] true, .imm 0 [] true]))) m (some (.cells x.enc.cells))) (m + 1) (some (.cells (f x).enc.cells)))
      (AO ho (by omega) (AO ho (by omega) (AO ho (by omega) (Aj.old ho hA))))
     simpa [AS.enc_eq, SV.cells, DC.app] using this
 · have : k = l.length := by omega
   subst this
   simp only [List.take_length, hR] at hA ⊢
   simp [go_sem, -List.map_map, -List.map_take]
   exact .inl (Kh ho hA AB hnm (Nat.le_refl _))
theorem l194 (l : List AK) (hl : l.length ≤ 1048576) (g : FuncId) (a b : List SV) (f : AK → AK) (hf : ∀ (i : Nat) (h : i < l.length), PC g (a ++ [AK.enc l[i]] ++ b) (AK.enc (f l[i]))) : LC 194 [.imm 7 (l.map AK.enc) false, .fn (.func g) a b] 7 ((l.map f).map AK.enc) := by
 intro h n
 generalize hR : (l.map f).map AK.enc = R
 refine gq Tryz.func194 rfl fun ho => ?_
 simp [go_sem]
 refine An 1 (α := Nat × Option Nat) (fun q => [(1, .fn (.func g) a b), (5, Aa 7 q.2 (((l.take q.1).map f).map AK.enc)), (8, .imm 7 (l.map AK.enc) false), (9, AA l.length), (10, AA q.1)]) (fun q => Aj q.2 (((l.take q.1).map f).map AK.enc) h)
  (fun q m => q.1 ≤ l.length ∧ n ≤ m ∧ BZ n m 7 q.2 (((l.take q.1).map f).map AK.enc)) (fun q => l.length - q.1) (0, none) ?_ ?_ AB ?_
 · simp; exact BZ.nil _ _ _
 · simp [Ai, Aa]
 rintro ⟨k, o⟩ m ⟨hk, hnm, hA⟩
 dsimp only at hk hA ⊢
 have hlen : (((l.take k).map f).map AK.enc).length = k := by simp; omega
 by_cases hlt : k < l.length
 · have w1 := wS k (by omega)
   obtain ⟨x, hx⟩ : ∃ x, l[k] = x := ⟨_, rfl⟩
   have H := hf k hlt
   rw [hx] at H
   simp only [List.append_assoc, List.cons_append, List.nil_append] at H
   have hgx : (l.map AK.enc)[k]? = some x.enc := by simp [hlt, hx]
   have htk : ((l.take (k + 1)).map f).map AK.enc = ((l.take k).map f).map AK.enc ++ [(f x).enc] := by rw [List.take_succ_eq_append_getElem hlt, hx]; simp
   have hpush := hA.push (j := m + 1 + 1) (m' := m + 1 + 1 + 1) (e := (f x).enc) (AK.E.st _) (AK.E.len _) (by omega) (by omega)
   rw [← htk] at hpush
   generalize hes : ((l.take k).map f).map AK.enc = es at hA htk hlen ⊢
   simp only [List.getElem?_map] at hgx
   simp [go_sem, hlt, hx, AK.enc_eq, AC, -List.map_map, -List.map_take]
   refine PC.use (by simpa [AK.enc_eq] using H) ?_
   simp [go_sem, -List.map_map, -List.map_take]
   rw [HH (es := es) (e := (f x).enc) (o := o) (t := 167) (t2 := 167) (el := 171) (z := 7) (by simp [go_sem]) (by simp [go_sem]) (by simp [go_sem]) (by simp) (by simp [go_sem]) (by simp [go_sem]) (by simp [go_sem]) (by omega) hA (AK.E.len _) ?a1 ?a2]
   case a1 => simp [AC, AK.enc_eq, SV.cells]
   case a2 =>
    intro j e
    have := (hA.lt j e).2
    rw [AD _ _ (by omega), AD _ _ (by omega), AD _ _ (by omega)]; exact HR j e
   simp [go_sem, w1, -Int.natCast_add, -List.map_map, -List.map_take]
   refine ⟨k + 1, by omega, some (m + 1 + 1), ⟨by omega, by omega, hpush⟩, ⟨?_, Fz.same⟩, ?_⟩
   · rw [htk]; simp [Aa, Fz.same]
   · rw [htk]
     have := DW (p := m + 1 + 1) (v := .sl (m + 1 + 1) 0 7 (es.length + 1) false) (e := (f x).enc) ho (by omega) hA (H := hset (hset (hset (Aj o es h) m (some (.cells [.int .i64 0, .imm 0 [] true, .int .i64 0, .int .i64 0, .imm 0 [] true, .imm 0 [] true, .imm 0 [] true]))) m (some (.cells x.enc.cells))) (m + 1) (some (.cells (f x).enc.cells)))
      (AO ho (by omega) (AO ho (by omega) (AO ho (by omega) (Aj.old ho hA))))
     simpa [AK.enc_eq, SV.cells, DC.app] using this
 · have : k = l.length := by omega
   subst this
   simp only [List.take_length, hR] at hA ⊢
   simp [go_sem, -List.map_map, -List.map_take]
   exact .inl (Kh ho hA AB hnm (Nat.le_refl _))
theorem NC (l : List AE) (hl : l.length ≤ 1048576) (H : ∀ (i : Nat) (h : i < l.length), PC 175 [(l[i]).enc] (l[i]).enc) : PC 110 [AG l] (AG l) := by
 intro h n
 refine gq Tryz.func110 rfl fun ho => ?_
 simp [go_sem]
 have h1 := (l174 l hl 175 [] [] id (fun i hi => H i hi)).pc (by rw [List.map_id]; exact AE.E.size l) (fun n => by rw [List.map_id]; exact AE.E.closedL n l)
 rw [List.map_id] at h1
 refine h1.use ?_
 simp [go_sem]
 exact BC ho (AE.E.imm _ _ _ _) rfl
theorem Sf (x : AK) (hs : x.head.sized) (H : PC 110 [AG x.flow] (AG x.flow)) : PC 249 [x.enc] x.enc := by
 intro h n
 refine gq Tryz.func249 rfl fun ho => ?_
 simp [go_sem, AK.enc_eq, AC, AD]
 repeat first | refine nq ?_ | refine sq ?_ | refine aq ?_
 refine Bg.pure _ _ _ _ _ _ (by simpa [AF.enc, AF.flat] using N1 x.head hs) ?_
 simp [go_sem, AC, AD]
 repeat first | refine nq ?_ | refine sq ?_ | refine aq ?_
 refine Bg.pure _ _ _ _ _ _ H ?_
 simp [go_sem, AC]
 repeat first | refine nq ?_ | refine sq ?_ | refine aq ?_
 exact Av ho (by repeat (first | exact AB | refine AO ho (by omega) ?_)) rfl (by rw [← AK.enc_eq]; exact AK.cl n x)
theorem Sd (x : AS) (hs : x.head.sized) (hc : x.cells.length ≤ 1048576) (H : ∀ (i : Nat) (h : i < x.cells.length), PC 249 [(x.cells[i]).enc] (x.cells[i]).enc) : PC 176 [x.enc] x.enc := by
 intro h n
 refine gq Tryz.func176 rfl fun ho => ?_
 have h1 := (l194 x.cells hc 249 [] [] id (fun i hi => H i hi)).pc (by rw [List.map_id]; exact AK.E.size _) (fun n => by rw [List.map_id]; exact AK.E.closedL n _)
 rw [List.map_id] at h1
 simp [go_sem, AS.enc_eq, AC, AD]
 repeat first | refine nq ?_ | refine sq ?_ | refine aq ?_
 refine Bg.pure _ _ _ _ _ _ (by simpa [AF.enc, AF.flat] using N1 x.head hs) ?_
 simp [go_sem, AC, AD]
 repeat first | refine nq ?_ | refine sq ?_ | refine aq ?_
 refine Bg.pure _ _ _ _ _ _ h1 ?_
 simp [go_sem, AC]
 repeat first | refine nq ?_ | refine sq ?_ | refine aq ?_
 exact Av ho (by repeat (first | exact AB | refine AO ho (by omega) ?_)) rfl (by rw [← AS.enc_eq]; exact AS.cl n x)
theorem Sc (x : AE) (hs : x.head.sized) (hr : x.rows.length ≤ 1048576) (H : PC 110 [AG x.flow] (AG x.flow)) (H2 : ∀ (i : Nat) (h : i < x.rows.length), PC 176 [(x.rows[i]).enc] (x.rows[i]).enc) : PC 175 [x.enc] x.enc := by
 intro h n
 refine gq Tryz.func175 rfl fun ho => ?_
 have h1 := (l134 x.rows hr 176 [] [] id (fun i hi => H2 i hi)).pc (by rw [List.map_id]; exact AS.E.size _) (fun n => by rw [List.map_id]; exact AS.E.closedL n _)
 rw [List.map_id] at h1
 simp [go_sem, AE.enc_eq, AC, AD]
 repeat first | refine nq ?_ | refine sq ?_ | refine aq ?_
 refine Bg.pure _ _ _ _ _ _ (by simpa [AF.enc, AF.flat] using N1 x.head hs) ?_
 simp [go_sem, AC, AD]
 repeat first | refine nq ?_ | refine sq ?_ | refine aq ?_
 refine Bg.pure _ _ _ _ _ _ H ?_
 simp [go_sem, AC, AD]
 repeat first | refine nq ?_ | refine sq ?_ | refine aq ?_
 refine Bg.pure _ _ _ _ _ _ h1 ?_
 simp [go_sem, AC, AD]
 repeat first | refine nq ?_ | refine sq ?_ | refine aq ?_
 exact Av ho (by repeat (first | exact AB | refine AO ho (by omega) ?_)) rfl (by rw [← AE.enc_eq]; exact AE.cl n x)
mutual
theorem c175 : ∀ x : AE, x.sized → PC 175 [x.enc] x.enc
 | .mk k c i t hd f r, hs => by
  rw [AE.sized] at hs
  exact Sc (.mk k c i t hd f r) hs.2.1 hs.2.2.2.1 (NC f hs.2.2.1 (Pu f hs.2.2.2.2.1)) (TS r hs.2.2.2.2.2)
theorem Pu : ∀ l : List AE, AE.sizedL l → ∀ (i : Nat) (h : i < l.length), PC 175 [(l[i]).enc] (l[i]).enc
 | [], _, i, h => by simp at h
 | x :: l, hs, 0, _ => by rw [AE.sizedL] at hs; exact c175 x hs.1
 | x :: l, hs, i + 1, h => by rw [AE.sizedL] at hs; exact Pu l hs.2 i (by simpa using h)
theorem c176 : ∀ x : AS, x.sized → PC 176 [x.enc] x.enc
 | .mk hd c, hs => by
  rw [AS.sized] at hs
  exact Sd (.mk hd c) hs.1 hs.2.1 (TV c hs.2.2)
theorem TS : ∀ l : List AS, AS.sizedL l → ∀ (i : Nat) (h : i < l.length), PC 176 [(l[i]).enc] (l[i]).enc
 | [], _, i, h => by simp at h
 | x :: l, hs, 0, _ => by rw [AS.sizedL] at hs; exact c176 x hs.1
 | x :: l, hs, i + 1, h => by rw [AS.sizedL] at hs; exact TS l hs.2 i (by simpa using h)
theorem c249 : ∀ x : AK, x.sized → PC 249 [x.enc] x.enc
 | .mk i hd f, hs => by
  rw [AK.sized] at hs
  exact Sf (.mk i hd f) hs.1 (NC f hs.2.1 (Pu f hs.2.2))
theorem TV : ∀ l : List AK, AK.sizedL l → ∀ (i : Nat) (h : i < l.length), PC 249 [(l[i]).enc] (l[i]).enc
 | [], _, i, h => by simp at h
 | x :: l, hs, 0, _ => by rw [AK.sizedL] at hs; exact c249 x hs.1
 | x :: l, hs, i + 1, h => by rw [AK.sizedL] at hs; exact TV l hs.2 i (by simpa using h)
end
theorem c110 (l : List AE) (hl : l.length ≤ 1048576) (hs : AE.sizedL l) : PC 110 [AG l] (AG l) := NC l hl (Pu l hs)
def AE.units (x : AE) : Int := if x.kind = 1 then (if BL x.text then Ax x.text x.text.size else 0) else 1
def AE.uerr (x : AE) : Int := if x.kind = 1 then (if BL x.text then 0 else 12) else 0
theorem AE.units_le (x : AE) (h : x.text.size ≤ 1048576) : 0 ≤ x.units ∧ x.units ≤ 1048576 := by
 unfold AE.units
 have := Gz x.text x.text.size
 split <;> (try split) <;> omega
theorem Tn (x : AE) (hs : x.text.size ≤ 1048576) : PC 111 [x.enc] (.tup [AA x.units, AA x.uerr]) := by
 intro h n
 refine gq Tryz.func111 rfl fun ho => ?_
 by_cases h1 : x.kind = 1
 · simp [go_sem, AE.enc_eq, AC, h1]
   refine (c177 x.text (by omega)).use ?_
   simp [go_sem]
   exact Av ho (AO ho (Nat.le_refl _) AB) (by simp [AE.units, AE.uerr, h1]) rfl
 · simp [go_sem, AE.enc_eq, AC, h1]
   exact Av ho (AO ho (Nat.le_refl _) AB) (by simp [AE.units, AE.uerr, h1]) rfl
def Au : List AE → Int
 | [] => 0
 | x :: l => x.units + Au l
def JU (l : List AE) : Bool := l.any fun x => decide (x.uerr ≠ 0)
theorem FF : ∀ (a b : List AE), Au (a ++ b) = Au a + Au b
 | [], b => by simp [Au]
 | x :: a, b => by simp [Au, FF a b]; omega
theorem IG : ∀ (l : List AE), (∀ x ∈ l, x.text.size ≤ 1048576) → 0 ≤ Au l ∧ Au l ≤ l.length * 1048576
 | [], _ => by simp [Au]
 | x :: l, h => by
  have h1 := IG l fun y hy => h y (by simp [hy])
  have h2 := x.units_le (h x (by simp))
  simp only [Au, List.length_cons]
  omega
def Ap (l : List AE) : Int × Int := if JU l then (0, 12) else (Au l, 0)
theorem c35 (l : List AE) (hl : l.length ≤ 1048576) (hs : ∀ x ∈ l, x.text.size ≤ 1048576) : PC 35 [AG l] (.tup [AA (Ap l).1, AA (Ap l).2]) := by
 intro h n
 refine gq Tryz.func35 rfl fun ho => ?_
 simp [go_sem]
 refine An 1 (α := Nat) (fun k => [(4, AA (Au (l.take k))), (9, AG l), (10, AA l.length), (11, AA k)]) (fun _ => h) (fun k m => k ≤ l.length ∧ n ≤ m ∧ JU (l.take k) = false) (fun k => l.length - k) 0 ?_ ?_ AB ?_
 · simp [JU]
 · simp [Ai, Au]
 rintro k m ⟨hk, hnm, hf⟩
 by_cases hlt : k < l.length
 · have w1 := wS k (by omega)
   obtain ⟨x, hx⟩ : ∃ x, l[k] = x := ⟨_, rfl⟩
   have hxm : x ∈ l := by rw [← hx]; exact List.getElem_mem hlt
   have hxs := hs x hxm
   have htk : l.take (k + 1) = l.take k ++ [x] := by rw [List.take_succ_eq_append_getElem hlt, hx]
   have T4 := IG (l.take k) fun y hy => hs y (List.mem_of_mem_take hy)
   have IB := x.units_le hxs
   have hlk : ((l.take k).length : Int) ≤ 1048576 := by simp; omega
   have w2 : IntKind.i64.wrap (Au (l.take k) + x.units) = Au (l.take (k + 1)) := by
    rw [C8, htk, FF]
    · simp [Au]
    · omega
    · have : ((l.take k).length : Int) * 1048576 ≤ 1048576 * 1048576 := by omega
      omega
   simp [go_sem, hlt, hx, AE.enc_eq, AC]
   refine PC.use (by simpa [AE.enc_eq] using Tn x hxs) ?_
   by_cases he : x.uerr = 0
   · simp [go_sem, he, w1, w2, -Int.natCast_add]
     refine ⟨k + 1, by omega, ⟨by omega, by omega, ?_⟩, ⟨Fz.same, Fz.same⟩, by repeat (first | exact AB | refine AO ho (by omega) ?_)⟩
     rw [htk]; simp only [JU, List.any_append] at hf ⊢; rw [hf]; simp [he]
   · simp [go_sem, he]
     have : JU l = true := by simp only [JU, List.any_eq_true]; exact ⟨x, hxm, by simpa using he⟩
     exact Av ho (by repeat (first | exact AB | refine AO ho (by omega) ?_)) (by simp [Ap, this]) rfl
 · simp [go_sem, hlt]
   have : k = l.length := by omega
   subst this
   rw [List.take_length] at hf ⊢
   exact BC ho rfl (by simp [Ap, hf])
def DR (l : List AE) (a b : Int) : Int := if (Ap l).2 = 0 then if a < 0 ∨ b < a ∨ (Ap l).1 < b then 2 else 0 else (Ap l).2
theorem c250 (l : List AE) (a b : Int) (hl : l.length ≤ 1048576) (hs : ∀ x ∈ l, x.text.size ≤ 1048576) : PC 250 [AG l, AA a, AA b] (AA (DR l a b)) := by
 intro h n
 refine gq Tryz.func250 rfl fun ho => ?_
 simp [go_sem]
 refine (c35 l hl hs).use ?_
 by_cases h0 : (Ap l).2 = 0
 · by_cases h1 : a < 0
   · simp [go_sem, h0, h1]; exact BC ho rfl (by simp [DR, h0, h1])
   · by_cases h2 : b < a
     · simp [go_sem, h0, h1, h2]; exact BC ho rfl (by simp [DR, h0, h2])
     · by_cases h3 : (Ap l).1 < b <;> simp [go_sem, h0, h1, h2, h3] <;> exact BC ho rfl (by simp [DR, h0, h1, h2, h3])
 · simp [go_sem, h0]; exact BC ho rfl (by simp [DR, h0])
theorem fo193 : (CR Tryz.prog 193).map (fun f => (f.name == "_", f.type, f.offset)) = [(false, 3, 0), (false, 3, 1)] := by kernel_rfl
theorem fo166 : (CR Tryz.prog 166).map (fun f => (f.name == "_", f.type, f.offset)) = [(false, 3, 0), (false, 3, 1)] := by kernel_rfl
theorem fo164 : (CR Tryz.prog 164).map (fun f => (f.name == "_", f.type, f.offset)) = [(false, 3, 0), (false, 3, 1), (false, 3, 2), (false, 4, 3)] := by kernel_rfl
theorem eq193 (a b : FH) : CV Tryz.prog [AA a.key, AA a.value] [AA b.key, AA b.value] (CR Tryz.prog 193) = some (decide (a = b)) := by
 rw [Dk, fo193]
 cases a; cases b
 rename_i a1 a2 b1 b2
 by_cases h1 : a1 = b1 <;> by_cases h2 : a2 = b2 <;> simp [EQ, Ds, go_sem, h1, h2]
theorem eq166 (a b : CF) : CV Tryz.prog [AA a.rev, AA a.move] [AA b.rev, AA b.move] (CR Tryz.prog 166) = some (decide (a = b)) := by
 rw [Dk, fo166]
 cases a; cases b
 rename_i a1 a2 b1 b2
 by_cases h1 : a1 = b1 <;> by_cases h2 : a2 = b2 <;> simp [EQ, Ds, go_sem, h1, h2]
theorem eq164 (a b : BD) : CV Tryz.prog [AA a.rev, AA a.key, AA a.before, .bool a.had] [AA b.rev, AA b.key, AA b.before, .bool b.had] (CR Tryz.prog 164) = some (decide (a = b)) := by
 rw [Dk, fo164]
 cases a; cases b
 rename_i a1 a2 a3 a4 b1 b2 b3 b4
 by_cases h1 : a1 = b1 <;> by_cases h2 : a2 = b2 <;> by_cases h3 : a3 = b3 <;> by_cases h4 : a4 = b4 <;> simp [EQ, Ds, go_sem, h1, h2, h3, h4]
theorem c125 (a b : List FH) (ha : a.length ≤ 1048576) (hb : b.length ≤ 1048576) : PC 125 [.imm 2 (a.map FH.enc) false, .imm 2 (b.map FH.enc) false] (.bool (decide (a = b))) := by
 intro h n
 refine gq Tryz.func125 rfl fun ho => ?_
 by_cases hlen : (a.length : Int) = b.length
 · have hlen' : a.length = b.length := by omega
   simp [go_sem, hlen]
   refine An 1 (α := Nat) (fun k => [(0, .imm 2 (a.map FH.enc) false), (1, .imm 2 (b.map FH.enc) false), (12, AA a.length), (13, AA k)]) (fun _ => h) (fun k m => k ≤ a.length ∧ n ≤ m ∧ a.take k = b.take k) (fun k => a.length - k) 0 ?_ ?_ AB ?_
   · simp
   · simp [Ai, hlen]
   rintro k m ⟨hk, hnm, hf⟩
   by_cases hlt : k < a.length
   · have w1 := wS k (by omega)
     have hlt2 : k < b.length := by omega
     obtain ⟨x, hx⟩ : ∃ x, a[k] = x := ⟨_, rfl⟩
     obtain ⟨y, hy⟩ : ∃ y, b[k] = y := ⟨_, rfl⟩
     simp [go_sem, hlt, hlt2, hx, hy, FH.enc]
     repeat first | refine nq ?_ | refine sq ?_ | refine aq ?_
     refine ⟨_, G9 rfl (.inr rfl) (by kernel_rfl) (by kernel_rfl) (by kernel_rfl) rfl rfl (eq193 x y), ?_⟩
     simp [go_sem]
     repeat first | refine nq ?_ | refine sq ?_ | refine aq ?_
     by_cases he : x = y
     · simp [go_sem, he, w1, -Int.natCast_add]
       exact ⟨k + 1, by omega, ⟨by omega, hnm, by rw [List.take_succ_eq_append_getElem hlt, List.take_succ_eq_append_getElem hlt2, hx, hy, hf, he]⟩, Fz.same⟩
     · simp [go_sem, he]
       have : a ≠ b := by rintro rfl; exact he (by rw [← hx, ← hy])
       exact BC ho rfl (by simp [this])
   · simp [go_sem, hlt]
     have : a = b := by rw [List.take_of_length_le (by omega), List.take_of_length_le (by omega)] at hf; exact hf
     exact BC ho rfl (by simp [this])
 · simp [go_sem, hlen]
   have : a ≠ b := by rintro rfl; exact hlen rfl
   exact BC ho rfl (by simp [this])
theorem c126 (a b : List CF) (ha : a.length ≤ 1048576) (hb : b.length ≤ 1048576) : PC 126 [.imm 2 (a.map CF.enc) false, .imm 2 (b.map CF.enc) false] (.bool (decide (a = b))) := by
 intro h n
 refine gq Tryz.func126 rfl fun ho => ?_
 by_cases hlen : (a.length : Int) = b.length
 · have hlen' : a.length = b.length := by omega
   simp [go_sem, hlen]
   refine An 1 (α := Nat) (fun k => [(0, .imm 2 (a.map CF.enc) false), (1, .imm 2 (b.map CF.enc) false), (12, AA a.length), (13, AA k)]) (fun _ => h) (fun k m => k ≤ a.length ∧ n ≤ m ∧ a.take k = b.take k) (fun k => a.length - k) 0 ?_ ?_ AB ?_
   · simp
   · simp [Ai, hlen]
   rintro k m ⟨hk, hnm, hf⟩
   by_cases hlt : k < a.length
   · have w1 := wS k (by omega)
     have hlt2 : k < b.length := by omega
     obtain ⟨x, hx⟩ : ∃ x, a[k] = x := ⟨_, rfl⟩
     obtain ⟨y, hy⟩ : ∃ y, b[k] = y := ⟨_, rfl⟩
     simp [go_sem, hlt, hlt2, hx, hy, CF.enc]
     repeat first | refine nq ?_ | refine sq ?_ | refine aq ?_
     refine ⟨_, G9 rfl (.inr rfl) (by kernel_rfl) (by kernel_rfl) (by kernel_rfl) rfl rfl (eq166 x y), ?_⟩
     simp [go_sem]
     repeat first | refine nq ?_ | refine sq ?_ | refine aq ?_
     by_cases he : x = y
     · simp [go_sem, he, w1, -Int.natCast_add]
       exact ⟨k + 1, by omega, ⟨by omega, hnm, by rw [List.take_succ_eq_append_getElem hlt, List.take_succ_eq_append_getElem hlt2, hx, hy, hf, he]⟩, Fz.same⟩
     · simp [go_sem, he]
       have : a ≠ b := by rintro rfl; exact he (by rw [← hx, ← hy])
       exact BC ho rfl (by simp [this])
   · simp [go_sem, hlt]
     have : a = b := by rw [List.take_of_length_le (by omega), List.take_of_length_le (by omega)] at hf; exact hf
     exact BC ho rfl (by simp [this])
 · simp [go_sem, hlen]
   have : a ≠ b := by rintro rfl; exact hlen rfl
   exact BC ho rfl (by simp [this])
theorem c127 (a b : List BD) (ha : a.length ≤ 1048576) (hb : b.length ≤ 1048576) : PC 127 [.imm 4 (a.map BD.enc) false, .imm 4 (b.map BD.enc) false] (.bool (decide (a = b))) := by
 intro h n
 refine gq Tryz.func127 rfl fun ho => ?_
 by_cases hlen : (a.length : Int) = b.length
 · have hlen' : a.length = b.length := by omega
   simp [go_sem, hlen]
   refine An 1 (α := Nat) (fun k => [(0, .imm 4 (a.map BD.enc) false), (1, .imm 4 (b.map BD.enc) false), (12, AA a.length), (13, AA k)]) (fun _ => h) (fun k m => k ≤ a.length ∧ n ≤ m ∧ a.take k = b.take k) (fun k => a.length - k) 0 ?_ ?_ AB ?_
   · simp
   · simp [Ai, hlen]
   rintro k m ⟨hk, hnm, hf⟩
   by_cases hlt : k < a.length
   · have w1 := wS k (by omega)
     have hlt2 : k < b.length := by omega
     obtain ⟨x, hx⟩ : ∃ x, a[k] = x := ⟨_, rfl⟩
     obtain ⟨y, hy⟩ : ∃ y, b[k] = y := ⟨_, rfl⟩
     simp [go_sem, hlt, hlt2, hx, hy, BD.enc]
     repeat first | refine nq ?_ | refine sq ?_ | refine aq ?_
     refine ⟨_, G9 rfl (.inr rfl) (by kernel_rfl) (by kernel_rfl) (by kernel_rfl) rfl rfl (eq164 x y), ?_⟩
     simp [go_sem]
     repeat first | refine nq ?_ | refine sq ?_ | refine aq ?_
     by_cases he : x = y
     · simp [go_sem, he, w1, -Int.natCast_add]
       exact ⟨k + 1, by omega, ⟨by omega, hnm, by rw [List.take_succ_eq_append_getElem hlt, List.take_succ_eq_append_getElem hlt2, hx, hy, hf, he]⟩, Fz.same⟩
     · simp [go_sem, he]
       have : a ≠ b := by rintro rfl; exact he (by rw [← hx, ← hy])
       exact BC ho rfl (by simp [this])
   · simp [go_sem, hlt]
     have : a = b := by rw [List.take_of_length_le (by omega), List.take_of_length_le (by omega)] at hf; exact hf
     exact BC ho rfl (by simp [this])
 · simp [go_sem, hlen]
   have : a ≠ b := by rintro rfl; exact hlen rfl
   exact BC ho rfl (by simp [this])
theorem c58 (a b : AF) (ha : a.sized) (hb : b.sized) : PC 58 [a.enc, b.enc] (.bool (decide (a = b))) := by
 intro h n
 refine gq Tryz.func58 rfl fun ho => ?_
 have hh : ∀ y z, ∀ o x, h o = some x → hset (hset h n y) (n + 1) z o = some x := fun y z => by repeat (first | exact AB | refine AO ho (by omega) ?_)
 simp [go_sem, AF.enc, AF.flat, AC, AD]
 refine (c125 _ _ ha.props hb.props).use ?_
 by_cases h1 : a.props = b.props
 · by_cases h2 : a.ins = b.ins
   · by_cases h3 : a.move = b.move
     · simp [go_sem, h1, h2, h3, AC, AD]
       refine (c126 _ _ ha.dels hb.dels).use ?_
       by_cases h4 : a.dels = b.dels
       · simp [go_sem, h4, AC, AD]
         refine (c127 _ _ ha.layers hb.layers).use ?_
         simp [go_sem]
         refine Av ho (hh _ _) ?_ rfl
         cases a; cases b; simp at h1 h2 h3 h4; simp [h1, h2, h3, h4]
       · simp [go_sem, h4]
         refine Av ho (hh _ _) ?_ rfl
         have : a ≠ b := by rintro rfl; exact h4 rfl
         simp [this]
     · simp [go_sem, h1, h2, h3, AC, AD]
       refine Av ho (hh _ _) ?_ rfl
       have : a ≠ b := by rintro rfl; exact h3 rfl
       simp [this]
   · simp [go_sem, h1, h2, AC, AD]
     refine Av ho (hh _ _) ?_ rfl
     have : a ≠ b := by rintro rfl; exact h2 rfl
     simp [this]
 · simp [go_sem, h1]
   refine Av ho (hh _ _) ?_ rfl
   have : a ≠ b := by rintro rfl; exact h1 rfl
   simp [this]
end Go.Proofs.YtgakninlhfkkmaaGreat.Sh
