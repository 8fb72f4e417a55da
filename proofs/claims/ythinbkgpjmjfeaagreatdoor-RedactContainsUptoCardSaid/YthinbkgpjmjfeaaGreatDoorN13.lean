/- A part of the proof (part 13 of 13). -/
import Derived.Test.YthinbkgpjmjfeaaGreatDoorN12
import Derived.Test.YthinbkgpjmjfeaaGreatDoorTie
import Derived.Test.YthinbkgpjmjfeaaGreatDoorCards
import Derived.Deep.DeepHandedRow
import Derived.Deep.DeepWitnessRowRef
import Derived.Lib.LaidIn
import Derived.SevenTiedAt
import Derived.Test.YthinbkgpjmjfeaaGreatDoorNF
namespace Go.Proofs.YthinbkgpjmjfeaaGreatDoor.Sh
open Proofs
set_option maxRecDepth 10000
theorem any_or {α : Type} (f g : α → Bool) : ∀ l : List α, l.any (fun x => f x || g x) = (l.any f || l.any g)
  | [] => rfl
  | a :: l => by
    rw [List.any_cons, List.any_cons, List.any_cons, any_or f g l]
    cases f a <;> cases g a <;> cases l.any f <;> cases l.any g <;> rfl
theorem any_same {α : Type} {f g : α → Bool} : ∀ {l : List α}, (∀ x ∈ l, f x = g x) → l.any f = l.any g
  | [], _ => rfl
  | a :: l, h => by rw [List.any_cons, List.any_cons, h a (by simp), any_same fun x hx => h x (by simp [hx])]
section
variable {s : ByteArray} {it : Int → List Item → Bool → List Item × Bool} {B : List Item → Bool}
theorem faCells (hit : ∀ id l b, (it id l b).2 = (b || B l)) : ∀ (l : List Cell) (q : List Cell) (b : Bool), (l.foldl (rwCell (faR s) it) (q, b)).2 = (b || l.any fun c => B c.flow)
  | [], q, b => by simp
  | c :: l, q, b => by
    rw [List.foldl_cons, rwCell]
    dsimp only
    rw [faCells hit l]
    show ((it c.id c.flow b).2 || _) = _
    rw [hit, List.any_cons, Bool.or_assoc]
theorem faRows (hit : ∀ id l b, (it id l b).2 = (b || B l)) : ∀ (l : List Row) (q : List Row) (b : Bool), (l.foldl (rwRow (faR s) it) (q, b)).2 = (b || l.any fun r => r.cells.any fun c => B c.flow)
  | [], q, b => by simp
  | r :: l, q, b => by
    rw [List.foldl_cons, rwRow]
    dsimp only
    rw [faRows hit l]
    show ((rwCells (faR s) it r.cells b).2 || _) = _
    rw [rwCells, faCells hit, List.any_cons, Bool.or_assoc]
theorem faItems (hit : ∀ id l b, (it id l b).2 = (b || B l)) : ∀ (l : List Item) (q : List Item) (b : Bool), (l.foldl (chItem (faR s) it) (q, b)).2 = (b || l.any fun x => faI s x || B x.flow || x.rows.any fun r => r.cells.any fun c => B c.flow)
  | [], q, b => by simp
  | x :: l, q, b => by
    rw [List.foldl_cons]
    have h1 : (chItem (faR s) it (q, b) x).2 = (b || faI s x || B x.flow || x.rows.any fun r => r.cells.any fun c => B c.flow) := by
      show (rwRows (faR s) it (x.wHead x.head).rows (it 0 (x.wHead x.head).flow (b || faI s x)).2).2 = _
      rw [rwRows, faRows hit, hit]
      cases x; rfl
    rcases hc : chItem (faR s) it (q, b) x with ⟨q2, b2⟩
    rw [hc] at h1
    dsimp only at h1
    rw [faItems hit l q2 b2, h1, List.any_cons]
    simp only [Bool.or_assoc]
end
def FA (s : ByteArray) : Nat → List Item → Bool
  | 0, _ => false
  | N + 1, l => l.any fun x => faI s x || FA s N x.flow || x.rows.any fun r => r.cells.any fun c => FA s N c.flow
theorem fa_ch (s : ByteArray) : ∀ (N : Nat) (id : Int) (l : List Item) (b : Bool), (chItems (faR s) N id l b).2 = (b || FA s N l)
  | 0, id, l, b => by simp [chItems, FA]
  | N + 1, id, l, b => by rw [chItems, faItems (fa_ch s N), FA]
theorem FA_nil (s : ByteArray) (N : Nat) : FA s N [] = false := by cases N <;> simp [FA]
abbrev flH (s : ByteArray) (f : Fl) : Bool := hasS s (textS f.items)
theorem flL_any (g : Fl → Bool) (pl : Place) : ∀ l : List Item, (Item.flL pl l).any g = l.any fun x => (Item.fl pl x).any g
  | [] => by simp [Item.flL]
  | x :: l => by rw [Item.flL, List.any_append, flL_any g pl l, List.any_cons]
theorem rflL_any (g : Fl → Bool) (pl : Place) : ∀ l : List Row, (Row.flL pl l).any g = l.any fun x => (Row.fl pl x).any g
  | [] => by simp [Row.flL]
  | x :: l => by rw [Row.flL, List.any_append, rflL_any g pl l, List.any_cons]
theorem cflL_any (g : Fl → Bool) (pl : Place) : ∀ l : List Cell, (Cell.flL pl l).any g = l.any fun x => (Cell.fl pl x).any g
  | [] => by simp [Cell.flL]
  | x :: l => by rw [Cell.flL, List.any_append, cflL_any g pl l, List.any_cons]
def VV (s : ByteArray) (N : Nat) (pl : Place) (l : List Item) : Bool := hasS s (textS l) || (Item.flL pl l).any (flH s) || FA s N l
section
variable {s : ByteArray} {it : Int → List Item → List ByteArray → List Item × List ByteArray} {P : List Item → Prop} {N : Nat}
theorem gaCells {V : List Item → Bool} (hit : ∀ id l t, P l → (it id l t).2.any (hasS s) = (t.any (hasS s) || V l)) : ∀ (l : List Cell) (q : List Cell) (t : List ByteArray), (∀ c ∈ l, P c.flow) → (l.foldl (rwCell gatR it) (q, t)).2.any (hasS s) = (t.any (hasS s) || l.any fun c => V c.flow)
  | [], q, t, _ => by simp
  | c :: l, q, t, h => by
    rw [List.foldl_cons, rwCell]
    dsimp only
    rw [gaCells hit l _ _ fun x hx => h x (by simp [hx])]
    show ((it c.id c.flow t).2.any (hasS s) || _) = _
    rw [hit _ _ _ (h c (by simp)), List.any_cons, Bool.or_assoc]
theorem gaRows {V : List Item → Bool} (hit : ∀ id l t, P l → (it id l t).2.any (hasS s) = (t.any (hasS s) || V l)) : ∀ (l : List Row) (q : List Row) (t : List ByteArray), (∀ r ∈ l, ∀ c ∈ r.cells, P c.flow) → (l.foldl (rwRow gatR it) (q, t)).2.any (hasS s) = (t.any (hasS s) || l.any fun r => r.cells.any fun c => V c.flow)
  | [], q, t, _ => by simp
  | r :: l, q, t, h => by
    rw [List.foldl_cons, rwRow]
    dsimp only
    rw [gaRows hit l _ _ fun x hx => h x (by simp [hx])]
    show ((rwCells gatR it r.cells t).2.any (hasS s) || _) = _
    rw [rwCells, gaCells hit _ _ _ (h r (by simp)), List.any_cons, Bool.or_assoc]
theorem gaIn (hit : ∀ pl id l t, P l → (it id l t).2.any (hasS s) = (t.any (hasS s) || VV s N pl l)) (pl : Place) (x : Item) (t : List ByteArray) (hf : formOK x) (h1 : P x.flow) (h2 : ∀ r ∈ x.rows, ∀ c ∈ r.cells, P c.flow) :
    (rwIn gatR it x t).2.any (hasS s) = (t.any (hasS s) || ((Item.fl pl x).any (flH s) || FA s N x.flow || x.rows.any fun r => r.cells.any fun c => FA s N c.flow)) := by
  obtain ⟨f1, f2, _⟩ := hf
  by_cases h6 : x.kind = 6
  · have e : rwIn gatR it x t = (x.wFlow (it x.id x.flow t).1, (it x.id x.flow t).2) := by unfold rwIn; rw [if_pos h6]
    have hfl : Item.fl pl x = ⟨x.id, x.flow, pl.inNote⟩ :: Item.flL pl.inNote x.flow := by cases x; simp only [Item.kind] at h6; rw [Item.fl, if_pos h6]; rfl
    rw [e, f2 (by omega), hfl]
    dsimp only
    rw [hit pl.inNote _ _ _ h1]
    simp only [VV, List.any_cons, List.any_nil, Bool.or_false]
  · rw [f1 h6, FA_nil, Bool.or_false]
    by_cases h7 : x.kind = 7
    · have e : rwIn gatR it x t = (x.wRows (rwRows gatR it x.rows t).1, (rwRows gatR it x.rows t).2) := by unfold rwIn; rw [if_neg h6, if_pos h7]
      have hfl : Item.fl pl x = Row.flL pl.inTable x.rows := by cases x; simp only [Item.kind] at h6 h7; rw [Item.fl, if_neg h6, if_pos h7]; rfl
      rw [e, hfl]
      dsimp only
      rw [rwRows, gaRows (hit pl.inTable) _ _ _ h2, rflL_any]
      congr 1
      rw [← any_or]
      refine any_same fun x _ => ?_
      cases x with
      | mk hh cs =>
        rw [Row.fl, cflL_any, show (Row.mk hh cs).cells = cs from rfl, ← any_or]
        refine any_same fun y _ => ?_
        cases y with
        | mk i2 h2 f2 => simp only [VV, Cell.fl, List.any_cons, Cell.flow]
    · have e : rwIn gatR it x t = (x, t) := by unfold rwIn; rw [if_neg h6, if_neg h7]
      have hfl : Item.fl pl x = [] := by cases x; simp only [Item.kind] at h6 h7; rw [Item.fl, if_neg h6, if_neg h7]
      rw [e, hfl, f2 h7]
      simp
theorem gaItems (hit : ∀ pl id l t, P l → (it id l t).2.any (hasS s) = (t.any (hasS s) || VV s N pl l)) (pl : Place) : ∀ (l : List Item) (q : List Item) (t : List ByteArray), (∀ x ∈ l, formOK x ∧ P x.flow ∧ ∀ r ∈ x.rows, ∀ c ∈ r.cells, P c.flow) → (l.foldl (rwItem gatR it) (q, t)).2.any (hasS s) = (t.any (hasS s) || l.any fun x => (Item.fl pl x).any (flH s) || (faI s x || FA s N x.flow || x.rows.any fun r => r.cells.any fun c => FA s N c.flow))
  | [], q, t, _ => by simp
  | x :: l, q, t, h => by
    rw [List.foldl_cons]
    obtain ⟨a1, a2, a3⟩ := h x (by simp)
    have h1 : (rwItem gatR it (q, t) x).2.any (hasS s) = (t.any (hasS s) || ((Item.fl pl x).any (flH s) || (faI s x || FA s N x.flow || x.rows.any fun r => r.cells.any fun c => FA s N c.flow))) := by
      have e : (rwItem gatR it (q, t) x).2 = (rwIn gatR it (x.wHead x.head) (if x.kind = 5 ∨ x.kind = 8 then t ++ [x.text] else t)).2 := rfl
      have e2 : x.wHead x.head = x := by cases x; rfl
      rw [e, e2, gaIn hit pl x _ a1 a2 a3]
      have e3 : (if x.kind = 5 ∨ x.kind = 8 then t ++ [x.text] else t).any (hasS s) = (t.any (hasS s) || faI s x) := by
        unfold faI
        by_cases hk : x.kind = 5 ∨ x.kind = 8
        · rw [if_pos hk, List.any_append]; simp [hk]
        · rw [if_neg hk]; simp [hk]
      rw [e3]
      cases t.any (hasS s) <;> cases faI s x <;> cases (Item.fl pl x).any (flH s) <;> simp
    rcases hc : rwItem gatR it (q, t) x with ⟨q2, t2⟩
    rw [hc] at h1
    rw [gaItems hit pl l q2 t2 fun y hy => h y (by simp [hy]), h1, List.any_cons, Bool.or_assoc]
end
theorem ga_rw (s : ByteArray) {hp : Head → Prop} {K : Nat} {m2 : List Int} : ∀ (N : Nat) (pl : Place) (id : Int) (l : List Item) (t : List ByteArray), lim hp K N l ∧ okc m2 N l → (rwItems gatR N id l t).2.any (hasS s) = (t.any (hasS s) || VV s N pl l)
  | 0, _, _, _, _, h => h.1.elim
  | N + 1, pl, id, l, t, h => by
    have hall : ∀ x ∈ l, formOK x ∧ (lim hp K N x.flow ∧ okc m2 N x.flow) ∧ ∀ r ∈ x.rows, ∀ c ∈ r.cells, lim hp K N c.flow ∧ okc m2 N c.flow := fun x hx => by
      obtain ⟨a1, a2, a3, a4⟩ := (lim_iff.1 h.1).2.2 x hx
      obtain ⟨b1, b2, b3, b4, b5⟩ := h.2 x hx
      exact ⟨b1, ⟨a2, b3⟩, fun r hr c hc => ⟨((a4 r hr).2.2 c hc).2, ((b5 r hr).2 c hc).2⟩⟩
    have e : (rwItems gatR (N + 1) id l t).2 = (l.foldl (rwItem gatR (rwItems gatR N)) ([], t ++ [textS l])).2 := rfl
    rw [e, gaItems (ga_rw s N) pl l [] _ hall, any_or, ← flL_any, ← FA, List.any_append, VV]
    simp [Bool.or_assoc]
theorem gat_has (s : ByteArray) {d : Document} {K N : Nat} (hl : lim Head.sized K N d.flow) (hd : okDoc N d) : (gat5 N d).any (hasS s) = has5 N d s := by
  have h0 : (gatL N d).any (hasS s) = has0 N d s := by
    have h1 := ga_rw s N docPlace 0 d.flow [] ⟨hl, hd.flow⟩
    have e : gatL N d = (rwItems gatR N 0 d.flow []).2 := rfl
    rw [e, h1, VV, has0, inIt, fa_ch]
    have e2 : inFl d s = (docFlows d).any (flH s) := by
      unfold inFl idsOf
      rw [List.any_map]
      refine any_same fun f hf => ?_
      show hasS s (textS (flowAt d f.id)) = _
      rw [flowAt_of hl hd f hf]
    rw [e2, docFlows, flowsOf, List.any_cons]
    simp [Bool.or_assoc]
  rw [has5, has4, has3, has2, has1, ← h0]
  rw [gat5, gat4, gat3, gat2, gat1]
  simp only [List.any_append, List.any_flatMap]
  congr 1
  · congr 1
    · congr 1
      · congr 1
        · congr 1
          exact any_same fun x _ => by simp [revT, revH]
        · exact any_same fun x _ => by simp [comT, comH]
      · exact any_same fun x _ => by simp [styT, styH]
    · exact any_same fun x _ => by
        simp only [lstT, lstH, List.any_flatMap]
        exact any_same fun y _ => by simp [levT, levH]
  · exact any_same fun x _ => by simp [varT, varH]
section
variable {H : Type} {enc : TypeId × Value → H} {w : World} {base : Nat} {spare : Nat → Bool} {held : Bool} {α : Type}
theorem rStyleN : ∀ k, Rd enc Tryz.prog w base spare held k 110 Style.F 6 (fun s => s.props.length ≤ BB ∧ s.name.size ≤ BB) (fun _ => 0)
  | 0 => Rd.zero
  | k + 1 => (RdS.rd Tryz.underlying110 (by kernel_rfl) (RdS.cons (rInt k) (by kernel_rfl) rfl (RdS.cons (rInt k) (by kernel_rfl) rfl (RdS.cons (rStr k) (by kernel_rfl) rfl (RdS.cons (rInt k) (by kernel_rfl) rfl (RdS.cons (rInt k) (by kernel_rfl) rfl (RdS.cons (rProps k) (by kernel_rfl) rfl RdS.nil))))))).map
      (fun p => (⟨p.1, p.2.1, p.2.2.1, p.2.2.2.1, p.2.2.2.2.1, p.2.2.2.2.2.1⟩ : Style)) (fun _ => rfl) (fun _ h => ⟨h.2.2.2.2.2.1, h.2.2.1⟩) (fun _ => Nat.zero_le _)
theorem rLevelsN (k : Nat) : Rd enc Tryz.prog w base spare held k 111 (fun l : List Level => [levelsE l]) 1 (fun l => l.length ≤ BB ∧ ∀ r ∈ l, r.template.size ≤ BB) (fun l => l.length) :=
  (rd_slice (f := Level.enc) (F := Level.F) (fun _ => rfl) Level.E.st Tryz.underlying111 (by kernel_rfl) (by omega) (fun m _ => rLevel m)).map (fun l => l) (fun _ => rfl) (fun l h => ⟨by have := sumμ_len (fun _ => 0) l; have := h.2; omega, h.1⟩) (fun l => sumμ_len (fun _ => 0) l)
theorem rLstN : ∀ k, Rd enc Tryz.prog w base spare held k 113 Lst.F 2 (fun s => s.levels.length ≤ BB ∧ ∀ r ∈ s.levels, r.template.size ≤ BB) (fun s => s.levels.length)
  | 0 => Rd.zero
  | k + 1 => (RdS.rd Tryz.underlying113 (by kernel_rfl) (RdS.cons (rInt k) (by kernel_rfl) rfl (RdS.cons (rLevelsN k) (by kernel_rfl) rfl RdS.nil))).map (fun p => (⟨p.1, p.2.1⟩ : Lst)) (fun _ => rfl) (fun _ h => h.2.1) (fun p => by show p.2.1.length ≤ _; omega)
theorem levels_sum : ∀ l : List Lst, (l.flatMap (·.levels)).length ≤ sumμ (fun s : Lst => s.levels.length) l
  | [] => by simp [sumμ]
  | x :: l => by
    have := levels_sum l
    simp only [sumμ, List.map_cons, List.sum_cons, List.flatMap_cons, List.length_append] at this ⊢; omega
theorem rStylesN (k : Nat) : Rd enc Tryz.prog w base spare held k 31 (fun l : List Style => [stylesE l]) 1 (fun l => l.length ≤ BB ∧ ∀ r ∈ l, r.props.length ≤ BB ∧ r.name.size ≤ BB) (fun _ => 0) :=
  (rd_slice (f := Style.enc) (F := Style.F) (fun _ => rfl) Style.E.st Tryz.underlying31 (by kernel_rfl) (by omega) (fun m _ => rStyleN m)).map (fun l => l) (fun _ => rfl) (fun l h => ⟨by have := sumμ_len (fun _ => 0) l; have := h.2; omega, h.1⟩) (fun _ => Nat.zero_le _)
theorem rListsN (k : Nat) : Rd enc Tryz.prog w base spare held k 32 (fun l : List Lst => [listsE l]) 1 (fun l => (l.length ≤ BB ∧ ∀ s ∈ l, s.levels.length ≤ BB ∧ ∀ r ∈ s.levels, r.template.size ≤ BB) ∧ (l.flatMap (·.levels)).length ≤ BB) (fun _ => 0) :=
  (rd_slice (f := Lst.enc) (F := Lst.F) (fun _ => rfl) Lst.E.st Tryz.underlying32 (by kernel_rfl) (by omega) (fun m _ => rLstN m)).map (fun l => l) (fun _ => rfl) (fun l h => by
    have h1 := sumμ_len (fun s : Lst => s.levels.length) l
    have h2 := levels_sum l
    have h3 := h.2
    exact ⟨⟨by omega, h.1⟩, by omega⟩) (fun _ => Nat.zero_le _)
def Settings.sizedN (s : Settings) : Prop := s.sizedT ∧ (∀ x ∈ s.styles, x.name.size ≤ 1048576) ∧ (s.lists.flatMap (·.levels)).length ≤ 1048576
theorem rSettingsN : ∀ k, Rd enc Tryz.prog w base spare held k 36 Settings.flat 4 Settings.sizedN (fun _ => 0)
  | 0 => Rd.zero
  | k + 1 => (RdS.rd Tryz.underlying36 (by kernel_rfl) (RdS.cons (rStylesN k) (by kernel_rfl) rfl (RdS.cons (rListsN k) (by kernel_rfl) rfl (RdS.cons (rComments k) (by kernel_rfl) rfl (RdS.cons (rVars k) (by kernel_rfl) rfl RdS.nil))))).map
      (fun p => (⟨p.1, p.2.1, p.2.2.1, p.2.2.2.1⟩ : Settings)) (fun _ => rfl) (fun _ h => ⟨⟨⟨h.1.1, h.2.1.1.1, h.2.2.1.1, h.2.2.2.1.1, fun x hx => (h.1.2 x hx).1, fun x hx => (h.2.1.1.2 x hx).1⟩, fun x hx => (h.2.1.1.2 x hx).2, h.2.2.1.2, h.2.2.2.1.2⟩, fun x hx => (h.1.2 x hx).2, h.2.1.2⟩) (fun _ => Nat.zero_le _)
theorem rDocumentN : ∀ k, Rd enc Tryz.prog w base spare held k 38 Document.F 11 (fun d => d.sizedT BB k ∧ d.settings.sizedN) (fun _ => 0)
  | 0 => Rd.zero
  | k + 1 => (RdS.rd Tryz.underlying38 (by kernel_rfl) (RdS.cons (rItems k) (by kernel_rfl) rfl (RdS.cons (rHead k) (by kernel_rfl) rfl (RdS.cons (rRevs k) (by kernel_rfl) rfl (RdS.cons (rSettingsN k) (by kernel_rfl) rfl RdS.nil))))).map
      (fun p => (⟨p.1, p.2.1, p.2.2.1, p.2.2.2.1⟩ : Document)) (fun _ => rfl) (fun _ h => ⟨⟨h.1 _ (by omega), h.2.1, h.2.2.1.1, h.2.2.1.2, h.2.2.2.1.1⟩, h.2.2.2.1⟩) (fun _ => Nat.zero_le _)
end
def gt : Nat → List Item → List ByteArray
  | 0, _ => []
  | N + 1, l => textS l :: l.flatMap fun x => (if x.kind = 5 ∨ x.kind = 8 then [x.text] else []) ++ (if x.kind = 6 then gt N x.flow else if x.kind = 7 then x.rows.flatMap fun r => r.cells.flatMap fun c => gt N c.flow else [])
section
variable {it : Int → List Item → List ByteArray → List Item × List ByteArray} {B : List Item → List ByteArray}
theorem gtCells (hit : ∀ id l t, (it id l t).2 = t ++ B l) : ∀ (l : List Cell) (q : List Cell) (t : List ByteArray), (l.foldl (rwCell gatR it) (q, t)).2 = t ++ l.flatMap fun c => B c.flow
  | [], q, t => by simp
  | c :: l, q, t => by
    rw [List.foldl_cons, rwCell]
    dsimp only
    rw [gtCells hit l]
    show (it c.id c.flow t).2 ++ _ = _
    rw [hit, List.flatMap_cons, List.append_assoc]
theorem gtRows (hit : ∀ id l t, (it id l t).2 = t ++ B l) : ∀ (l : List Row) (q : List Row) (t : List ByteArray), (l.foldl (rwRow gatR it) (q, t)).2 = t ++ l.flatMap fun r => r.cells.flatMap fun c => B c.flow
  | [], q, t => by simp
  | r :: l, q, t => by
    rw [List.foldl_cons, rwRow]
    dsimp only
    rw [gtRows hit l]
    show (rwCells gatR it r.cells t).2 ++ _ = _
    rw [rwCells, gtCells hit, List.flatMap_cons, List.append_assoc]
theorem gtItems (hit : ∀ id l t, (it id l t).2 = t ++ B l) : ∀ (l : List Item) (q : List Item) (t : List ByteArray), (l.foldl (rwItem gatR it) (q, t)).2 = t ++ l.flatMap fun x => (if x.kind = 5 ∨ x.kind = 8 then [x.text] else []) ++ (if x.kind = 6 then B x.flow else if x.kind = 7 then x.rows.flatMap fun r => r.cells.flatMap fun c => B c.flow else [])
  | [], q, t => by simp
  | x :: l, q, t => by
    rw [List.foldl_cons]
    have e : (rwItem gatR it (q, t) x).2 = (rwIn gatR it (x.wHead x.head) (if x.kind = 5 ∨ x.kind = 8 then t ++ [x.text] else t)).2 := rfl
    have e2 : x.wHead x.head = x := by cases x; rfl
    have e3 : (if x.kind = 5 ∨ x.kind = 8 then t ++ [x.text] else t) = t ++ (if x.kind = 5 ∨ x.kind = 8 then [x.text] else []) := by split <;> simp
    rw [e2, e3] at e
    have e4 : ∀ u, (rwIn gatR it x u).2 = u ++ (if x.kind = 6 then B x.flow else if x.kind = 7 then x.rows.flatMap fun r => r.cells.flatMap fun c => B c.flow else []) := fun u => by
      unfold rwIn
      split
      · exact hit _ _ _
      · split
        · exact gtRows hit _ _ _
        · simp
    rw [e4] at e
    rcases hc : rwItem gatR it (q, t) x with ⟨q2, t2⟩
    rw [hc] at e
    dsimp only at e
    rw [gtItems hit l q2 t2, e, List.flatMap_cons]
    simp only [List.append_assoc]
end
theorem gt_rw : ∀ (N : Nat) (id : Int) (l : List Item) (t : List ByteArray), (rwItems gatR N id l t).2 = t ++ gt N l
  | 0, id, l, t => by simp [rwItems, gt]
  | N + 1, id, l, t => by
    have e : (rwItems gatR (N + 1) id l t).2 = (l.foldl (rwItem gatR (rwItems gatR N)) ([], t ++ [textS l])).2 := rfl
    rw [e, gtItems (gt_rw N), gt, List.append_assoc, List.singleton_append]
def wt (f : Fl) : Nat := 1 + f.items.length
def sm (l : List Fl) : Nat := (l.map wt).sum
theorem sm_app (a b : List Fl) : sm (a ++ b) = sm a + sm b := by simp [sm]
theorem len_flat {α β : Type} (f : α → List β) (g : α → Nat) : ∀ l : List α, (∀ x ∈ l, (f x).length ≤ g x) → (l.flatMap f).length ≤ (l.map g).sum
  | [], _ => by simp
  | x :: l, h => by
    have := len_flat f g l fun y hy => h y (by simp [hy])
    have := h x (by simp)
    simp only [List.flatMap_cons, List.length_append, List.map_cons, List.sum_cons]; omega
theorem sm_flL (pl : Place) : ∀ l : List Item, sm (Item.flL pl l) = (l.map fun x => sm (Item.fl pl x)).sum
  | [] => by simp [Item.flL, sm]
  | x :: l => by rw [Item.flL, sm_app, sm_flL pl l, List.map_cons, List.sum_cons]
theorem sm_rfl (pl : Place) : ∀ l : List Row, sm (Row.flL pl l) = (l.map fun x => sm (Row.fl pl x)).sum
  | [] => by simp [Row.flL, sm]
  | x :: l => by rw [Row.flL, sm_app, sm_rfl pl l, List.map_cons, List.sum_cons]
theorem sm_cfl (pl : Place) : ∀ l : List Cell, sm (Cell.flL pl l) = (l.map fun x => sm (Cell.fl pl x)).sum
  | [] => by simp [Cell.flL, sm]
  | x :: l => by rw [Cell.flL, sm_app, sm_cfl pl l, List.map_cons, List.sum_cons]
theorem sum_1p {α : Type} (g : α → Nat) : ∀ l : List α, (l.map fun x => 1 + g x).sum = l.length + (l.map g).sum
  | [] => rfl
  | x :: l => by simp only [List.map_cons, List.sum_cons, List.length_cons, sum_1p g l]; omega
theorem fl6 (pl : Place) {x : Item} (h6 : x.kind = 6) : Item.fl pl x = ⟨x.id, x.flow, pl.inNote⟩ :: Item.flL pl.inNote x.flow := by cases x; simp only [Item.kind] at h6; rw [Item.fl, if_pos h6]; rfl
theorem fl7 (pl : Place) {x : Item} (h7 : x.kind = 7) : Item.fl pl x = Row.flL pl.inTable x.rows := by cases x; simp only [Item.kind] at h7; rw [Item.fl, if_neg (by omega), if_pos h7]; rfl
theorem gt_len : ∀ (N : Nat) (pl : Place) (l : List Item), (gt N l).length ≤ 1 + l.length + sm (Item.flL pl l)
  | 0, _, _ => by simp [gt]
  | N + 1, pl, l => by
    rw [gt, List.length_cons]
    have h1 := len_flat (fun x : Item => (if x.kind = 5 ∨ x.kind = 8 then [x.text] else []) ++ (if x.kind = 6 then gt N x.flow else if x.kind = 7 then x.rows.flatMap fun r => r.cells.flatMap fun c => gt N c.flow else [])) (fun x => 1 + sm (Item.fl pl x)) l fun x _ => by
      have a1 : (if x.kind = 5 ∨ x.kind = 8 then [x.text] else []).length ≤ 1 := by split <;> simp
      have a2 : (if x.kind = 6 then gt N x.flow else if x.kind = 7 then x.rows.flatMap fun r => r.cells.flatMap fun c => gt N c.flow else []).length ≤ sm (Item.fl pl x) := by
        by_cases h6 : x.kind = 6
        · rw [if_pos h6, fl6 pl h6]
          have := gt_len N pl.inNote x.flow
          simp only [sm, List.map_cons, List.sum_cons, wt] at this ⊢; omega
        · by_cases h7 : x.kind = 7
          · rw [if_neg h6, if_pos h7, fl7 pl h7, sm_rfl]
            refine len_flat _ _ _ fun r _ => ?_
            cases r with
            | mk hh cs =>
              rw [Row.fl, sm_cfl]
              refine len_flat _ _ _ fun c _ => ?_
              cases c with
              | mk i2 h2 f2 =>
                rw [Cell.fl]
                have := gt_len N pl.inTable f2
                simp only [sm, List.map_cons, List.sum_cons, wt, Cell.flow] at this ⊢; omega
          · rw [if_neg h6, if_neg h7]; simp
      rw [List.length_append]; omega
    rw [sum_1p, ← sm_flL] at h1
    omega
theorem gt_size {hp : Head → Prop} {K : Nat} : ∀ (N : Nat) (l : List Item), lim hp K N l → ∀ t ∈ gt N l, t.size ≤ 4 * K
  | 0, _, h => h.elim
  | N + 1, l, h => by
    obtain ⟨h1, h2, h3⟩ := lim_iff.1 h
    intro t ht
    rw [gt] at ht
    rcases List.mem_cons.1 ht with rfl | ht
    · have := textB_len l
      have e : (textS l).size = (textB l).length := by simp [textS, ByteArray.size]
      omega
    · obtain ⟨x, hx, ht⟩ := List.mem_flatMap.1 ht
      obtain ⟨a1, a2, a3, a4⟩ := h3 x hx
      rcases List.mem_append.1 ht with ht | ht
      · split at ht
        · rw [List.mem_singleton.1 ht]; have := textsL_mem hx; omega
        · cases ht
      · split at ht
        · exact gt_size N _ a2 t ht
        · split at ht
          · obtain ⟨r, hr, ht⟩ := List.mem_flatMap.1 ht
            obtain ⟨c, hc, ht⟩ := List.mem_flatMap.1 ht
            exact gt_size N _ ((a4 r hr).2.2 c hc).2 t ht
          · cases ht
theorem gatL_gt (N : Nat) (d : Document) : gatL N d = gt N d.flow := by
  have e : gatL N d = (rwItems gatR N 0 d.flow []).2 := rfl
  rw [e, gt_rw, List.nil_append]
theorem sm_doc (d : Document) : sm (docFlows d) = (docFlows d).length + ((docFlows d).map lenW).sum := by
  unfold sm
  rw [← sum_1p]; rfl
theorem gat_ok {d : Document} {B N : Nat} (hB : B ≤ 1048576) (hd : d.sizedT B N) (hs : d.settings.sizedN) (ht : tot N d.flow ≤ 150) : (gat5 N d).length ≤ 1073741823 ∧ ∀ t ∈ gat5 N d, t.size < 4294967281 := by
  have h1 := docFlows_sum hd.flow ht
  have h2 := gt_len N docPlace d.flow
  have h3 := sm_doc d
  have h4 : sm (docFlows d) = 1 + d.flow.length + sm (Item.flL docPlace d.flow) := by
    rw [docFlows, flowsOf]; simp [sm, wt]
  have hz := gt_size N d.flow hd.flow
  obtain ⟨hsT, hsy, hlv⟩ := hs
  have l1 := len_flat revT (fun _ => 1) d.revs fun x _ => Nat.le_refl _
  have l2 := len_flat comT (fun _ => 2) d.settings.comments fun x _ => Nat.le_refl _
  have l3 := len_flat styT (fun _ => 1) d.settings.styles fun x _ => Nat.le_refl _
  have l4 : (d.settings.lists.flatMap lstT).length = (d.settings.lists.flatMap (·.levels)).length := by
    induction d.settings.lists with
    | nil => rfl
    | cons a l ih =>
      have e : (lstT a).length = a.levels.length := by
        unfold lstT
        induction a.levels with
        | nil => rfl
        | cons b m ih => simp only [List.flatMap_cons, List.length_append, List.length_cons, ih, levT, List.length_nil]; omega
      simp only [List.flatMap_cons, List.length_append, ih, e]
  have l5 := len_flat varT (fun _ => 2) d.settings.vars fun x _ => Nat.le_refl _
  have sc : ∀ {α : Type} (l : List α) (k : Nat), (l.map fun _ => k).sum = k * l.length := fun l k => by
    induction l with
    | nil => simp
    | cons a l ih => simp only [List.map_cons, List.sum_cons, ih, List.length_cons, Nat.mul_add]; omega
  rw [sc] at l1 l2 l3 l5
  have m1 := hd.revs
  have m2 := hsT.comments
  have m3 := hsT.styles
  have m4 := hsT.vars
  constructor
  · rw [gat5, gat4, gat3, gat2, gat1, gatL_gt]
    simp only [List.length_append]
    omega
  · intro t hm
    rw [gat5, gat4, gat3, gat2, gat1, gatL_gt] at hm
    simp only [List.mem_append] at hm
    rcases hm with ((((hm | hm) | hm) | hm) | hm) | hm
    · have := hz t hm; omega
    · obtain ⟨x, hx, hm⟩ := List.mem_flatMap.1 hm
      rw [List.mem_singleton.1 hm]; have := hd.authors x hx; omega
    · obtain ⟨x, hx, hm⟩ := List.mem_flatMap.1 hm
      have := hsT.com x hx
      simp only [comT, List.mem_cons, List.not_mem_nil, or_false] at hm
      rcases hm with rfl | rfl <;> omega
    · obtain ⟨x, hx, hm⟩ := List.mem_flatMap.1 hm
      rw [List.mem_singleton.1 hm]; have := hsy x hx; omega
    · obtain ⟨x, hx, hm⟩ := List.mem_flatMap.1 hm
      obtain ⟨y, hy, hm⟩ := List.mem_flatMap.1 hm
      rw [List.mem_singleton.1 hm]; have := hsT.tpl x hx y hy; omega
    · obtain ⟨x, hx, hm⟩ := List.mem_flatMap.1 hm
      have := hsT.var x hx
      simp only [varT, List.mem_cons, List.not_mem_nil, or_false] at hm
      rcases hm with rfl | rfl <;> omega
theorem t12X (d : Document) (r : Rules) {B N : Nat} (hB : B ≤ 1048576) (hd : d.sizedT B N) (R : Rsz r) : TC 12 [d.enc, r.enc] (smallX N d) := by
  intro h n
  refine go Tryz.func12 rfl (by kernel_rfl) (by kernel_rfl) (by simp [go_sem]) fun ho => ?_
  have kp : ∀ (a b : Option SObj), ∀ o z, h o = some z → hset (hset h n a) (n + 1) b o = some z := fun a b => keep2 ho
  have fin : ∀ (b : Bool) (a c : Option SObj) (m : Nat), (b = true → okDoc N d ∧ few N d.flow ∧ tot N d.flow ≤ 150) → RetS n (hset (hset h n a) (n + 1) c) m (.bool b) (fun v h' n' => (smallX N d) v ∧ h' = h ∧ n' = n) := fun b a c m hb => retT ho (kp _ _) (by simp [closed]) ⟨b, rfl, hb⟩
  have fin0 : ∀ (b : Bool) (m : Nat), (b = true → okDoc N d ∧ few N d.flow ∧ tot N d.flow ≤ 150) → RetS n h m (.bool b) (fun v h' n' => (smallX N d) v ∧ h' = h ∧ n' = n) := fun b m hb => retT ho look_same (by simp [closed]) ⟨b, rfl, hb⟩
  have hvl := R.hv
  by_cases h1 : (30 : Int) < r.ranges.length
  · simp [go_sem, Rules.enc, Document.enc, Head.flat, Settings.flat, hset_at, Nat.add_assoc, h1]
    exact fin _ _ _ _ (by simp)
  by_cases h2 : (30 : Int) < r.vars.length
  · simp [go_sem, Rules.enc, Document.enc, Head.flat, Settings.flat, hset_at, Nat.add_assoc, h1, h2]
    exact fin _ _ _ _ (by simp)
  by_cases h3 : (200 : Int) < r.marker.size
  · simp [go_sem, Rules.enc, Document.enc, Head.flat, Settings.flat, hset_at, Nat.add_assoc, h1, h2, h3]
    exact fin _ _ _ _ (by simp)
  simp [go_sem, Rules.enc, Document.enc, Head.flat, Settings.flat, hset_at, Nat.add_assoc, h1, h2, h3]
  refine goloop 1 (α := Nat) (fun k => [(2, .iptr (dcs d)), (3, .iptr (rcs r)), (5, intE k)]) (fun _ => h) (fun k m => k ≤ r.vars.length ∧ n ≤ m) (fun k => r.vars.length - k) 0 ?_ ?_ (keep2 ho) ?_
  · simp
  · intro p hp
    simp only [List.mem_cons, List.not_mem_nil, or_false] at hp
    rcases hp with rfl | rfl | rfl
    · exact ptr_fz (fz_none ho n (Nat.le_refl _)) (by simp [hset_at, hset_ne, Head.flat, Settings.flat])
    · exact ptr_fz (fz_none ho (n + 1) (by omega)) (by simp [hset_at])
    · exact Fz.same
  rintro k m ⟨hk, hnm⟩
  by_cases hlt : k < r.vars.length
  · have w1 : IntKind.i64.wrap ((k : Int) + 1) = ((k + 1 : Nat) : Int) := by rw [wr64] <;> omega
    by_cases h4 : (200 : Int) < (r.vars[k]).size
    · simp [go_sem, hlt, h4]
      exact fin0 _ _ (by simp)
    · simp [go_sem, hlt, h4, w1, -Int.natCast_add]
      exact ⟨k + 1, by omega, ⟨by omega, hnm⟩, Fz.same⟩
  · simp [go_sem, hlt, Head.flat, Settings.flat]
    refine TC.use (by simpa [Document.enc, Head.flat, Settings.flat] using t12x_s d hB hd) ?_
    rintro v ⟨b, rfl, hb⟩
    simp [go_sem]
    exact fin0 _ _ hb
theorem TC.wk {f : FuncId} {us bs : List SV} {T : SV → Prop} (k : Nat) (H : TC f bs T) (hw : All2 (Fz (fun _ => none) (fun _ => none) k) us bs) : TC f us T := fun h n =>
  SCallE.fz k (fun _ _ e => e) (hw.mono fun _ _ => Fz.any k) (H h n)
def zeroR : Rules := ⟨[], .empty, false, false, false, false, []⟩
theorem t12Z (d : Document) {B N : Nat} (hB : B ≤ 1048576) (hd : d.sizedT B N) : TC 12 [d.enc, .agg [.imm 0 [] true, .str .empty, .bool false, .bool false, .bool false, .bool false, .imm 0 [] true]] (smallX N d) :=
  (t12X d zeroR hB hd ⟨by simp [zeroR], by simp [zeroR], by simp [zeroR]⟩).wk 2 ⟨Fz.same, .inr ⟨.inr ⟨by simp, .inl rfl, trivial, by simp [zeroR]⟩, Fz.same, Fz.same, Fz.same, Fz.same, Fz.same, .inr ⟨by simp, .inl rfl, trivial, by simp [zeroR]⟩, trivial⟩, trivial⟩
def trR6 : Tr := .pure 0 <| .pure 1 <| .pure 3 <| .pure 4 <| .one 2 <| .one 5 <| .one 6 <| .one 7 .nil
set_option maxHeartbeats 8000000 in
theorem g6 (g11 : GC 11 [] (.bool true)) (d : Document) (s0 : ByteArray) (hs0 : s0.size ≤ 1048576) {B N : Nat} (hB : B ≤ 1048576) (hd : d.sizedT B N) (hsn : d.settings.sizedN) (D : Dsz d) : GC 6 [d.enc, .str s0] (.bool true) := by
  intro E hI h n
  refine goS Tryz.func6 rfl (by kernel_rfl) (by kernel_rfl) (by simp [go_sem]) fun ho => ?_
  have hHb : ∀ j y, h j = some y → j < n := fun j y e => (ho j y e).1
  refine SP_mid 1 (α := Unit) (fun _ => [(1, .str s0), (2, .iptr (dcs d))]) (fun _ => h) (fun _ m => n ≤ m) ?_ (fun _ m hm => ?_)
  · simp [go_sem, Fz.same, Document.enc, Head.flat, Settings.flat]
    refine ⟨ptr_fz (ho.none (Nat.le_refl n)) (by simp [hset]), fun j y => ?_⟩
    have := ho j y; simp only [hset]; grind
  obtain ⟨k, hk⟩ : ∃ k, k = min s0.size 100 := ⟨_, rfl⟩
  have hmin : (if (100 : Int) < (s0.size : Int) then (100 : Int) else (s0.size : Int)) = (k : Int) := by split <;> omega
  have hk1 : (k : Int) ≤ s0.size := by omega
  refine SP_mid 0 (α := Unit) (fun _ => [(1, .str (s0.extract 0 k)), (2, .iptr (dcs d))]) (fun _ => h) (fun _ m => n ≤ m) ?_ (fun _ m hm => ?_)
  · simp [go_sem, Fz.same, hmin, hk1, hm]
  have hks : (s0.extract 0 k).size ≤ 100 := by rw [ByteArray.size_extract]; omega
  generalize s0.extract 0 k = s at *
  refine SP_seq ?_
  refine SP_mid 0 (α := Bx) (fun x => [(1, .str s), (2, .iptr (dcs d)), (17, .bool (!x.b))]) (fun _ => h) (fun x m => n ≤ m ∧ (x.b = true → okDoc N d ∧ few N d.flow ∧ tot N d.flow ≤ 150)) ?_ (fun x m hm => ?_)
  · simp [go_sem, Head.flat, Settings.flat]
    refine g11.use hI ?_
    simp [go_sem]
    refine TC.use (by simpa [Document.enc, Head.flat, Settings.flat] using t12Z d hB hd) ?_
    rintro v ⟨b, rfl, hb⟩
    simp [go_sem, Fz.same]
    exact ⟨⟨b⟩, ⟨hm, hb⟩, rfl⟩
  obtain ⟨hm, hb⟩ := hm
  rcases x with ⟨b⟩
  cases b with
  | false =>
    refine SWE_cond (b := true) (by simp [go_sem]) ?_
    rw [if_pos rfl]
    refine SP_of ?_
    simp [go_sem]
    refine g11.use hI ?_
    simp [go_sem]
    exact ret0 ho rfl rfl
  | true =>
    obtain ⟨hok, hfw, htt⟩ := hb rfl
    refine SWE_cond (b := false) (by simp [go_sem]) ?_
    rw [if_neg (by simp)]
    refine SP_of ?_
    simp [go_sem]
    have hn := docFlows_sum hd.flow htt
    have htz : ∀ id, (textB (flowAt d id)).length ≤ 536870912 := fun id => by
      have htx := flowAt_tx hd.flow hok hfw id
      have h1 := (textS_ok _ htx.1).2
      have h2 := htx.2
      have h3 : (textS (flowAt d id)).size = (textB (flowAt d id)).length := by simp [textS, ByteArray.size]
      omega
    obtain ⟨hg1, hg2⟩ := gat_ok hB hd hsn htt
    have hsz := hd.flow.sized (fun _ h => h) hB
    have hS := hd.settings.1
    have hdz : d.sized := ⟨hsz.1, hsz.2, hd.end, hd.revs, hS⟩
    have c20 := w20 d s hB hdz hd.flow hd.revs hS.comments hS.styles hS.lists hS.levels hS.vars hg1 hg2
    have c21 := w21 d s (K := B) (N := N) hB (by omega) D hd.flow (by omega) htz hd.revs hS.comments hS.styles hS.lists hS.levels hS.vars hd.authors hd.settings.com hsn.2.1 hd.settings.tpl hd.settings.var
    rw [gat_has s hd.flow hok] at c20
    refine SP_midS 0 (α := Unit) (fun _ => [(4, .bool true)]) (fun _ => h) (fun _ m => n ≤ m) (SP_tr trR6 rfl (by kernel_rfl) (by kernel_rfl) ?_) (fun _ m hm => ?_)
    · simp [go_sem, trR6, Head.flat, Settings.flat]
      refine GC.use (by simpa [Document.enc, Head.flat, Settings.flat] using c20) hI ?_
      simp [go_sem]
      refine PC.use (by simpa [Document.enc, Head.flat, Settings.flat] using c21) ?_
      simp [go_sem, Fz.same, hm]
    · refine SP_of ?_
      simp [go_sem]
      exact ret0 ho rfl rfl
end Go.Proofs.YthinbkgpjmjfeaaGreatDoor.Sh
namespace Go.Proofs.YthinbkgpjmjfeaaGreatDoor.redactContains
open Go.ChangeShapes Go.WideShapes Go.ChangeAt Go.RowKit
open Go.Proofs.YthinbkgpjmjfeaaGreatDoor.Sh
set_option maxRecDepth 10000
theorem own : ownKnob Tryz.prog.godebug = none := by kernel_rfl
theorem contract (H : Type) (enc : TypeId × Value → H) (W : World) (base : Nat) (args : Array Value) (ds gs : List (DataW H)) (before : List MemPlace)
    (hval : ∀ (j : Nat) t v, Tryz.f6.params[j]? = some t → args[j]? = some v → Value.okWide Tryz.prog W .any base t v)
    (hW : DataW.Whole enc Tryz.prog Tryz.f6.params.toList Rows.redactContainsSpec.vars false W args.toList ds gs before) (hk : Rows.uptoSmall H (ds ++ gs) = true) (hsh : W.ShapedOpen Tryz.prog) :
    Calls Tryz.prog 6 args W fun e W' => ∃ v, e = .returned v ∧ Rows.redactContainsSpec.post enc Tryz.prog Tryz.f6 false true false false W args v W' := by
  have hW' := hW
  obtain ⟨p, q, hA, hV, rfl, hfz, hnd⟩ := hW
  rw [Tryz.params6] at hA hval
  obtain ⟨v0, vs0, d0, ds0, p0, q0, hargs, rfl, rfl, ⟨n0, h0⟩, r0⟩ := trodAll_cons hA
  obtain ⟨v1, vs1, d1, ds1, p1, q1, rfl, rfl, rfl, ⟨n1, h1⟩, r1⟩ := trodAll_cons r0
  obtain ⟨rfl, rfl, rfl⟩ := trodAll_nil r1
  obtain rfl : args = #[v0, v1] := by cases args; simp_all
  obtain ⟨rfl, rfl⟩ := trodVars_none hV
  rw [List.append_nil] at hk
  have hb : Rows.uptoBulkAll [d0, d1] ≤ 1048576 := of_decide_eq_true hk
  simp only [Rows.uptoBulkAll] at hb
  obtain ⟨d, a1, a2, a3⟩ := (rDocumentN n0).arg Tryz.underlying38 (hval 0 38 v0 rfl rfl) h0 (by unfold BB; dsimp only; omega)
  obtain ⟨s, rfl, rfl, rfl, ws⟩ := Go.ChangeMaps.open_string Tryz.underlying9 (hval 1 9 v1 rfl rfl) ⟨n1, h1⟩
  have hss : s.size ≤ 1048576 := by
    have e : s.data.toList.length = s.size := by rw [Array.length_toList]; rfl
    simp only [Rows.uptoBulk] at hb
    omega
  have hBB : BB ≤ 1048576 := by unfold BB; exact Nat.le_refl _
  have hl := a2.flow.sized (fun _ h => h) hBB
  have g := Sh.g6 g11 d s hss hBB a2 a3 ⟨hl.1, hl.2, a2.settings.vars⟩
  have hc := (g EI (fun _ i => i) (fun _ => none) 0).2 (cx0 W) [v0, .string s] ⟨Tryz.sIdx.s1_3 W hsh, fun h => h⟩ (rel0 W) (fun _ _ => rfl) ⟨a1, by show V _ _ _; rw [V], trivial⟩
  refine Calls.mono hc ?_
  rintro e W' ⟨u, v', h', n', c', rfl, ⟨rfl, _⟩, rfl, hV, _, _, hA⟩
  have hE := hA.ext
  have hu : u = .bool true := by rw [V] at hV; exact hV
  subst hu
  refine ⟨_, rfl, post_still (x := .lit (.bool true)) hW' rfl (by rw [Tryz.params6]; exact of_decide_eq_true (by kernel_rfl)) hE.os hE.out (fun b hb => ext_block hE hb) rfl (fun _ _ _ => trodAll_cons_mk (shut_bool Tryz.underlying4 _) trodAll_mk0) (ok_one (by kernel_rfl) rfl (okWide_bool_mk Tryz.underlying4 _))⟩
def zi : Value := .int .i64 0
def zl : Value := .slice none 0 0
def witD : Value := .agg #[zl, zl, zi, zi, zl, zl, zl, zl, zl, zl, zl]
def wit : Array Value := #[witD, .string .empty]
def li {H : Type} : DataW H := .lit (.int .i64 0)
def litV : DataW Unit → Value
  | .lit (.int k n) => .int k n
  | _ => .bool false
def aggV : DataW Unit → Array Value
  | .agg l => (l.map litV).toArray
  | _ => #[]
noncomputable def laidWorld (os : Os) : World :=
  let w0 := World.holding Tryz.prog os ⟨#[], #[], []⟩
  let put (h : Array Obj) (g : Nat) (cs : Array Value) : Array Obj := h.modify g fun
    | .cells _ t frozen => .cells cs t frozen
    | o => o
  { w0 with heap := put (put (put w0.heap 1 (aggV Rows.laid_internal_strconv_uint64pow10)) 2 (aggV Rows.laid_math_bits_deBruijn32tab)) 3 (aggV Rows.laid_math_bits_deBruijn64tab) }
theorem laid_met (os : Os) : laidMet Tryz.prog Rows.redactContainsUptoRow.laid ((laidWorld os).forCall (fun _ _ => 0) ⟨#[], wit, []⟩).memory :=
  (LaidIn.of_run (l := [("math/bits.deBruijn32tab", Rows.laid_math_bits_deBruijn32tab), ("math/bits.deBruijn64tab", Rows.laid_math_bits_deBruijn64tab), ("internal/strconv.uint64pow10", Rows.laid_internal_strconv_uint64pow10)]) [1, 2, 3] 8 (by kernel_rfl) (by kernel_rfl) (by kernel_rfl) (by kernel_rfl)).met
theorem witness_row (os : Os) {H : Type} (enc : TypeId × Value → H) :
    (Rows.OpenSpec.upto Rows.redactContainsSpec).preRow enc Tryz.prog Tryz.f6 Rows.redactContainsUptoRow.domain false Rows.redactContainsUptoRow.laid ((laidWorld os).forCall (fun _ _ => 0) ⟨#[], wit, []⟩).memory wit := by
  have hw : (DataW.whole enc Tryz.prog ((laidWorld os).forCall (fun _ _ => 0) ⟨#[], wit, []⟩).memory Tryz.f6.params.toList (Rows.OpenSpec.upto Rows.redactContainsSpec).vars false wit.toList 12).map (fun x => (x.1, x.2.1)) =
      some ([.agg [.nil, .agg [.nil, .agg [li, li, .nil, .nil]], .nil, .agg [.nil, .nil, .nil, .nil]], .lit (.string [])], []) := by kernel_rfl
  obtain ⟨⟨x1, x2, x3⟩, hx, hx1⟩ := Option.map_eq_some_iff.1 hw
  simp only [Prod.mk.injEq] at hx1
  obtain ⟨rfl, rfl⟩ := hx1
  exact OpenSpec.preRow_of_cond 12 hx (by kernel_rfl) (fun k hk => by cases hk; kernel_rfl) (by kernel_rfl) (laid_met os)
set_option maxRecDepth 100000 in
theorem lifted (os : Os) (started : os.Started) (H : Type) (enc : TypeId × Value → H) (F : Stop.Interp) :
    ReturnsInHanded {} Tryz.checked os 6 .any ((Rows.OpenSpec.upto Rows.redactContainsSpec).preRow enc Tryz.prog Tryz.f6 Rows.redactContainsUptoRow.domain false Rows.redactContainsUptoRow.laid) (((Rows.OpenSpec.upto Rows.redactContainsSpec).at F).post enc Tryz.prog Tryz.f6 false true false false) := by
  refine returnsInHanded_of_row (C := Tryz.checked) (s := Rows.OpenSpec.upto Rows.redactContainsSpec) own started (by kernel_rfl) Tryz.func6
    (witness_row_atRef (enc := enc) (C := Tryz.checked) false (laidWorld os) wit rfl (by kernel_rfl) (by kernel_rfl) (by kernel_rfl) (witness_row os enc)) ?_
  intro W base args ds gs before hval hW _ hk _ _ hsh _
  exact contract H enc W base args ds gs before hval hW (hk _ rfl) hsh
theorem named : Tryz.checked.prog.funcNamed Rows.redactContainsUptoRow.func = some 6 := by kernel_rfl
theorem inst : Tryz.f6.isInstance Tryz.checked.prog Rows.redactContainsUptoRow.origin Rows.redactContainsUptoRow.targs := of_decide_eq_true (by kernel_rfl)
theorem wrap : Tryz.f6.isWrapper Tryz.checked.prog Rows.redactContainsUptoRow.wrapper Rows.redactContainsUptoRow.mainSum := by unfold Func.isWrapper; first | (rw [if_pos (by decide +kernel)]; kernel_rfl) | (rw [if_neg (by decide +kernel)]; exact ⟨rfl, rfl⟩)
theorem holds : Rows.RedactContainsUptoSaid :=
  OpenClaim.holds_of_cond 6 Tryz.f6 rfl rfl rfl rfl rfl rfl rfl ⟨rfl, rfl, rfl, rfl, rfl⟩ rfl rfl rfl rfl rfl named Tryz.func6 facts inst wrap
    (fun os started H enc _ F => by rw [OpenClaim.pre_eq_preRow]; exact lifted os started H enc F)
theorem looks : false = Tryz.prog.looks [] := by kernel_rfl
theorem proved : Rows.RedactContainsUptoCardSaid :=
  Claim7.holds_tied_plain_at .later [] [.data, .data, .data] true (true, "ef56d7b56468dc3211ac09fe492ba78587841a53dc1d8aea719d901f9a3fe7d6") false
    holds (fun _ h => by cases h) (by kernel_rfl) (fun _ h => by cases h) redactContainsUpto_row_tie rfl ⟨rfl, rfl⟩ (by kernel_rfl) rfl
    (fun f fn hf hfn => by
      obtain rfl : f = 6 := Option.some.inj (named.symm.trans hf) |>.symm
      obtain rfl : fn = Tryz.f6 := (Option.some.inj (Tryz.func6.symm.trans hfn)).symm
      exact ⟨looks, fun j t ht => by
        rw [Tryz.params6] at ht
        have h3 : t = 38 ∨ t = 9 := by
          rcases j with _ | _ | j
          · exact .inl (by simpa using ht.symm)
          · exact .inr (by simpa using ht.symm)
          · simp at ht
        rcases h3 with rfl | rfl
        · exact (show Tryz.prog.wantsStandIn 38 = false by kernel_rfl)
        · exact (show Tryz.prog.wantsStandIn 9 = false by kernel_rfl)⟩)
    (by kernel_rfl)
#print axioms proved
end Go.Proofs.YthinbkgpjmjfeaaGreatDoor.redactContains
