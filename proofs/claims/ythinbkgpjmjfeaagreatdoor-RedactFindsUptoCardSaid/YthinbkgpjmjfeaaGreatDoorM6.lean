/- A part of the proof (part 6 of 11). -/
import Derived.Test.YthinbkgpjmjfeaaGreatDoorM5
namespace Go.Proofs.YthinbkgpjmjfeaaGreatDoor.Sh
section
variable {P : Program} {E : Env} {evs : Operand → SV} {o : Oper} {h : Hp} {n : Nat} {K : SV → Hp → Nat → Prop}
theorem filter_erase {α : Type} (f : α → Nat) : ∀ (L : List α), (L.map f).Nodup → ∀ (i : Nat) (hi : i < L.length), L.filter (fun x => f x != f L[i]) = L.eraseIdx i
  | a :: L, hn, 0, hi => by
    rw [List.map_cons, List.nodup_cons] at hn
    rw [List.filter_cons]
    simp only [List.getElem_cons_zero, bne_self_eq_false, Bool.false_eq_true, if_false, List.eraseIdx_cons_zero]
    exact List.filter_eq_self.2 fun x hx => by
      simp only [bne_iff_ne, ne_eq]
      intro e
      exact hn.1 (e ▸ List.mem_map.2 ⟨x, hx, rfl⟩)
  | a :: L, hn, i + 1, hi => by
    rw [List.map_cons, List.nodup_cons] at hn
    rw [List.filter_cons]
    simp only [List.getElem_cons_succ, List.eraseIdx_cons_succ]
    have ha : (f a != f (L[i]'(by simpa using hi))) = true := by
      simp only [bne_iff_ne, ne_eq]
      intro e
      exact hn.1 (e ▸ List.mem_map.2 ⟨_, List.getElem_mem _, rfl⟩)
    rw [if_pos ha, filter_erase f L hn.2 i (by simpa using hi)]
theorem sem_range {t : TypeId} {x : Operand} {m : Nat} {es : List (SV × SV)} (ho : o.op = .range t x) (ht : (tmap P t).isSome = true) (hx : evs x = .map m) (hm : h m = some (.map es))
    (hk : K (.ptr n 0) (hset (hset h m none) n (some (.iter es none))) (n + 1)) : SemOp E P evs o h n K := by
  refine ⟨by rw [ho]; simp, fun c ev _ _ R F hv => ?_⟩
  have hvx := hv x
  rw [hx, V] at hvx
  obtain ⟨bm, hρ, hev⟩ := hvx
  obtain ⟨b', ents, clock, g1, g2, g3, g4⟩ := R.obj _ _ hm
  rw [hρ] at g1; cases g1
  obtain ⟨⟨kt, e⟩, ht⟩ := Option.isSome_iff_exists.1 ht
  have hu := tmap_some ht
  have hgo : (getObj bm).run P c.w = .ok (.map ents clock) c.w := by simp [getObj, Sem.run, g2]
  have hrun : (execOp ev o).run P c.w = .ok (.value (.pointer (some ⟨c.w.heap.size, 0, none⟩))) (c.w.alloc (.mapIter (some bm) clock #[] clock)) := by
    simp [execOp, ho, Instr.range, run_underlying' hu, hev, hgo]
  have R1 := R.kill m hm
  have hn1 : (c.kill m).ρ n = none := F n (Nat.le_refl _)
  have X1 := c.kill_ext m
  have hlt : bm < c.w.heap.size := (Array.getElem?_eq_some_iff.1 g2).1
  have X2 := (c.kill m).alloc_ext n (.mapIter (some bm) clock #[] clock) hn1
  have R2 := R1.alloc hn1 (x := .iter es none) (b := .mapIter (some bm) clock #[] clock) ⟨c.w.heap.size, bm, ents, clock, #[], by simp [Cx.alloc, Cx.kill], by simp [Cx.alloc, Cx.kill, heap_alloc],
    by simp [Cx.alloc, Cx.kill, heap_alloc, Array.getElem?_push, Nat.ne_of_lt hlt, g2], by
      simp only [Cx.alloc, Cx.kill]
      rintro (h1 | h1)
      · exact h1.2 0 hρ
      · omega, g4, by
      have : (ents.toList.filter fun e => !(#[] : Array Nat).contains e.born) = ents.toList := List.filter_eq_self.2 fun _ _ => by simp
      rw [this]
      exact All2.mono (fun _ _ g => ⟨V.mono (X1.trans X2) g.1, V.mono (X1.trans X2) g.2⟩) g3, by simp⟩
  refine ⟨_, .ptr n 0, _, n + 1, (c.kill m).alloc n (.mapIter (some bm) clock #[] clock), by rw [hrun]; rfl, ?_, R2, fun j hj => ?_, ⟨X1.trans X2, Nat.le_succ n, fun j hj => ?_⟩, hk⟩
  · rw [V]; exact ⟨c.w.heap.size, 0, by simp [Cx.alloc, Cx.kill], rfl⟩
  · simp only [Cx.alloc, Cx.kill]
    rw [if_neg (by omega)]; exact F j (by omega)
  · simp only [Cx.alloc, Cx.kill]
    rw [if_neg (by omega)]
theorem sem_entry {x : Operand} {q : Nat} {left : List (SV × SV)} {p : SV × SV} (ho : o.op = .entry x) (hx : evs x = .ptr q 0) (hq : h q = some (.iter left (some p)))
    (hk : K (.tup [p.1, p.2]) h n) : SemOp E P evs o h n K := by
  refine ⟨by rw [ho]; simp, fun c ev _ _ R F hv => ?_⟩
  have hvx := hv x
  rw [hx, V] at hvx
  obtain ⟨b, st, hρ, hev⟩ := hvx
  obtain ⟨b', bm, ents, clock, seen, g1, g2, g3, g4, g5, g6, g7⟩ := R.obj _ _ hq
  rw [hρ] at g1; cases g1
  obtain ⟨e, k1, k2, k3, k4⟩ := g7 p rfl
  have hgo : (getObj b).run P c.w = .ok (.mapIter (some bm) clock seen clock) c.w := by simp [getObj, Sem.run, g2]
  have hgm : (getObj bm).run P c.w = .ok (.map ents clock) c.w := by simp [getObj, Sem.run, g3]
  have hfind : ents.find? (fun y => y.born == e.born) = some e := by
    rw [← Array.find?_toList]
    have : ∀ l : List MapEntry, (l.map (·.born)).Nodup → e ∈ l → l.find? (fun y => y.born == e.born) = some e := by
      intro l
      induction l with
      | nil => intro _ h; cases h
      | cons a l ih =>
        intro hn he
        rw [List.map_cons, List.nodup_cons] at hn
        rw [List.find?_cons]
        rcases List.mem_cons.1 he with rfl | he
        · simp
        · have : (a.born == e.born) = false := by
            simp only [beq_eq_false_iff_ne, ne_eq]
            intro h2
            exact hn.1 (h2 ▸ List.mem_map.2 ⟨e, he, rfl⟩)
          rw [this]; exact ih hn.2 he
    exact this _ g5.2 k1
  refine ⟨.tuple #[e.key, e.val], .tup [p.1, p.2], h, n, c, ?_, by simp only [V, VL]; exact ⟨_, rfl, _, _, rfl, k3, _, _, rfl, k4, rfl⟩, R, F, Adv.refl n c, hk⟩
  simp [execOp, ho, Instr.entry, hev, hgo, k2, hgm, hfind]
theorem sem_next {x : Operand} {q : Nat} {left : List (SV × SV)} {last : Option (SV × SV)} (ho : o.op = .next x false) (hx : evs x = .ptr q 0) (hq : h q = some (.iter left last))
    (hk : ∀ (i : Nat) (hi : i < left.length), K (.tup [.bool true, left[i].1, left[i].2]) (hset h q (some (.iter (left.eraseIdx i) (some left[i])))) n) (h0 : left = [] → K (.tup [.bool false]) h n) : SemOp E P evs o h n K := by
  refine ⟨by rw [ho]; simp, fun c ev _ _ R F hv => ?_⟩
  have hvx := hv x
  rw [hx, V] at hvx
  obtain ⟨b, st, hρ, hev⟩ := hvx
  obtain ⟨b', bm, ents, clock, seen, g1, g2, g3, g4, g5, g6, g7⟩ := R.obj _ _ hq
  rw [hρ] at g1; cases g1
  have hgo : (getObj b).run P c.w = .ok (.mapIter (some bm) clock seen clock) c.w := by simp [getObj, Sem.run, g2]
  have hgm : (getObj bm).run P c.w = .ok (.map ents clock) c.w := by simp [getObj, Sem.run, g3]
  have hgone : (!seen.isEmpty && !ents.isEmpty && ents.all fun y => decide (y.born ≥ clock)) = false := by
    cases he : ents.isEmpty with
    | true => simp
    | false =>
      have hne : 0 < ents.size := by rcases Nat.eq_zero_or_pos ents.size with h | h; simp [Array.isEmpty, h] at he; exact h
      have : (ents.all fun y => decide (y.born ≥ clock)) = false := by
        rw [Array.all_eq_false]
        refine ⟨0, hne, ?_⟩
        have := g5.1 ents[0] (by simp)
        simp; exact this
      simp [this]
  generalize hL : ents.filter (fun y => !seen.contains y.born) = L
  have hLl : L.toList = ents.toList.filter fun e => !seen.contains e.born := by rw [← hL]; simp
  have hold : L.filter (fun y => decide (y.born < clock)) = L := by
    apply Array.ext'
    rw [Array.toList_filter]
    exact List.filter_eq_self.2 fun y hy => by
      rw [hLl] at hy
      simpa using g5.1 y (List.mem_filter.1 hy).1
  have hnew : L.filter (fun y => decide (y.born ≥ clock)) = #[] := by
    apply Array.ext'
    rw [Array.toList_filter]
    exact List.filter_eq_nil_iff.2 fun y hy => by
      rw [hLl] at hy
      simpa using g5.1 y (List.mem_filter.1 hy).1
  rw [← hLl] at g6
  have hlen : left.length = L.size := by have := g6.length; simpa using this
  by_cases hz : L.size = 0
  · have hl0 : left = [] := List.eq_nil_of_length_eq_zero (by omega)
    have hL0 : L = #[] := Array.eq_empty_of_size_eq_zero hz
    refine ⟨.tuple #[.bool false], .tup [.bool false], h, n, c, ?_, by simp [V, VL], R, F, Adv.refl n c, h0 hl0⟩
    subst hL0
    simp only [execOp, ho, Instr.next, hev, Nat.add_zero, Sem.run_bind, Sem.run_pure, hgo, Result.andThen_ok, hgm, hgone, Bool.false_eq_true, if_false, hL, hold, hnew]
    simp [Question.forced]
  · have hch : ∃ i w1, (choose (.mapNext L.size)).run P c.w = .ok i w1 ∧ i < L.size ∧ (w1 = c.w ∨ w1 = c.w.drew) := by
      rw [run_choose_drew]
      by_cases hf : (Question.mapNext L.size).forced = true
      · rw [if_pos hf]; exact ⟨0, _, rfl, by omega, .inl rfl⟩
      · rw [if_neg hf]; exact ⟨_, _, rfl, Nat.mod_lt _ (by omega), .inr rfl⟩
    obtain ⟨i, w1, hch, hi, hw1⟩ := hch
    obtain ⟨c1, hc1, X1, R1, F1, hρ1⟩ : ∃ c1 : Cx, c1.w = w1 ∧ Ext c c1 ∧ Rel h c1 ∧ Fr n c1 ∧ c1.ρ = c.ρ := by
      rcases hw1 with rfl | rfl
      · exact ⟨c, rfl, Ext.refl c, R, F, rfl⟩
      · exact ⟨c.drew, rfl, c.drew_ext, R.drew, fun j hj => F j hj, rfl⟩
    subst hc1
    have hh1 : c1.w.heap = c.w.heap := by rcases hw1 with e | e <;> rw [e] <;> rfl
    have hil : i < left.length := by omega
    obtain ⟨e, he, hr1, hr2⟩ := g6.get (i := i) (a := left[i]) (by simp [hil])
    have heL : L[i]? = some e := by simpa using he
    have hemem : e ∈ ents.toList := by
      have := List.mem_of_getElem? he
      rw [hLl] at this; exact (List.mem_filter.1 this).1
    have hisE : L.isEmpty = false := by cases hb : L.isEmpty with | false => rfl | true => (simp at hb; subst hb; simp at hz)
    have hblt : b < c.w.heap.size := (Array.getElem?_eq_some_iff.1 g2).1
    have hset' : ∀ ob : Obj, (setObj b ob).run P c1.w = .ok () { c1.w with heap := c1.w.heap.setIfInBounds b ob } := fun ob => by simp [setObj, Sem.run, hh1, g2]
    have hrun : (execOp ev o).run P c.w = .ok (.value (.tuple #[.bool true, e.key, e.val])) { c1.w with heap := c1.w.heap.setIfInBounds b (.mapIter (some bm) clock (seen.push e.born) clock) } := by
      have hcand : ((if L.isEmpty then #[none] else #[]) ++ (L ++ #[]).map some : Array (Option MapEntry)) = L.map some := by simp [hisE]
      simp only [execOp, ho, Instr.next, hev, Nat.add_zero, Sem.run_bind, Sem.run_pure, hgo, Result.andThen_ok, hgm, hgone, Bool.false_eq_true, if_false, hL, hold, hnew, hcand, Array.size_map, hch]
      simp [heL, hset']
    have hbm : bm ≠ b := by rintro rfl; rw [g2] at g3; cases g3
    obtain ⟨R2, X2⟩ := R1.write (w' := { c1.w with heap := c1.w.heap.setIfInBounds b (.mapIter (some bm) clock (seen.push e.born) clock) }) (y := .iter (left.eraseIdx i) (some left[i])) hq (by rw [hρ1]; exact hρ) (by simp)
      (fun b' hb' => by simp [Array.getElem?_setIfInBounds_ne (Ne.symm hb')]) (by simp [rm, hh1, g2]) rfl rfl (fun X => by
        have XX := X1.trans X
        refine ⟨b, bm, ents, clock, seen.push e.born, by show c1.ρ q = _; rw [hρ1]; exact hρ, by simp [hh1, hblt], ?_, ?_, g5, ?_, ?_⟩
        · show (c1.w.heap.setIfInBounds b _)[bm]? = _
          rw [Array.getElem?_setIfInBounds_ne hbm.symm, hh1]; exact g3
        · exact fun hb => (XX.keep bm (Array.getElem?_eq_some_iff.1 g3).1 g4).1 hb
        · have hnd : (L.toList.map (·.born)).Nodup := by rw [hLl]; exact g5.2.sublist (List.filter_sublist.map _)
          have hee : L.toList[i]'(by simpa using hi) = e := by
            have := (List.getElem?_eq_some_iff.1 he).2; exact this
          have h1 := filter_erase (fun x : MapEntry => x.born) L.toList hnd i (by simpa using hi)
          rw [hee] at h1
          have h2 : (ents.toList.filter fun x => !(seen.push e.born).contains x.born) = L.toList.filter fun x => x.born != e.born := by
            rw [hLl, List.filter_filter]
            congr 1; funext x
            by_cases hx : x.born = e.born <;> simp [hx]
          rw [h2, h1]
          exact All2.mono (fun _ _ g => ⟨V.mono XX g.1, V.mono XX g.2⟩) (All2.eraseIdx i g6)
        · intro p hp
          cases hp
          exact ⟨e, hemem, by simp, V.mono XX hr1, V.mono XX hr2⟩)
    exact ⟨_, .tup [.bool true, left[i].1, left[i].2], _, n, _, hrun, by
      have XX := X1.trans X2
      simp only [V, VL]
      exact ⟨_, rfl, _, _, rfl, rfl, _, _, rfl, V.mono XX hr1, _, _, rfl, V.mono XX hr2, rfl⟩, R2, fun j hj => F1 j hj, ⟨X1.trans X2, Nat.le_refl _, fun j _ => by show c1.ρ j = _; rw [hρ1]⟩, hk i hil⟩
end
open Proofs
set_option maxRecDepth 10000
section
variable {E : Env} {yl : Nat} {J : List Int → (Nat → Prop) → Hp → Nat → Prop}
end
def usedL (d : Document) : List Int := sortI ((addU [] (Item.usL d.flow ++ d.«end».all)).filter fun x => decide (x ≠ 0))
def OwnV (z : Nat) (es : List SV) (v : SV) (o : Option Nat) (n m : Nat) : Prop :=
  (o = none ∧ es = [] ∧ ∃ z' f, v = .imm z' [] f) ∨ ∃ j f, o = some j ∧ n ≤ j ∧ j < m ∧ v = .sl j 0 z es.length f
def OwnH (es : List SV) (o : Option Nat) (h : Hp) : Hp := match o with | none => h | some j => hset h j (some (.cells (es.flatMap SV.cells)))
theorem OwnV.st {z : Nat} {es : List SV} {v : SV} {o : Option Nat} {n m : Nat} (H : OwnV z es v o n m) : v.storable = true ∧ v.cells = [v] := by
  rcases H with ⟨_, _, z', f, rfl⟩ | ⟨j, f, _, _, _, rfl⟩ <;> exact ⟨rfl, rfl⟩
theorem NewL.own {z : Nat} {es : List SV} {h h' : Hp} {n n' : Nat} {v : SV} (H : NewL z es h n v h' n') : ∃ o, OwnV z es v o n n' ∧ (∀ j y, h j = some y → h' j = some y) ∧ ∀ j, o = some j → h' j = some (.cells (es.flatMap SV.cells)) := by
  obtain ⟨h1, h2, ⟨rfl, z', f, rfl⟩ | ⟨o, f, h3, h4, rfl, h5⟩⟩ := H
  · exact ⟨none, .inl ⟨rfl, rfl, z', f, rfl⟩, h2, by simp⟩
  · exact ⟨some o, .inr ⟨o, f, rfl, h3, h4, rfl⟩, h2, by rintro j e; cases e; exact h5⟩
theorem OwnV.mono {z : Nat} {es : List SV} {v : SV} {o : Option Nat} {n n' m m' : Nat} (H : OwnV z es v o n m) (hn : n' ≤ n) (hm : m ≤ m') : OwnV z es v o n' m' := by
  rcases H with ⟨h1, h2, z', f, h3⟩ | ⟨j, f, h1, h2, h3, h4⟩
  · exact .inl ⟨h1, h2, z', f, h3⟩
  · exact .inr ⟨j, f, h1, by omega, by omega, h4⟩
theorem OwnV.lt {z : Nat} {es : List SV} {v : SV} {o : Option Nat} {n m : Nat} (H : OwnV z es v o n m) : ∀ j, o = some j → n ≤ j ∧ j < m := by
  rcases H with ⟨rfl, _⟩ | ⟨j, f, rfl, h2, h3, _⟩
  · simp
  · rintro i e; cases e; exact ⟨h2, h3⟩
theorem cell_at {z k i : Nat} {es : List SV} {e c : SV} (hs : ∀ e ∈ es, e.storable = true ∧ e.cells.length = z) (h : es[i]? = some e) (hk : e.cells[k]? = some c) :
    i * z + k + 1 ≤ (es.flatMap SV.cells).length ∧ ((es.flatMap SV.cells).drop (i * z + k)).take 1 = [c] := by
  obtain ⟨g1, g2⟩ := flat_get hs h
  have he := (hs e (List.mem_of_getElem? h)).2
  have hlt := (List.getElem?_eq_some_iff.1 hk).1
  refine ⟨by omega, ?_⟩
  have h1 : (((es.flatMap SV.cells).drop (i * z)).take z).drop k = e.cells.drop k := by rw [g2]
  rw [List.drop_take, List.drop_drop] at h1
  have h2 : (((es.flatMap SV.cells).drop (i * z + k)).take (z - k)).take 1 = (e.cells.drop k).take 1 := by rw [h1]
  rw [List.take_take, Nat.min_eq_left (by omega)] at h2
  rw [h2, List.drop_eq_getElem_cons hlt]
  simp only [List.take_succ_cons, List.take_zero]
  rw [(List.getElem?_eq_some_iff.1 hk).2]
theorem splice_same {cs : List SV} {off : Nat} {c : SV} (h1 : off + 1 ≤ cs.length) (h2 : (cs.drop off).take 1 = [c]) : cs.take off ++ c :: cs.drop (off + 1) = cs := by
  have : cs.drop off = c :: cs.drop (off + 1) := by
    rw [List.drop_eq_getElem_cons (by omega)] at h2 ⊢
    simp only [List.take_succ_cons, List.take_zero, List.cons.injEq, and_true] at h2; rw [h2]
  rw [← this, List.take_append_drop]
def trC : Tr := .pure 0 <| .pure 1 <| .pure 3 <| .pure 4 <| .pure 6 <| .pure 7 <| .pure 9 <| .pure 10 <|
  .two 2 13
    (.two 5 13 (.two 8 13 (.two 11 13 (.two 12 13 (.one 13 (.one 14 .nil)) (.one 12 (.one 14 .nil))) (.one 11 (.one 12 (.one 14 .nil)))) (.one 8 (.one 11 (.one 12 (.one 14 .nil))))) (.one 5 (.one 8 (.one 11 (.one 12 (.one 14 .nil))))))
    (.one 2 (.one 5 (.one 8 (.one 11 (.one 12 (.one 14 .nil))))))
set_option maxHeartbeats 2000000 in
theorem c144 (s : Settings) (h1 : s.styles.length ≤ 1048576) (h2 : s.lists.length ≤ 1048576) (h3 : s.comments.length ≤ 1048576) (h4 : s.vars.length ≤ 1048576) (h5 : ∀ x ∈ s.styles, x.props.length ≤ 1048576) (h6 : ∀ x ∈ s.lists, x.levels.length ≤ 1048576) :
    PC 172 [s.enc] s.enc := by
  intro h n
  refine goS Tryz.func172 rfl (by kernel_rfl) (by kernel_rfl) (by simp [go_sem]) fun ho => ?_
  refine SP_mid 2 (α := Unit) (fun _ => [(1, .iptr s.flat), (2, .ptr (n + 1) 0)]) (fun _ => hset h (n + 1) (some (.cells [.imm 0 [] true, .imm 0 [] true, .imm 0 [] true, .imm 0 [] true]))) (fun _ m => m = n + 2) ?_ (fun _ m hm => ?_)
  · simp [go_sem, Settings.enc, Nat.add_assoc, Fz.same]
    refine ⟨ptr_fz (by rw [hset_ne _ _ (by omega)]; exact ho.none (Nat.le_refl n)) (by simp [hset]), fun j y => ?_⟩
    have := ho j y; simp only [hset]; grind
  subst hm
  refine SP_midS 1 (α := SV × Option Nat × SV × Option Nat × Nat) (fun a => [(2, .ptr (n + 1) 0), (3, .ptr a.2.2.2.2 0)])
    (fun a => hset (OwnH (s.styles.map Style.enc) a.2.1 (OwnH (s.lists.map Lst.enc) a.2.2.2.1 (hset h (n + 1) (some (.cells [.imm 0 [] true, .imm 0 [] true, .imm 0 [] true, .imm 0 [] true]))))) a.2.2.2.2 (some (.cells [a.1, a.2.2.1, commentsE s.comments, varsE s.vars])))
    (fun a m => OwnV 6 (s.styles.map Style.enc) a.1 a.2.1 (n + 2) m ∧ OwnV 2 (s.lists.map Lst.enc) a.2.2.1 a.2.2.2.1 (n + 2) m ∧ n + 2 ≤ a.2.2.2.2 ∧ a.2.2.2.2 < m ∧ a.2.1 ≠ some a.2.2.2.2 ∧ a.2.2.2.1 ≠ some a.2.2.2.2 ∧ (∀ j, a.2.1 = some j → a.2.2.2.1 ≠ some j)) (SP_tr trC rfl (by kernel_rfl) (by kernel_rfl) ?_) ?_
  · simp [go_sem, trC, Settings.flat]
    iterate 14 (all_goals (try first
      | (refine LC.use (l199 _ h1) ?_; intro v1 H1 m1 W1; have lt1 := W1.1; obtain ⟨o1, a1, b1, c1⟩ := W1.own; obtain ⟨s1, t1⟩ := a1.st; simp only [SV.storable, SV.cells] at s1 t1; simp [go_sem])
      | (refine LC.use (l200 _ h2) ?_; intro v2 H2 m2 W2; have lt2 := W2.1; obtain ⟨o2, a2, b2, c2⟩ := W2.own; obtain ⟨s2, t2⟩ := a2.st; simp only [SV.storable, SV.cells] at s2 t2; simp [go_sem])
      | (refine (c201 _ h3).use ?_; simp [go_sem])
      | (refine (c202 _ h4).use ?_; simp [go_sem, s1, t1, s2, t2])
      | refine ⟨?_, ?_⟩))
    all_goals
      have L1 := a1.lt
      have L2 := a2.lt
      have ZZ : SObj := .cells [.imm 0 [] true, .imm 0 [] true, .imm 0 [] true, .imm 0 [] true]
      first
        | (have hq := b2 (n + 2) _ (b1 (n + 2) _ (hset_at _ _ _)); simp [go_sem, hq])
        | (have hq := b2 m1 _ (hset_at _ _ _); simp [go_sem, hq])
        | simp [go_sem, hset_at]
      refine ⟨v1, o1, v2, o2, _, ⟨a1.mono (by omega) (by omega), a2.mono (by omega) (by omega), ?_, ?_, fun e => ?_, fun e => ?_, fun j e e' => ?_⟩, Fz.same, fun j y => ?_⟩
      · omega
      · omega
      · have := L1 _ e; omega
      · have := L2 _ e; omega
      · have := L1 _ e; have := L2 _ e'; omega
      · intro hy
        have q1 := b1 j y
        have q2 := b2 j y
        have q3 := c1 j
        have q4 := c2 j
        have r1 := L1 j
        have r2 := L2 j
        have q5 := b2 j (.cells ((s.styles.map Style.enc).flatMap SV.cells))
        have q6 := ho j y
        clear b1 b2 c1 c2 L1 L2 W1 W2 a1 a2
        simp only [hset] at *
        cases o1 <;> cases o2 <;> simp only [OwnH, hset] at hy <;> grind
  rintro ⟨v1, o1, v2, o2, q⟩ m ⟨a1, a2, hq1, hq2, hn1, hn2, hn12⟩
  dsimp only at a1 a2 hq1 hq2 hn1 hn2 hn12 ⊢
  have L1 := a1.lt
  have L2 := a2.lt
  obtain ⟨s1, t1⟩ := a1.st
  obtain ⟨s2, t2⟩ := a2.st
  simp only [SV.storable, SV.cells] at s1 t1 s2 t2
  generalize hB : OwnH (s.styles.map Style.enc) o1 (OwnH (s.lists.map Lst.enc) o2 (hset h (n + 1) (some (.cells [.imm 0 [] true, .imm 0 [] true, .imm 0 [] true, .imm 0 [] true])))) = B
  have B1 : ∀ j, o1 = some j → B j = some (.cells ((s.styles.map Style.enc).flatMap SV.cells)) := fun j e => by subst e; rw [← hB]; simp [OwnH, hset]
  have B2 : ∀ j, o2 = some j → B j = some (.cells ((s.lists.map Lst.enc).flatMap SV.cells)) := fun j e => by
    subst e; rw [← hB]
    cases o1 with
    | none => simp [OwnH, hset]
    | some i => have := hn12 i rfl; simp only [OwnH, hset]; grind
  have B3 : B (n + 1) = some (.cells [.imm 0 [] true, .imm 0 [] true, .imm 0 [] true, .imm 0 [] true]) := by
    rw [← hB]
    cases o1 <;> cases o2 <;> simp only [OwnH, hset] <;> grind
  have B4 : ∀ j y, h j = some y → B j = some y := fun j y e => by
    have := ho j y e
    rw [← hB]
    cases o1 <;> cases o2 <;> simp only [OwnH, hset] <;> grind
  have hqn : ∀ j, o1 = some j → j ≠ q := fun j e e' => hn1 (by rw [e, e'])
  have hqn2 : ∀ j, o2 = some j → j ≠ q := fun j e e' => hn2 (by rw [e, e'])
  clear hB
  refine SP_midS 1 (α := Unit) (fun _ => [(2, .ptr (n + 1) 0), (3, .ptr q 0)]) (fun _ => hset B q (some (.cells [v1, v2, commentsE s.comments, varsE s.vars]))) (fun _ m' => m ≤ m') (SP_of ?_) (fun _ m' hm' => ?_)
  · rcases a1 with ⟨_, he, z', f, rfl⟩ | ⟨j, f, rfl, hj1, hj2, rfl⟩
    · simp [go_sem, hset_at]
      refine goloop 1 (α := Unit) (fun _ => [(2, .ptr (n + 1) 0), (3, .ptr q 0), (21, intE 0), (22, intE 0)]) (fun _ => hset B q (some (.cells [.imm z' [] f, v2, commentsE s.comments, varsE s.vars]))) (fun _ m' => m ≤ m') (fun _ => 0) () (Nat.le_refl _) (by simp [look]) look_same ?_
      intro _ m' hm'
      simp [go_sem]
      exact hm'
    · have hjq := hqn j rfl
      have hBj := B1 j rfl
      simp [go_sem, hset_at]
      refine goloop 1 (α := Nat) (fun i => [(2, .ptr (n + 1) 0), (3, .ptr q 0), (21, intE s.styles.length), (22, intE i)]) (fun _ => hset B q (some (.cells [.sl j 0 6 s.styles.length f, v2, commentsE s.comments, varsE s.vars]))) (fun i m' => i ≤ s.styles.length ∧ m ≤ m') (fun i => s.styles.length - i) 0 ?_ ?_ ?_ ?_
      · exact ⟨Nat.zero_le _, Nat.le_refl _⟩
      · simp [look]
      · simp
      rintro i m' ⟨hi, hm'⟩
      by_cases hlt : i < s.styles.length
      · have w1 : IntKind.i64.wrap ((i : Int) + 1) = ((i + 1 : Nat) : Int) := by rw [wr64] <;> omega
        obtain ⟨x, hx⟩ : ∃ x, s.styles[i] = x := ⟨_, rfl⟩
        have hx' : (s.styles.map Style.enc)[i]? = some x.enc := by simp [hlt, hx]
        obtain ⟨g1, g2⟩ := cell_at (Style.E.size s.styles) hx' (k := 5) (c := propsE x.props) rfl
        have g3 := splice_same g1 g2
        have hxl := h5 x (by rw [← hx]; exact List.getElem_mem hlt)
        have hjm : j < m' := by omega
        have hqm : q < m' := by omega
        have hBj' := hBj
        generalize (s.styles.map Style.enc).flatMap SV.cells = F at hBj' g1 g2 g3
        simp [go_sem, hset_at, hset_ne, hjq, hBj', hlt, g1, g2, hjm, hqm]
        repeat first | refine nd (by simp [indepD, dirE, disjB, keysW, Region.binds] <;> omega) ?_ | refine sd (by kernel_rfl) ?_ | refine And.intro (by omega) ?_
        refine CallD.pure _ _ _ _ _ _ (c185 x.props hxl) ?_
        simp [go_sem, hset_ne, hjq, hBj', hlt, g1, g3, hjm, w1, -Int.natCast_add]
        repeat first | refine nd (by simp [indepD, dirE, disjB, keysW, Region.binds, hjq] <;> omega) ?_ | refine sd (by kernel_rfl) ?_ | refine And.intro (by omega) ?_
        refine ⟨i + 1, by omega, ⟨by omega, hm'⟩, Fz.same, fun o y => ?_⟩
        simp only [hset]; grind
      · have : i = s.styles.length := by omega
        subst this
        simp [go_sem]
        exact hm'
  refine SP_midS 1 (α := Unit) (fun _ => [(2, .ptr (n + 1) 0), (3, .ptr q 0)]) (fun _ => hset B q (some (.cells [v1, v2, commentsE s.comments, varsE s.vars]))) (fun _ m2 => m ≤ m2) (SP_of ?_) (fun _ m2 hm2 => ?_)
  · rcases a2 with ⟨_, he, z', f, rfl⟩ | ⟨j, f, rfl, hj1, hj2, rfl⟩
    · simp [go_sem, hset_at]
      refine goloop 1 (α := Unit) (fun _ => [(2, .ptr (n + 1) 0), (3, .ptr q 0), (40, intE 0), (41, intE 0)]) (fun _ => hset B q (some (.cells [v1, .imm z' [] f, commentsE s.comments, varsE s.vars]))) (fun _ m' => m ≤ m') (fun _ => 0) () hm' (by simp [look]) look_same ?_
      intro _ m' hm'
      simp [go_sem]
      exact hm'
    · have hjq := hqn2 j rfl
      have hBj := B2 j rfl
      simp [go_sem, hset_at]
      refine goloop 1 (α := Nat) (fun i => [(2, .ptr (n + 1) 0), (3, .ptr q 0), (40, intE s.lists.length), (41, intE i)]) (fun _ => hset B q (some (.cells [v1, .sl j 0 2 s.lists.length f, commentsE s.comments, varsE s.vars]))) (fun i m' => i ≤ s.lists.length ∧ m ≤ m') (fun i => s.lists.length - i) 0 ?_ ?_ ?_ ?_
      · exact ⟨Nat.zero_le _, hm'⟩
      · simp [look]
      · simp
      rintro i m' ⟨hi, hm'⟩
      by_cases hlt : i < s.lists.length
      · have w1 : IntKind.i64.wrap ((i : Int) + 1) = ((i + 1 : Nat) : Int) := by rw [wr64] <;> omega
        obtain ⟨x, hx⟩ : ∃ x, s.lists[i] = x := ⟨_, rfl⟩
        have hx' : (s.lists.map Lst.enc)[i]? = some x.enc := by simp [hlt, hx]
        obtain ⟨g1, g2⟩ := cell_at (Lst.E.size s.lists) hx' (k := 1) (c := levelsE x.levels) rfl
        have g3 := splice_same g1 g2
        have hxl := h6 x (by rw [← hx]; exact List.getElem_mem hlt)
        have hjm : j < m' := by omega
        have hqm : q < m' := by omega
        have hBj' := hBj
        generalize (s.lists.map Lst.enc).flatMap SV.cells = F at hBj' g1 g2 g3
        simp [go_sem, hset_at, hset_ne, hjq, hBj', hlt, g1, g2, hjm, hqm]
        repeat first | refine nd (by simp [indepD, dirE, disjB, keysW, Region.binds] <;> omega) ?_ | refine sd (by kernel_rfl) ?_ | refine And.intro (by omega) ?_
        refine CallD.pure _ _ _ _ _ _ (c203 x.levels hxl) ?_
        simp [go_sem, hset_ne, hjq, hBj', hlt, g1, g3, hjm, w1, -Int.natCast_add]
        repeat first | refine nd (by simp [indepD, dirE, disjB, keysW, Region.binds, hjq] <;> omega) ?_ | refine sd (by kernel_rfl) ?_ | refine And.intro (by omega) ?_
        refine ⟨i + 1, by omega, ⟨by omega, hm'⟩, Fz.same, fun o y => ?_⟩
        simp only [hset]; grind
      · have : i = s.lists.length := by omega
        subst this
        simp [go_sem]
        exact hm'
  have enq : n + 1 ≠ q := by omega
  have fz1 : ∀ (z : Nat) (es : List SV) (v : SV) (o : Option Nat) (H : Hp), (∀ e ∈ es, e.storable = true ∧ e.cells.length = z) → OwnV z es v o (n + 2) m → (∀ j, o = some j → H j = some (.cells (es.flatMap SV.cells))) → Fz H h 1 v (.imm z es false) := fun z es v o H hsz ha hH => by
    rcases ha with ⟨_, he, z', f, rfl⟩ | ⟨j, f, rfl, hj1, hj2, rfl⟩
    · rw [he]; exact imm_fz (by simp)
    · exact sl_fz (ho.none (by omega)) (by simp) (hH j rfl) hsz
  refine SP_of ?_
  simp [go_sem, hset_at, hset_ne, enq, B3]
  refine retFz (v := s.enc) 2 ho (fun j y e => ?_) (.inr ⟨fz1 _ _ _ _ _ (Style.E.size _) a1 fun j e => ?_, fz1 _ _ _ _ _ (Lst.E.size _) a2 fun j e => ?_, Fz.same, Fz.same, trivial⟩) ?_
  · have := ho j y e; have := B4 j y e; simp only [hset]; grind
  · have := L1 j e; have := B1 j e; have := hqn j e; simp only [hset]; grind
  · have := L2 j e; have := B2 j e; have := hqn2 j e; simp only [hset]; grind
  · simp [Settings.enc, Settings.flat, closed, closedL, Style.E.closedL, Lst.E.closedL, Comment.E.closedL, Var.E.closedL]
structure Settings.sized (s : Settings) : Prop where
  styles : s.styles.length ≤ 1048576
  lists : s.lists.length ≤ 1048576
  comments : s.comments.length ≤ 1048576
  vars : s.vars.length ≤ 1048576
  props : ∀ x ∈ s.styles, x.props.length ≤ 1048576
  levels : ∀ x ∈ s.lists, x.levels.length ≤ 1048576
structure Document.sized (d : Document) : Prop where
  len : d.flow.length ≤ 1048576
  flow : Item.sizedL d.flow
  «end» : d.«end».sized
  revs : d.revs.length ≤ 1048576
  set : d.settings.sized
def ltAt (l : List Int) (x : Int) (i : Nat) : Int := match l[i]? with | some a => if a < x then -1 else if a = x then 0 else 1 | none => 0
def Document.norm1 (d : Document) : Document := ⟨runNormal d.flow, d.«end», d.revs, d.settings⟩
def Document.normal (d : Document) : Document := ⟨runNormal d.flow, d.«end», d.revs.filter fun r => (bsearch (ltAt (usedL d.norm1) r.id) (usedL d.norm1).length).2, d.settings⟩
def textsL (l : List Item) : Nat := (l.map fun x => x.text.size).sum
def lim (hp : Head → Prop) (K : Nat) : Nat → List Item → Prop
  | 0, _ => False
  | N + 1, l => l.length ≤ K ∧ textsL l ≤ K ∧ ∀ x ∈ l, hp x.head ∧ lim hp K N x.flow ∧ x.rows.length ≤ K ∧ ∀ r ∈ x.rows, hp r.head ∧ r.cells.length ≤ K ∧ ∀ c ∈ r.cells, hp c.head ∧ lim hp K N c.flow
theorem lim.mono {hp hp' : Head → Prop} (hh : ∀ x, hp x → hp' x) {K K' : Nat} (h : K ≤ K') : ∀ {N : Nat} {l : List Item}, lim hp K N l → lim hp' K' N l
  | N + 1, l, H => ⟨by have := H.1; omega, by have := H.2.1; omega, fun x hx => by
    obtain ⟨a, b, c, d⟩ := H.2.2 x hx
    exact ⟨hh _ a, b.mono hh h, by omega, fun r hr => ⟨hh _ (d r hr).1, by have := (d r hr).2.1; omega, fun e he => ⟨hh _ ((d r hr).2.2 e he).1, ((d r hr).2.2 e he).2.mono hh h⟩⟩⟩⟩
theorem textsL_mem {l : List Item} {x : Item} (h : x ∈ l) : x.text.size ≤ textsL l := by
  induction l with
  | nil => cases h
  | cons a l ih =>
    have e : textsL (a :: l) = a.text.size + textsL l := by simp [textsL]
    rcases List.mem_cons.1 h with rfl | h
    · omega
    · have := ih h; omega
theorem lim.sized {hp : Head → Prop} (hh : ∀ x, hp x → x.sized) {K : Nat} (h : K ≤ 1048576) : ∀ {N : Nat} {l : List Item}, lim hp K N l → l.length ≤ 1048576 ∧ Item.sizedL l
  | N + 1, l, H => ⟨by have := H.1; omega, Item.sizedL_of fun x hx => by
    obtain ⟨a, b, c, d⟩ := H.2.2 x hx
    have ht := textsL_mem hx
    have ht2 := H.2.1
    have hf := lim.sized hh h b
    have hr : Row.sizedL x.rows := Row.sizedL_of fun r hr => by
      obtain ⟨e, f, g⟩ := d r hr
      have hc : Cell.sizedL r.cells := Cell.sizedL_of fun q hq => by
        obtain ⟨u, v⟩ := g q hq
        have hv := lim.sized hh h v
        cases q; rw [Cell.sized]; exact ⟨hh _ u, hv.1, hv.2⟩
      cases r; rw [Row.sized]; exact ⟨hh _ e, by simp only [Row.cells] at f; omega, hc⟩
    cases x; rw [Item.sized]; exact ⟨by simp only [Item.text] at ht; omega, hh _ a, hf.1, by simp only [Item.rows] at c; omega, hf.2, hr⟩⟩
def limI (hp : Head → Prop) (K N : Nat) (x : Item) : Prop := hp x.head ∧ lim hp K N x.flow ∧ x.rows.length ≤ K ∧ ∀ r ∈ x.rows, hp r.head ∧ r.cells.length ≤ K ∧ ∀ c ∈ r.cells, hp c.head ∧ lim hp K N c.flow
theorem lim_iff {hp : Head → Prop} {K N : Nat} {l : List Item} : lim hp K (N + 1) l ↔ l.length ≤ K ∧ textsL l ≤ K ∧ ∀ x ∈ l, limI hp K N x := Iff.rfl
structure SPart where
  head : Head
  mid : Bool
  units : Int
def SPart.enc (p : SPart) : SV := .agg (p.head.flat ++ [.bool p.mid, intE p.units])
structure Scope where
  id : Int
  a : Int
  b : Int
def Scope.enc (s : Scope) : SV := .agg [intE s.id, intE s.a, intE s.b]
def Item.put (x : Item) (h : Head) (f : List Item) (r : List Row) : Item := .mk x.kind x.code x.id x.text h f r
section
variable {σ : Type} (f : σ → SPart → Head × Bool × σ) (it : Int → List Item → Bool → σ → List Item × σ) (mid : Bool)
def cellStep (q : List Cell × σ) (c : Cell) : List Cell × σ :=
  if (f q.2 ⟨c.head, mid, 1⟩).2.1 then (q.1 ++ [.mk c.id (f q.2 ⟨c.head, mid, 1⟩).1 (it c.id c.flow mid (f q.2 ⟨c.head, mid, 1⟩).2.2).1], (it c.id c.flow mid (f q.2 ⟨c.head, mid, 1⟩).2.2).2)
  else (q.1, (f q.2 ⟨c.head, mid, 1⟩).2.2)
def cellsG (l : List Cell) (s : σ) : List Cell × σ := l.foldl (cellStep f it mid) ([], s)
def rowStep (q : List Row × σ) (r : Row) : List Row × σ :=
  if (f q.2 ⟨r.head, mid, 1⟩).2.1 then (q.1 ++ [.mk (f q.2 ⟨r.head, mid, 1⟩).1 (cellsG f it mid r.cells (f q.2 ⟨r.head, mid, 1⟩).2.2).1], (cellsG f it mid r.cells (f q.2 ⟨r.head, mid, 1⟩).2.2).2)
  else (q.1, (f q.2 ⟨r.head, mid, 1⟩).2.2)
def rowsG (l : List Row) (s : σ) : List Row × σ := l.foldl (rowStep f it mid) ([], s)
def innerG (x : Item) (s : σ) : (List Item × List Row) × σ :=
  if x.kind = 6 then (((it x.id x.flow mid s).1, x.rows), (it x.id x.flow mid s).2)
  else if x.kind = 7 then ((x.flow, (rowsG f it mid x.rows s).1), (rowsG f it mid x.rows s).2)
  else ((x.flow, x.rows), s)
def partStep (q : List Item × σ) (x : Item) : List Item × σ :=
  let r := f q.2 ⟨x.head, mid, (runLen [x]).1⟩
  if r.2.1 then (q.1 ++ [x.put r.1 (innerG f it mid x r.2.2).1.1 (innerG f it mid x r.2.2).1.2], (innerG f it mid x r.2.2).2)
  else (q.1, r.2.2)
def partsG (l : List Item) (s : σ) : List Item × σ := l.foldl (partStep f it mid) ([], s)
end
section
variable {σ : Type} (f : σ → SPart → Head × Bool × σ) (sc : Scope)
def inScope (id : Int) (l : List Item) (mid : Bool) : Bool := decide (id = sc.id) && !mid && decide (0 ≤ sc.a) && decide (sc.a ≤ sc.b) && decide (sc.b ≤ (runLen l).1)
def itemsG : Nat → Int → List Item → Bool → σ → List Item × σ
  | 0, _, _, _, s => ([], s)
  | N + 1, id, l, mid, s =>
    if inScope sc id l mid then
      let p1 := partsG f (itemsG N) false (runSlice l 0 sc.a).1 s
      let p2 := partsG f (itemsG N) true (runSlice l sc.a sc.b).1 p1.2
      let p3 := partsG f (itemsG N) false (runSlice l sc.b (runLen l).1).1 p2.2
      (p1.1 ++ p2.1 ++ p3.1, p3.2)
    else partsG f (itemsG N) mid l s
end
section
variable {σ : Type} {f : σ → SPart → Head × Bool × σ} {it : Int → List Item → Bool → σ → List Item × σ} {mid : Bool}
end
section
variable {hp : Head → Prop} {σ : Type} {f : σ → SPart → Head × Bool × σ} {it : Int → List Item → Bool → σ → List Item × σ} {mid : Bool} {K N : Nat}
theorem all_push {α : Type} {p : α → Prop} {l : List α} {x : α} (h : ∀ y ∈ l, p y) (hx : p x) : ∀ y ∈ l ++ [x], p y := fun y hy => by
  rcases List.mem_append.1 hy with hy | hy
  · exact h y hy
  · rw [List.mem_singleton.1 hy]; exact hx
end
mutual
theorem closed_mono {n m : Nat} (h : n ≤ m) : ∀ v : SV, closed n v = true → closed m v = true
  | .agg cs, e => by rw [closed] at *; exact closedL_mono h cs e
  | .tup cs, e => by rw [closed] at *; exact closedL_mono h cs e
  | .fn _ a b, e => by rw [closed, Bool.and_eq_true] at *; exact ⟨closedL_mono h a e.1, closedL_mono h b e.2⟩
  | .ptr o _, e => by simp only [closed, decide_eq_true_eq] at *; omega
  | .iptr cs, e => by rw [closed] at *; exact closedL_mono h cs e
  | .sl o _ _ _ _, e => by simp only [closed, decide_eq_true_eq] at *; omega
  | .slc o _ _ _ _, e => by simp only [closed, decide_eq_true_eq] at *; omega
  | .imm _ es _, e => by rw [closed] at *; exact closedL_mono h es e
  | .map o, e => by simp only [closed, decide_eq_true_eq] at *; omega
  | .yl o, e => by simp only [closed, decide_eq_true_eq] at *; omega
  | .int _ _, _ | .bool _, _ | .str _, _ | .junk, _ | .nilp, _ | .nilf, _ | .nilm, _ | .nils, _ => by simp [closed]
theorem closedL_mono {n m : Nat} (h : n ≤ m) : ∀ l : List SV, closedL n l = true → closedL m l = true
  | [], _ => by rw [closedL]
  | s :: l, e => by rw [closedL, Bool.and_eq_true] at *; exact ⟨closed_mono h s e.1, closedL_mono h l e.2⟩
end
theorem closedO_mono {n m : Nat} (h : n ≤ m) {y : SObj} (hc : closedO n y = true) : closedO m y = true := by
  cases y with
  | cells cs ty => exact closedL_mono h _ hc
  | map es =>
    simp only [closedO, List.all_eq_true, Bool.and_eq_true] at hc ⊢
    exact fun p hp => ⟨closed_mono h _ (hc p hp).1, closed_mono h _ (hc p hp).2⟩
  | loop l => rfl
  | sit s pos => rfl
  | list z es => exact closedL_mono h _ hc
  | iter l r =>
    simp only [closedO, List.all_eq_true, Bool.and_eq_true, Option.all_eq_true] at hc ⊢
    exact ⟨fun p hp => ⟨closed_mono h _ (hc.1 p hp).1, closed_mono h _ (hc.1 p hp).2⟩, fun p hp => ⟨closed_mono h _ (hc.2 p hp).1, closed_mono h _ (hc.2 p hp).2⟩⟩
section
variable {σ : Type}
def upS (st : σ → Nat → Option SObj) (s : σ) (H : Hp) : Hp := fun o => match st s o with | some y => some y | none => H o
structure Clo (st : σ → Nat → Option SObj) (n0 : Nat) (g : FuncId) (a b : List SV) (f : σ → SPart → Head × Bool × σ) (ok : Head → Prop) (rk : σ → Nat := fun _ => 0) (top : Nat := 0) : Prop where
  up : ∀ s p, rk s ≤ rk (f s p).2.2 := by exact fun _ _ => Nat.le_refl _
  lt : ∀ s o, n0 ≤ o → st s o = none
  dom : ∀ s s' o, st s o = none → st s' o = none
  cl : ∀ s o y, st s o = some y → closedO n0 y = true
  call : ∀ s p H n, ok p.head → rk (f s p).2.2 ≤ top → n0 ≤ n → (∀ o y, st s o = some y → H o = some y) → SCall Tryz.prog g (a ++ [p.enc] ++ b) H n (fun v h' n' => v = .tup [(f s p).1.enc, .bool (f s p).2.1] ∧ h' = upS st (f s p).2.2 H ∧ n' = n)
variable {st : σ → Nat → Option SObj} {n0 : Nat} {g : FuncId} {a b : List SV} {f : σ → SPart → Head × Bool × σ} {ok : Head → Prop} {rk : σ → Nat} {top : Nat}
theorem Clo.ne (C : Clo st n0 g a b f ok rk top) (s : σ) (H : Hp) {o : Nat} (h : n0 ≤ o) : upS st s H o = H o := by simp [upS, C.lt s o h]
theorem Clo.up2 (C : Clo st n0 g a b f ok rk top) (s s' : σ) (H : Hp) : upS st s' (upS st s H) = upS st s' H := by
  funext o
  simp only [upS]
  cases h : st s' o with
  | some y => rfl
  | none => simp [C.dom s' s o h]
theorem Clo.hset (C : Clo st n0 g a b f ok rk top) (s : σ) (H : Hp) {o : Nat} (h : n0 ≤ o) (y : Option SObj) : hset (upS st s H) o y = upS st s (hset H o y) := by
  funext j
  simp only [upS, Sh.hset]
  split
  · subst_vars; rw [C.lt s _ h]
  · rfl
theorem upS_self (s : σ) (H : Hp) (h : ∀ o y, st s o = some y → H o = some y) : upS st s H = H := by
  funext o
  simp only [upS]
  cases e : st s o with
  | some y => rw [h o y e]
  | none => rfl
theorem Clo.old (C : Clo st n0 g a b f ok rk top) (s : σ) {H : Hp} {n : Nat} (hn : n0 ≤ n) (ho : Old H n) : Old (upS st s H) n := fun o y e => by
  simp only [upS] at e
  cases e1 : st s o with
  | some z =>
    rw [e1] at e; cases e
    refine ⟨?_, closedO_mono hn (C.cl s o y e1)⟩
    by_cases h : n0 ≤ o
    · rw [C.lt s o h] at e1; cases e1
    · omega
  | none => rw [e1] at e; exact ho o y e
theorem Clo.acc (C : Clo st n0 g a b f ok rk top) {n m z : Nat} {o : Option Nat} {es : List SV} (hn : n0 ≤ n) (hA : AccI n m z o es) (s' : σ) (H : Hp) : upS st s' (AccH o es H) = AccH o es (upS st s' H) := by
  cases o with
  | none => rfl
  | some j => have := (hA.lt j rfl).1; simp only [AccH]; rw [C.hset s' H (by omega)]
theorem Clo.has (C : Clo st n0 g a b f ok rk top) {n m z : Nat} {o : Option Nat} {es : List SV} (hn : n0 ≤ n) (hA : AccI n m z o es) {s : σ} {H : Hp} (h : ∀ k y, st s k = some y → H k = some y) : ∀ k y, st s k = some y → AccH o es H k = some y := fun k y e => by
  cases o with
  | none => exact h k y e
  | some j =>
    have := (hA.lt j rfl).1
    simp only [AccH]
    rw [hset_ne _ _ ?_]
    · exact h k y e
    · rintro rfl; rw [C.lt s k (by omega)] at e; cases e
theorem has_up {s : σ} {H : Hp} : ∀ k y, st s k = some y → upS st s H k = some y := fun k y e => by simp [upS, e]
theorem acc_lt {n m z : Nat} {o : Option Nat} {es : List SV} {h : Hp} (hb : ∀ j y, h j = some y → j < n) (hnm : n ≤ m) (hA : AccI n m z o es) : ∀ j y, AccH o es h j = some y → j < m := fun j y e => by
  cases o with
  | none => have := hb j y e; omega
  | some k =>
    have := (hA.lt k rfl).2
    simp only [AccH, hset] at e
    split at e
    · omega
    · have := hb j y e; omega
theorem lt_none {h : Hp} {m : Nat} (hb : ∀ j y, h j = some y → j < m) {k : Nat} (hk : m ≤ k) : h k = none := by
  cases e : h k with
  | none => rfl
  | some y => have := hb k y e; omega
theorem acc_old {h : Hp} {n m z : Nat} {o : Option Nat} {es : List SV} (hb : ∀ j y, h j = some y → j < n) (H : AccI n m z o es) : ∀ j x, h j = some x → AccH o es h j = some x := fun j x e => by
  cases o with
  | none => exact e
  | some k =>
    have h1 := (H.lt k rfl).1
    have h2 := hb j x e
    simp only [AccH]; rw [hset_ne _ _ (by omega)]; exact e
theorem acc_live' {h H : Hp} {n m p z : Nat} {es : List SV} {e : SV} {o : Option Nat} {v : SV} (hb : ∀ j y, h j = some y → j < n) (hn : n ≤ p) (hA : AccI n m z o es) (hH : ∀ j y, h j = some y → H j = some y) :
    ∀ j y, AccH (some p) (es ++ [e]) h j = some y → (Out.app H p { val := v, upd := o.map fun j => (j, none), new := some (.cells (es.flatMap SV.cells ++ e.cells)) }) j = some y := by
  intro j y hj
  simp only [AccH] at hj
  by_cases e1 : j = p
  · subst e1
    rw [hset_at] at hj
    simp only [Out.app, hset_at]
    rw [← hj]; simp
  · rw [hset_ne _ _ e1] at hj
    have hlt := hb j y hj
    have := hH j y hj
    cases o with
    | none => simp [Out.app, hset_ne _ _ e1, this]
    | some k =>
      have hk : j ≠ k := by have := (hA.lt k rfl).1; omega
      simp [Out.app, hset_ne _ _ e1, hset_ne _ _ hk, this]
theorem set_keep {h h' : Hp} {m : Nat} {y : Option SObj} (hb : ∀ j z, h j = some z → j < m) (hh : ∀ j z, h j = some z → h' j = some z) : ∀ j z, h j = some z → hset h' m y j = some z := fun j z e => by
  rw [hset_ne _ _ (by have := hb j z e; omega)]; exact hh j z e
variable {it : Int → List Item → Bool → σ → List Item × σ} {mid : Bool} {P : List Item → Prop} {sc : Scope}
end
section
variable {σ : Type} {st : σ → Nat → Option SObj} {n0 : Nat} {g : FuncId} {a b : List SV} {f : σ → SPart → Head × Bool × σ} {ok : Head → Prop} {rk : σ → Nat} {top : Nat} {it : Int → List Item → Bool → σ → List Item × σ} {mid : Bool} {P : List Item → Prop} {sc : Scope}
end
section
variable {σ : Type} {st : σ → Nat → Option SObj} {n0 : Nat} {g : FuncId} {a b : List SV} {f : σ → SPart → Head × Bool × σ} {ok : Head → Prop} {rk : σ → Nat} {top : Nat} {sc : Scope}
end
section
variable {σ : Type} {st : σ → Nat → Option SObj} {n0 : Nat} {g : FuncId} {a b : List SV} {f : σ → SPart → Head × Bool × σ} {ok : Head → Prop} {rk : σ → Nat} {top : Nat} {sc : Scope}
def whole0 (f : σ → SPart → Head × Bool × σ) (sc : Scope) (N : Nat) (d : Document) (revs : List Rev) (s : σ) : Document × σ :=
  (⟨(itemsG f sc N 0 d.flow false s).1, (f (itemsG f sc N 0 d.flow false s).2 ⟨d.«end», false, 1⟩).1, revs, d.settings⟩, (f (itemsG f sc N 0 d.flow false s).2 ⟨d.«end», false, 1⟩).2.2)
theorem has_set {n : Nat} (hlt : ∀ s o, n ≤ o → st s o = none) {s : σ} {H : Hp} {p : Nat} (hp : n ≤ p) (y : Option SObj) (h : ∀ k z, st s k = some z → H k = some z) : ∀ k z, st s k = some z → hset H p y k = some z := fun k z e => by
  rw [hset_ne _ _ (by rintro rfl; rw [hlt s k hp] at e; cases e)]; exact h k z e
end
section
variable {σ : Type} {st : σ → Nat → Option SObj} {n0 : Nat} {g : FuncId} {a b : List SV} {u : σ → SPart → σ} {ok : Head → Prop} {rk : σ → Nat} {top : Nat} {sc : Scope}
def lookF (u : σ → SPart → σ) (s : σ) (p : SPart) : Head × Bool × σ := (p.head, true, u s p)
end
def cntU (rev : Int) (s : Int × Int) (x : SPart) : Int × Int :=
  if x.head.uses rev then if x.mid then (IntKind.i64.wrap (s.1 + x.units), s.2) else (s.1, IntKind.i64.wrap (s.2 + x.units)) else s
def rangeBad (sc : Scope) (l : List Item) : Prop := sc.a < 0 ∨ sc.b < sc.a ∨ (runLen l).1 < sc.b
instance (sc : Scope) (l : List Item) : Decidable (rangeBad sc l) := by unfold rangeBad; infer_instance
section
variable {σ : Type} (f : σ → SPart → Head × Bool × σ) (fl : Int → List Item → Scope → Bool → σ → List Item × σ) (sc : Scope) (mid : Bool)
end
section
variable {σ : Type} {f : σ → SPart → Head × Bool × σ} {fl : Int → List Item → Scope → Bool → σ → List Item × σ} {sc : Scope} {mid : Bool}
end
section
variable {α σ : Type} {rk : σ → Nat}
variable {f : σ → SPart → Head × Bool × σ} {fl : Int → List Item → Scope → Bool → σ → List Item × σ}
end
section
variable {σ : Type}
variable {st : σ → Nat → Option SObj} {n0 : Nat} {g : FuncId} {a b : List SV} {f : σ → SPart → Head × Bool × σ} {ok : Head → Prop} {rk : σ → Nat} {top : Nat}
variable {fl : Int → List Item → Scope → Bool → σ → List Item × σ} {mid : Bool} {P : List Item → Prop} {sc : Scope}
end
section
variable {σ : Type} {st : σ → Nat → Option SObj} {n0 : Nat} {g : FuncId} {a b : List SV} {f : σ → SPart → Head × Bool × σ} {ok : Head → Prop} {rk : σ → Nat} {top : Nat} {fl : Int → List Item → Scope → Bool → σ → List Item × σ} {mid : Bool} {P : List Item → Prop} {sc : Scope}
end
section
variable {σ : Type} {st : σ → Nat → Option SObj} {n0 : Nat} {g : FuncId} {a b : List SV} {f : σ → SPart → Head × Bool × σ} {ok : Head → Prop} {rk : σ → Nat} {top : Nat} {fl : Int → List Item → Scope → Bool → σ → List Item × σ} {P : List Item → Prop}
end
section
variable {σ : Type} {st : σ → Nat → Option SObj} {n0 : Nat} {g : FuncId} {a b : List SV} {f : σ → SPart → Head × Bool × σ} {ok : Head → Prop} {rk : σ → Nat} {top : Nat} {sc : Scope}
end
def TC (f : FuncId) (args : List SV) (T : SV → Prop) : Prop := ∀ h n, SCall Tryz.prog f args h n (fun v h' n' => T v ∧ h' = h ∧ n' = n)
theorem TC.use {E : Env} {f : FuncId} {args : List SV} {T : SV → Prop} (H : TC f args T) {h : Hp} {n : Nat} {K : SV → Hp → Nat → Prop} (hk : ∀ v, T v → K v h n) : SCallE E Tryz.prog f args h n K :=
  SCallE.lift <| (H h n).mono fun v _ _ ⟨e1, e2, e3⟩ => by subst e2; subst e3; exact hk v e1
theorem TC.mono {f : FuncId} {args : List SV} {T T' : SV → Prop} (H : TC f args T) (ht : ∀ v, T v → T' v) : TC f args T' := fun h n => (H h n).mono fun v _ _ ⟨e1, e2⟩ => ⟨ht v e1, e2⟩
theorem PC.t {f : FuncId} {args : List SV} {v : SV} {T : SV → Prop} (H : PC f args v) (hv : T v) : TC f args T := fun h n => (H h n).mono fun _ _ _ ⟨e1, e2, e3⟩ => ⟨by rw [e1]; exact hv, e2, e3⟩
theorem retT {h h' : Hp} {n n' : Nat} {v : SV} {T : SV → Prop} (ho : Old h n) (hh : ∀ o x, h o = some x → h' o = some x) (hc : closed n v = true) (hT : T v) : RetS n h' n' v (fun v2 h2 n2 => T v2 ∧ h2 = h ∧ n2 = n) :=
  RetS.plain hc ho hh ⟨hT, rfl, rfl⟩
theorem retTz {h h' : Hp} {n n' : Nat} {v' v : SV} {T : SV → Prop} (k : Nat) (ho : Old h n) (hh : ∀ o x, h o = some x → h' o = some x) (e : Fz h' h k v' v) (hc : closed n v = true) (hT : T v) : RetS n h' n' v' (fun v2 h2 n2 => T v2 ∧ h2 = h ∧ n2 = n) :=
  .inr ⟨k, v, h, e, hc, fun o x e => ⟨hh o x e, ho o x e⟩, hT, rfl, rfl⟩
theorem TC.lend {E : Env} {f : FuncId} {us bs : List SV} {T : SV → Prop} {h : Hp} {n : Nat} {K : SV → Hp → Nat → Prop} (k : Nat) (H : TC f bs T) (hp : ∀ v, T v → plainS v = true) (hw : All2 (Fz h (fun _ => none) k) us bs) (hk : ∀ v, T v → K v h n) : SCallE E Tryz.prog f us h n K := by
  refine ⟨(H h n).1, fun c vs _ R F A => ?_⟩
  have hs : ∀ o x, (fun _ => none : Hp) o = some x → h o = some x := fun _ _ e => by cases e
  have A' : All2 (V (c.less fun _ => none)) bs vs := All2.trans3 (R := V c) (S := Fz h (fun _ => none) k) (T := V (c.less fun _ => none)) (fun a b g h1 h2 => Fz.sound R hs k h2 h1) A hw
  refine ((H (fun _ => none) n).2 (c.less fun _ => none) vs trivial (R.less hs) F A').mono ?_
  rintro e w' ⟨u, v', h', n', c', he, ⟨hT, rfl, rfl⟩, rfl, hv', R', F', X0⟩
  have hno : ∀ b, ¬ (c.less fun _ => none).own b := fun b ⟨o, x, e, _⟩ => by cases e
  have hρ : ∀ j, c'.ρ j = c.ρ j := fun j => by
    rcases Nat.lt_or_ge j n' with hj | hj
    · exact X0.same j hj
    · rw [F' j hj, F j hj]
  have X : Ext c { c with w := c'.w } := ⟨fun _ _ e => e, X0.ext.size, fun b hb ho => ⟨ho, (X0.ext.keep b hb (hno b)).2⟩, X0.ext.room, X0.ext.os, X0.ext.out, X0.ext.td⟩
  refine ⟨u, v', h, n', { c with w := c'.w }, he, hk v' hT, rfl, hv'.plain (hp v' hT), ⟨fun o x ho => ?_, R.inj2, R.own2⟩, F, ⟨X, Nat.le_refl _, fun _ _ => rfl⟩⟩
  refine (R.obj o x ho).mono X fun b hb => ?_
  exact (X0.ext.keep b ((R.obj o x ho).hold_lt hb) (hno b)).2
def Err (T : Prop) (v : SV) : Prop := ∃ e : Int, v = intE e ∧ (e = 0 → T)
theorem Err.plain {T : Prop} : ∀ v, Err T v → plainS v = true := fun _ ⟨_, e, _⟩ => by rw [e]; rfl
theorem Err.mono {T T' : Prop} (ht : T → T') : ∀ v, Err T v → Err T' v := fun _ ⟨e, h1, h2⟩ => ⟨e, h1, fun g => ht (h2 g)⟩
theorem Err.no {T : Prop} {e : Int} (h : e ≠ 0) : Err T (intE e) := ⟨e, rfl, fun g => absurd g h⟩
theorem Err.ok {T : Prop} {e : Int} (h : T) : Err T (intE e) := ⟨e, rfl, fun _ => h⟩
def form2 (x : Item) : Prop := (x.kind ≠ 6 → x.flow = []) ∧ (x.kind ≠ 7 → x.rows = [])
def formOK (x : Item) : Prop := (x.kind ≠ 6 → x.flow = []) ∧ (x.kind ≠ 7 → x.rows = []) ∧ cpValid x.text = true
structure Bx where
  b : Bool
set_option maxHeartbeats 2000000 in
theorem t222 (x : Item) (hx : x.sized) : TC 201 [x.enc] (Err (formOK x)) := by
  intro h n
  refine goS Tryz.func201 rfl (by kernel_rfl) (by kernel_rfl) (by simp [go_sem]) fun ho => ?_
  obtain ⟨X, hX⟩ : ∃ X : SV, X = .iptr [intE x.kind, intE x.code, intE x.id, .str x.text, propsE x.head.props, intE x.head.ins, intE x.head.move, delsE x.head.dels, layersE x.head.layers, itemsE x.flow, rowsE x.rows] := ⟨_, rfl⟩
  refine SP_mid 1 (α := Unit) (fun _ => [(1, X)]) (fun _ => h) (fun _ m => n ≤ m) ?_ (fun _ m hm => ?_)
  · rw [hX]
    simp [go_sem, Item.enc_eq]
    exact ⟨ptr_fz (ho.none (Nat.le_refl n)) (hset_at _ _ _), set_keep (fun j z e => (ho j z e).1) look_same⟩
  refine SP_mid 0 (α := Bx) (fun b => [(1, X), (3, .bool b.b)]) (fun _ => h) (fun _ m => n ≤ m) ?_ (fun b3 m hm => ?_)
  · rw [hX]
    by_cases k : x.kind = 8
    · simp [go_sem, Fz.same, k, hm]; exact ⟨⟨_⟩, rfl⟩
    · simp [go_sem, Fz.same, k, hm]; exact ⟨⟨_⟩, rfl⟩
  refine SP_mid 0 (α := Bx) (fun b => [(1, X), (3, .bool b3.b), (4, .bool b.b)]) (fun _ => h) (fun _ m => n ≤ m) ?_ (fun b4 m hm => ?_)
  · rw [hX]
    by_cases k : x.kind = 1
    · simp [go_sem, Fz.same, k, hm]; exact ⟨⟨_⟩, rfl⟩
    · by_cases k5 : x.kind = 5
      · simp [go_sem, Fz.same, k5, hm]; exact ⟨⟨_⟩, rfl⟩
      · simp [go_sem, Fz.same, k, k5, hm]; exact ⟨⟨_⟩, rfl⟩
  refine SP_mid 0 (α := Bx) (fun b => [(1, X), (3, .bool b3.b), (4, .bool b4.b), (5, .bool b.b)]) (fun _ => h) (fun _ m => n ≤ m) ?_ (fun b5 m hm => ?_)
  · rw [hX]
    by_cases k : x.kind = 6
    · simp [go_sem, Fz.same, k, hm]; exact ⟨⟨_⟩, rfl⟩
    · by_cases k5 : x.kind = 7
      · simp [go_sem, Fz.same, k5, hm]; exact ⟨⟨_⟩, rfl⟩
      · simp [go_sem, Fz.same, k, k5, hm]; exact ⟨⟨_⟩, rfl⟩
  obtain ⟨b3⟩ := b3
  obtain ⟨b4⟩ := b4
  obtain ⟨b5⟩ := b5
  dsimp only
  refine SP_mid 0 (α := Unit) (fun _ => [(1, X), (3, .bool b3), (4, .bool b4), (5, .bool b5), (6, .bool true)]) (fun _ => h) (fun _ m => n ≤ m) ?_ (fun _ m hm => ?_)
  · simp [go_sem, Fz.same, hm]
  refine SP_mid 0 (α := Bx) (fun b => [(1, X), (3, .bool b3), (4, .bool b4), (5, .bool b5), (6, .bool b.b)]) (fun _ => h) (fun _ m => n ≤ m) ?_ (fun b6 m hm => ?_)
  · rw [hX]
    by_cases k : x.kind = 4
    · simp [go_sem, k]
      refine PC.use (c155 _ _ _) ?_
      simp [go_sem, Fz.same, hm]; exact ⟨⟨_⟩, rfl⟩
    · by_cases k2 : x.kind = 6
      · simp [go_sem, k2]
        refine PC.use (c155 _ _ _) ?_
        simp [go_sem, Fz.same, hm]; exact ⟨⟨_⟩, rfl⟩
      · by_cases k3 : x.kind = 8
        · simp [go_sem, k3]
          refine PC.use (c155 _ _ _) ?_
          simp [go_sem, Fz.same, hm]; exact ⟨⟨_⟩, rfl⟩
        · simp [go_sem, Fz.same, k, k2, k3, hm]; exact ⟨⟨_⟩, rfl⟩
  obtain ⟨b6⟩ := b6
  dsimp only
  refine SP_mid 0 (α := Bx) (fun b => [(1, X), (3, .bool b3), (4, .bool b4), (5, .bool b5), (6, .bool b6), (7, .bool b.b)]) (fun _ => h) (fun _ m => n ≤ m) ?_ (fun b7 m hm => ?_)
  · rw [hX]
    by_cases k : x.kind = 4
    · simp [go_sem, Fz.same, k, hm]; exact ⟨⟨_⟩, rfl⟩
    · by_cases k5 : x.kind = 6
      · simp [go_sem, Fz.same, k5, hm]; exact ⟨⟨_⟩, rfl⟩
      · simp [go_sem, Fz.same, k, k5, hm]; exact ⟨⟨_⟩, rfl⟩
  obtain ⟨b7⟩ := b7
  dsimp only
  have out : ∀ (e : Int) (m : Nat), e ≠ 0 → RetS n h m (intE e) (fun v h' n' => Err (formOK x) v ∧ h' = h ∧ n' = n) := fun e m he => retT ho look_same (by simp [closed]) (Err.no he)
  refine SP_midS 0 (α := Unit) (fun _ => []) (fun _ => h) (fun _ m => n ≤ m ∧ formOK x) ?_ (fun _ m hm => ?_)
  · refine SP_block ?_
    refine SP_mid 0 (α := Bx) (fun b => [(1, X), (3, .bool b3), (4, .bool b4), (5, .bool b5), (7, .bool b7), (70, .bool b.b)]) (fun _ => h) (fun _ m => n ≤ m) ?_ (fun b70 m hm => ?_)
    · rw [hX]
      simp [go_sem]
      refine PC.use (c155 _ _ _) ?_
      by_cases c : 1 ≤ x.kind ∧ x.kind ≤ 8
      · simp [go_sem, Fz.same, c, hm]; exact ⟨⟨_⟩, rfl⟩
      · simp [go_sem, Fz.same, c, hm]; exact ⟨⟨_⟩, rfl⟩
    obtain ⟨b70⟩ := b70
    dsimp only
    refine SWE_cond (b := b70) (by simp [go_sem]) ?_
    cases b70 with
    | true => exact SP_of (by simp [go_sem]; exact out _ _ (by decide))
    | false =>
    simp only [Bool.false_eq_true, if_false]
    refine SP_mid 0 (α := Bx) (fun b => [(1, X), (3, .bool b3), (79, .bool b.b)]) (fun _ => h) (fun b m => n ≤ m ∧ (b.b = false → form2 x)) ?_ (fun b79 m hm => ?_)
    · rw [hX]
      clear out
      unfold form2
      cases b7 with
      | true =>
        cases b5 with
        | true =>
          cases b4 with
          | true =>
            by_cases k6 : x.kind = 6
            · by_cases r0 : x.rows = []
              · simp [go_sem, Fz.same, hm, k6, r0]
                exact ⟨⟨false⟩, rfl⟩
              · have r1 : 0 < x.rows.length := List.length_pos_iff.2 r0
                simp [go_sem, Fz.same, hm, k6, r1]
                exact ⟨⟨true⟩, by simp, rfl⟩
            · by_cases f0 : x.flow = []
              · by_cases k7 : x.kind = 7
                · simp [go_sem, Fz.same, hm, f0, k7]
                  exact ⟨⟨false⟩, rfl⟩
                · by_cases r0 : x.rows = []
                  · simp [go_sem, Fz.same, hm, k6, f0, k7, r0]
                    exact ⟨⟨false⟩, rfl⟩
                  · have r1 : 0 < x.rows.length := List.length_pos_iff.2 r0
                    simp [go_sem, Fz.same, hm, k6, f0, k7, r1]
                    exact ⟨⟨true⟩, by simp, rfl⟩
              · have f1 : 0 < x.flow.length := List.length_pos_iff.2 f0
                simp [go_sem, Fz.same, hm, k6, f1]
                exact ⟨⟨true⟩, by simp, rfl⟩
          | false =>
            by_cases t0 : x.text.toList = []
            · by_cases k6 : x.kind = 6
              · by_cases r0 : x.rows = []
                · simp [go_sem, Fz.same, hm, t0, k6, r0]
                  exact ⟨⟨false⟩, rfl⟩
                · have r1 : 0 < x.rows.length := List.length_pos_iff.2 r0
                  simp [go_sem, Fz.same, hm, t0, k6, r1]
                  exact ⟨⟨true⟩, by simp, rfl⟩
              · by_cases f0 : x.flow = []
                · by_cases k7 : x.kind = 7
                  · simp [go_sem, Fz.same, hm, t0, f0, k7]
                    exact ⟨⟨false⟩, rfl⟩
                  · by_cases r0 : x.rows = []
                    · simp [go_sem, Fz.same, hm, t0, k6, f0, k7, r0]
                      exact ⟨⟨false⟩, rfl⟩
                    · have r1 : 0 < x.rows.length := List.length_pos_iff.2 r0
                      simp [go_sem, Fz.same, hm, t0, k6, f0, k7, r1]
                      exact ⟨⟨true⟩, by simp, rfl⟩
                · have f1 : 0 < x.flow.length := List.length_pos_iff.2 f0
                  simp [go_sem, Fz.same, hm, t0, k6, f1]
                  exact ⟨⟨true⟩, by simp, rfl⟩
            · simp [go_sem, Fz.same, hm, t0]
              exact ⟨⟨true⟩, by simp, rfl⟩
        | false =>
          by_cases i0 : x.id = 0
          · cases b4 with
            | true =>
              by_cases k6 : x.kind = 6
              · by_cases r0 : x.rows = []
                · simp [go_sem, Fz.same, hm, i0, k6, r0]
                  exact ⟨⟨false⟩, rfl⟩
                · have r1 : 0 < x.rows.length := List.length_pos_iff.2 r0
                  simp [go_sem, Fz.same, hm, i0, k6, r1]
                  exact ⟨⟨true⟩, by simp, rfl⟩
              · by_cases f0 : x.flow = []
                · by_cases k7 : x.kind = 7
                  · simp [go_sem, Fz.same, hm, i0, f0, k7]
                    exact ⟨⟨false⟩, rfl⟩
                  · by_cases r0 : x.rows = []
                    · simp [go_sem, Fz.same, hm, i0, k6, f0, k7, r0]
                      exact ⟨⟨false⟩, rfl⟩
                    · have r1 : 0 < x.rows.length := List.length_pos_iff.2 r0
                      simp [go_sem, Fz.same, hm, i0, k6, f0, k7, r1]
                      exact ⟨⟨true⟩, by simp, rfl⟩
                · have f1 : 0 < x.flow.length := List.length_pos_iff.2 f0
                  simp [go_sem, Fz.same, hm, i0, k6, f1]
                  exact ⟨⟨true⟩, by simp, rfl⟩
            | false =>
              by_cases t0 : x.text.toList = []
              · by_cases k6 : x.kind = 6
                · by_cases r0 : x.rows = []
                  · simp [go_sem, Fz.same, hm, i0, t0, k6, r0]
                    exact ⟨⟨false⟩, rfl⟩
                  · have r1 : 0 < x.rows.length := List.length_pos_iff.2 r0
                    simp [go_sem, Fz.same, hm, i0, t0, k6, r1]
                    exact ⟨⟨true⟩, by simp, rfl⟩
                · by_cases f0 : x.flow = []
                  · by_cases k7 : x.kind = 7
                    · simp [go_sem, Fz.same, hm, i0, t0, f0, k7]
                      exact ⟨⟨false⟩, rfl⟩
                    · by_cases r0 : x.rows = []
                      · simp [go_sem, Fz.same, hm, i0, t0, k6, f0, k7, r0]
                        exact ⟨⟨false⟩, rfl⟩
                      · have r1 : 0 < x.rows.length := List.length_pos_iff.2 r0
                        simp [go_sem, Fz.same, hm, i0, t0, k6, f0, k7, r1]
                        exact ⟨⟨true⟩, by simp, rfl⟩
                  · have f1 : 0 < x.flow.length := List.length_pos_iff.2 f0
                    simp [go_sem, Fz.same, hm, i0, t0, k6, f1]
                    exact ⟨⟨true⟩, by simp, rfl⟩
              · simp [go_sem, Fz.same, hm, i0, t0]
                exact ⟨⟨true⟩, by simp, rfl⟩
          · simp [go_sem, Fz.same, hm, i0]
            exact ⟨⟨true⟩, by simp, rfl⟩
      | false =>
        by_cases c0 : x.code = 0
        · cases b5 with
          | true =>
            cases b4 with
            | true =>
              by_cases k6 : x.kind = 6
              · by_cases r0 : x.rows = []
                · simp [go_sem, Fz.same, hm, c0, k6, r0]
                  exact ⟨⟨false⟩, rfl⟩
                · have r1 : 0 < x.rows.length := List.length_pos_iff.2 r0
                  simp [go_sem, Fz.same, hm, c0, k6, r1]
                  exact ⟨⟨true⟩, by simp, rfl⟩
              · by_cases f0 : x.flow = []
                · by_cases k7 : x.kind = 7
                  · simp [go_sem, Fz.same, hm, c0, f0, k7]
                    exact ⟨⟨false⟩, rfl⟩
                  · by_cases r0 : x.rows = []
                    · simp [go_sem, Fz.same, hm, c0, k6, f0, k7, r0]
                      exact ⟨⟨false⟩, rfl⟩
                    · have r1 : 0 < x.rows.length := List.length_pos_iff.2 r0
                      simp [go_sem, Fz.same, hm, c0, k6, f0, k7, r1]
                      exact ⟨⟨true⟩, by simp, rfl⟩
                · have f1 : 0 < x.flow.length := List.length_pos_iff.2 f0
                  simp [go_sem, Fz.same, hm, c0, k6, f1]
                  exact ⟨⟨true⟩, by simp, rfl⟩
            | false =>
              by_cases t0 : x.text.toList = []
              · by_cases k6 : x.kind = 6
                · by_cases r0 : x.rows = []
                  · simp [go_sem, Fz.same, hm, c0, t0, k6, r0]
                    exact ⟨⟨false⟩, rfl⟩
                  · have r1 : 0 < x.rows.length := List.length_pos_iff.2 r0
                    simp [go_sem, Fz.same, hm, c0, t0, k6, r1]
                    exact ⟨⟨true⟩, by simp, rfl⟩
                · by_cases f0 : x.flow = []
                  · by_cases k7 : x.kind = 7
                    · simp [go_sem, Fz.same, hm, c0, t0, f0, k7]
                      exact ⟨⟨false⟩, rfl⟩
                    · by_cases r0 : x.rows = []
                      · simp [go_sem, Fz.same, hm, c0, t0, k6, f0, k7, r0]
                        exact ⟨⟨false⟩, rfl⟩
                      · have r1 : 0 < x.rows.length := List.length_pos_iff.2 r0
                        simp [go_sem, Fz.same, hm, c0, t0, k6, f0, k7, r1]
                        exact ⟨⟨true⟩, by simp, rfl⟩
                  · have f1 : 0 < x.flow.length := List.length_pos_iff.2 f0
                    simp [go_sem, Fz.same, hm, c0, t0, k6, f1]
                    exact ⟨⟨true⟩, by simp, rfl⟩
              · simp [go_sem, Fz.same, hm, c0, t0]
                exact ⟨⟨true⟩, by simp, rfl⟩
          | false =>
            by_cases i0 : x.id = 0
            · cases b4 with
              | true =>
                by_cases k6 : x.kind = 6
                · by_cases r0 : x.rows = []
                  · simp [go_sem, Fz.same, hm, c0, i0, k6, r0]
                    exact ⟨⟨false⟩, rfl⟩
                  · have r1 : 0 < x.rows.length := List.length_pos_iff.2 r0
                    simp [go_sem, Fz.same, hm, c0, i0, k6, r1]
                    exact ⟨⟨true⟩, by simp, rfl⟩
                · by_cases f0 : x.flow = []
                  · by_cases k7 : x.kind = 7
                    · simp [go_sem, Fz.same, hm, c0, i0, f0, k7]
                      exact ⟨⟨false⟩, rfl⟩
                    · by_cases r0 : x.rows = []
                      · simp [go_sem, Fz.same, hm, c0, i0, k6, f0, k7, r0]
                        exact ⟨⟨false⟩, rfl⟩
                      · have r1 : 0 < x.rows.length := List.length_pos_iff.2 r0
                        simp [go_sem, Fz.same, hm, c0, i0, k6, f0, k7, r1]
                        exact ⟨⟨true⟩, by simp, rfl⟩
                  · have f1 : 0 < x.flow.length := List.length_pos_iff.2 f0
                    simp [go_sem, Fz.same, hm, c0, i0, k6, f1]
                    exact ⟨⟨true⟩, by simp, rfl⟩
              | false =>
                by_cases t0 : x.text.toList = []
                · by_cases k6 : x.kind = 6
                  · by_cases r0 : x.rows = []
                    · simp [go_sem, Fz.same, hm, c0, i0, t0, k6, r0]
                      exact ⟨⟨false⟩, rfl⟩
                    · have r1 : 0 < x.rows.length := List.length_pos_iff.2 r0
                      simp [go_sem, Fz.same, hm, c0, i0, t0, k6, r1]
                      exact ⟨⟨true⟩, by simp, rfl⟩
                  · by_cases f0 : x.flow = []
                    · by_cases k7 : x.kind = 7
                      · simp [go_sem, Fz.same, hm, c0, i0, t0, f0, k7]
                        exact ⟨⟨false⟩, rfl⟩
                      · by_cases r0 : x.rows = []
                        · simp [go_sem, Fz.same, hm, c0, i0, t0, k6, f0, k7, r0]
                          exact ⟨⟨false⟩, rfl⟩
                        · have r1 : 0 < x.rows.length := List.length_pos_iff.2 r0
                          simp [go_sem, Fz.same, hm, c0, i0, t0, k6, f0, k7, r1]
                          exact ⟨⟨true⟩, by simp, rfl⟩
                    · have f1 : 0 < x.flow.length := List.length_pos_iff.2 f0
                      simp [go_sem, Fz.same, hm, c0, i0, t0, k6, f1]
                      exact ⟨⟨true⟩, by simp, rfl⟩
                · simp [go_sem, Fz.same, hm, c0, i0, t0]
                  exact ⟨⟨true⟩, by simp, rfl⟩
            · simp [go_sem, Fz.same, hm, c0, i0]
              exact ⟨⟨true⟩, by simp, rfl⟩
        · simp [go_sem, Fz.same, hm, c0]
          exact ⟨⟨true⟩, by simp, rfl⟩
    obtain ⟨b79⟩ := b79
    dsimp only at hm ⊢
    refine SWE_cond (b := b79) (by simp [go_sem]) ?_
    cases b79 with
    | true => exact SP_of (by simp [go_sem]; exact out _ _ (by decide))
    | false =>
    simp only [Bool.false_eq_true, if_false]
    refine SP_mid 0 (α := Bx) (fun b => [(1, X), (3, .bool b3), (127, .bool b.b)]) (fun _ => h) (fun b m => n ≤ m ∧ (b.b = false → cpValid x.text = true)) ?_ (fun b127 m hm2 => ?_)
    · rw [hX]
      simp [go_sem]
      refine PC.use (c116 x.text (by have := (sized_parts hx).2.1; omega)) ?_
      simp [go_sem, Fz.same, hm.1]; exact ⟨⟨!cpValid x.text⟩, by simp, rfl⟩
    obtain ⟨b127⟩ := b127
    dsimp only at hm2 ⊢
    obtain ⟨hm2, hval⟩ := hm2
    refine SWE_cond (b := b127) (by simp [go_sem]) ?_
    cases b127 with
    | true => exact SP_of (by simp [go_sem]; exact out _ _ (by decide))
    | false =>
    simp only [Bool.false_eq_true, if_false]
    refine SP_mid 0 (α := Bx) (fun b => [(1, X), (3, .bool b3), (132, .bool b.b)]) (fun _ => h) (fun b m => n ≤ m) ?_ (fun b132 m hm2 => ?_)
    · rw [hX]
      by_cases k1 : x.kind = 1
      · simp [go_sem, Fz.same, k1, hm2]; exact ⟨⟨_⟩, rfl⟩
      · by_cases k5 : x.kind = 5
        · simp [go_sem, Fz.same, k5, hm2]; exact ⟨⟨_⟩, rfl⟩
        · simp [go_sem, Fz.same, k1, k5, hm2]; exact ⟨⟨_⟩, rfl⟩
    obtain ⟨b132⟩ := b132
    dsimp only
    refine SWE_cond (b := b132) (by simp [go_sem]) ?_
    cases b132 with
    | true => exact SP_of (by simp [go_sem]; exact out _ _ (by decide))
    | false =>
    simp only [Bool.false_eq_true, if_false]
    refine SP_mid 0 (α := Bx) (fun b => [(1, X), (3, .bool b3), (146, .bool b.b)]) (fun _ => h) (fun b m => n ≤ m) ?_ (fun b146 m hm2 => ?_)
    · rw [hX]
      by_cases k5 : x.kind = 5
      · simp [go_sem, Fz.same, k5, hm2]; exact ⟨⟨_⟩, rfl⟩
      · simp [go_sem, Fz.same, k5, hm2]; exact ⟨⟨_⟩, rfl⟩
    obtain ⟨b146⟩ := b146
    dsimp only
    refine SWE_cond (b := b146) (by simp [go_sem]) ?_
    cases b146 with
    | true => exact SP_of (by simp [go_sem]; exact out _ _ (by decide))
    | false =>
    simp only [Bool.false_eq_true, if_false]
    refine SP_mid 0 (α := Bx) (fun b => [(156, .bool b.b)]) (fun _ => h) (fun b m => n ≤ m) ?_ (fun b156 m hm2 => ?_)
    · rw [hX]
      cases b3 with
      | false => simp [go_sem, hm2]; exact ⟨⟨_⟩, rfl⟩
      | true =>
        simp [go_sem]
        refine PC.use (c219 x.text) ?_
        simp [go_sem, hm2]; exact ⟨⟨_⟩, rfl⟩
    obtain ⟨b156⟩ := b156
    dsimp only
    refine SWE_cond (b := b156) (by simp [go_sem]) ?_
    cases b156 with
    | true => exact SP_of (by simp [go_sem]; exact out _ _ (by decide))
    | false =>
    refine SP_of ?_
    simp [go_sem]
    exact ⟨hm2, (hm.2 rfl).1, (hm.2 rfl).2, hval rfl⟩
  · refine SP_of ?_
    simp [go_sem]
    exact retT ho look_same (by simp [closed]) (Err.ok hm.2)
def kvI (l : List (Int × Int)) : List (SV × SV) := l.map fun x => (intE x.1, intE x.2)
theorem findS_int (x : Int) : ∀ (l : List (Int × Int)) (i : Nat), findS (intE x) (kvI l) i = some none ∨ ∃ j k, findS (intE x) (kvI l) i = some (some (j, intE k))
  | [], i => .inl rfl
  | a :: l, i => by
    by_cases e : x = a.1
    · exact .inr ⟨i, a.2, by simp [kvI, findS, keyEq, e]⟩
    · have : (x == a.1) = false := by simpa using e
      rcases findS_int x l (i + 1) with h | ⟨j, k, h⟩
      · left; simp only [kvI, List.map_cons, findS, keyEq, if_true, this]; exact h
      · right; refine ⟨j, k, ?_⟩; simp only [kvI, List.map_cons, findS, keyEq, if_true, this]; exact h
structure Ck where
  p : Nat
  s0 : Nat
  s1 : Nat
  s2 : Nat
  s3 : Nat
  s4 : Nat
  m0 : List (Int × Int)
  m1 : List Int
  m2 : List Int
structure Ck.ok (K : Ck) (n0 : Nat) : Prop where
  nd : [K.p, K.s0, K.s1, K.s2, K.s3, K.s4].Nodup
  lt : ∀ o ∈ [K.p, K.s0, K.s1, K.s2, K.s3, K.s4], o < n0
abbrev CkS := List Int × Int
def Ck.cells (K : Ck) (c : Int) : List SV := [.map K.s0, .map K.s1, .map K.s2, .map K.s3, .map K.s4, intE c]
def Ck.st (K : Ck) (s : CkS) (o : Nat) : Option SObj :=
  if o = K.p then some (.cells (K.cells s.2)) else if o = K.s3 then some (.map (kvT s.1)) else if o = K.s0 then some (.map (kvI K.m0)) else if o = K.s1 then some (.map (kvT K.m1)) else if o = K.s2 then some (.map (kvT K.m2)) else if o = K.s4 then some (.map []) else none
section
variable {K : Ck} {n0 : Nat}
theorem Ck.ok.clo (h : K.ok n0) : Clo K.st n0 0 [] [] (fun s p => (p.head, true, s)) (fun _ => False) where
  lt s o ho := by
    have h1 := h.lt
    simp only [List.mem_cons, List.not_mem_nil, or_false, forall_eq_or_imp, forall_eq] at h1
    unfold Ck.st
    rw [if_neg (by omega), if_neg (by omega), if_neg (by omega), if_neg (by omega), if_neg (by omega), if_neg (by omega)]
  dom s s' o ho := by
    unfold Ck.st at ho ⊢
    repeat' split at ho
    all_goals first | cases ho | skip
    simp only [*, if_false]
  cl s o y ho := by
    have h1 := h.lt
    simp only [List.mem_cons, List.not_mem_nil, or_false, forall_eq_or_imp, forall_eq] at h1
    unfold Ck.st at ho
    repeat' split at ho
    all_goals first | cases ho | skip
    · simp [closedO, Ck.cells, closed, closedL]; omega
    · exact kvT_closed _ _
    · simp [closedO, kvI, closed]
    · exact kvT_closed _ _
    · exact kvT_closed _ _
    · simp [closedO]
  call := fun _ _ _ _ h => h.elim
structure Ck.has (K : Ck) (s : CkS) (H : Hp) : Prop where
  p : H K.p = some (.cells (K.cells s.2))
  s0 : H K.s0 = some (.map (kvI K.m0))
  s1 : H K.s1 = some (.map (kvT K.m1))
  s2 : H K.s2 = some (.map (kvT K.m2))
  s3 : H K.s3 = some (.map (kvT s.1))
  s4 : H K.s4 = some (.map [])
theorem Ck.ok.has (h : K.ok n0) {s : CkS} {H : Hp} (hs : ∀ o y, K.st s o = some y → H o = some y) : K.has s H := by
  have h1 := h.nd
  simp only [List.nodup_cons, List.mem_cons, List.not_mem_nil, or_false, not_or] at h1
  obtain ⟨⟨a1, a2, a3, a4, a5⟩, ⟨b2, b3, b4, b5⟩, ⟨c3, c4, c5⟩, ⟨d4, d5⟩, e5, _⟩ := h1
  constructor <;> refine hs _ _ ?_ <;> unfold Ck.st <;> simp [*, Ne.symm, eq_comm]
theorem ret_eU {H : Hp} {n n' : Nat} {h2 : Hp} (e : Int) {T : Int → Prop} (ho : Old H n) (hh : ∀ j y, H j = some y → h2 j = some y) (ht : T e) : RetS n h2 n' (intE e) (fun v h' n' => (∃ e, v = intE e ∧ T e) ∧ h' = H ∧ n' = n) :=
  .inr ⟨0, intE e, H, Fz.same, by simp [closed], fun j x g => ⟨hh j x g, ho j x g⟩, ⟨e, rfl, ht⟩, rfl, rfl⟩
set_option maxHeartbeats 1000000 in
theorem d157 (hK : K.ok n0) (s : CkS) (kind id : Int) {H : Hp} {n : Nat} (hs : ∀ o y, K.st s o = some y → H o = some y) :
    SCall Tryz.prog 150 [.ptr K.p 0, intE kind, intE id] H n (fun v h' n' => (∃ e, v = intE e) ∧ h' = H ∧ n' = n) := by
  refine go Tryz.func150 rfl (by kernel_rfl) (by kernel_rfl) (by simp [go_sem]) fun ho => ?_
  obtain ⟨hp, h0, h1, h2, h3, h4⟩ := hK.has hs
  have fin : ∀ (e : Int) (m : Nat), RetS n H m (intE e) (fun v h' n' => (∃ e, v = intE e) ∧ h' = H ∧ n' = n) := fun e m => by have := ret_eU (T := fun _ => True) (n' := m) e ho look_same trivial; simpa using this
  simp only [Ck.cells] at hp
  have main : kind = 20 ∨ kind = 1 ∨ (kind ≠ 20 ∧ kind ≠ 1) := by omega
  rcases main with e | e | ⟨e, e'⟩
  · by_cases i0 : id = 0
    · simp [go_sem, e, i0]
      refine (c87 _ _).use ?_
      simp [go_sem]; exact fin _ _
    · rcases findS_int id K.m0 0 with f | ⟨j, k, f⟩
      · simp [go_sem, e, i0, hp, h0, f, keyOk]
        refine (c87 _ _).use ?_
        simp [go_sem]; exact fin _ _
      · simp [go_sem, e, i0, hp, h0, f, keyOk]
        refine (c87 _ _).use ?_
        simp [go_sem]; exact fin _ _
  · by_cases i0 : id = 0
    · simp [go_sem, e, i0]
      refine (c87 _ _).use ?_
      simp [go_sem]; exact fin _ _
    · rcases findS_int id K.m0 0 with f | ⟨j, k, f⟩
      · simp [go_sem, e, i0, hp, h0, f, keyOk]
        refine (c87 _ _).use ?_
        simp [go_sem]; exact fin _ _
      · simp [go_sem, e, i0, hp, h0, f, keyOk]
        refine (c87 _ _).use ?_
        simp [go_sem]; exact fin _ _
  · by_cases e3 : kind = 33
    · by_cases i0 : id = 0
      · simp [go_sem, e3, i0]
        refine (c87 _ _).use ?_
        simp [go_sem]; exact fin _ _
      · by_cases hm : id ∈ K.m1
        · obtain ⟨j, f, _⟩ := findS_yes 0 hm
          simp [go_sem, e3, i0, hp, h1, f, keyOk]
          refine (c87 _ _).use ?_
          simp [go_sem]; exact fin _ _
        · have f := findS_no 0 hm
          simp [go_sem, e3, i0, hp, h1, f, keyOk]
          refine (c87 _ _).use ?_
          simp [go_sem]; exact fin _ _
    · simp [go_sem, e, e', e3]; exact fin _ _
def CQ (K : Ck) (T : Int → CkS → Prop) (H : Hp) (n : Nat) : SV → Hp → Nat → Prop := fun v h' n' => ∃ e s', v = intE e ∧ T e s' ∧ h' = upS K.st s' H ∧ n' = n
theorem Ck.ok.ret (hK : K.ok n0) {T : Int → CkS → Prop} {H h2 : Hp} {n m : Nat} (hn : n0 ≤ n) (ho : Old H n) (e : Int) (s' : CkS) (hT : T e s') (hh : ∀ j y, upS K.st s' H j = some y → h2 j = some y) : RetS n h2 m (intE e) (CQ K T H n) :=
  .inr ⟨0, intE e, upS K.st s' H, Fz.same, by simp [closed], fun j x g => ⟨hh j x g, hK.clo.old s' hn ho j x g⟩, e, s', rfl, hT, rfl, rfl⟩
theorem Ck.ok.no (hK : K.ok n0) {T : Int → CkS → Prop} {H h2 : Hp} {n m : Nat} (hn : n0 ≤ n) (ho : Old H n) (s : CkS) (hs : ∀ o y, K.st s o = some y → H o = some y) (e : Int) (hT : T e s) (hh : ∀ j y, H j = some y → h2 j = some y) : RetS n h2 m (intE e) (CQ K T H n) :=
  hK.ret hn ho e s hT (by rw [upS_self s H hs]; exact hh)
theorem kvT_push (l : List Int) (x : Int) : kvT l ++ [(intE x, .bool true)] = kvT (l ++ [x]) := by simp [kvT]
def idT (s : CkS) (id : Int) (e : Int) (s' : CkS) : Prop := e = 0 → s' = (s.1 ++ [id], s.2) ∧ 1 ≤ id ∧ id ≤ 1073741824 ∧ id ∉ s.1
theorem Ck.ok.up_ids (hK : K.ok n0) (s : CkS) (l : List Int) {H : Hp} (hs : ∀ o y, K.st s o = some y → H o = some y) : upS K.st (l, s.2) H = hset H K.s3 (some (.map (kvT l))) := by
  have h1 := hK.nd
  simp only [List.nodup_cons, List.mem_cons, List.not_mem_nil, or_false, not_or] at h1
  obtain ⟨⟨a1, a2, a3, a4, a5⟩, ⟨b2, b3, b4, b5⟩, ⟨c3, c4, c5⟩, ⟨d4, d5⟩, e5, _⟩ := h1
  funext o
  have g := hs o
  simp only [upS, Ck.st, hset] at g ⊢
  by_cases q0 : o = K.p
  · subst q0; simp only [if_true] at g ⊢; rw [if_neg a4]; exact (g _ rfl).symm
  · by_cases q1 : o = K.s3
    · have a4' : ¬ K.s3 = K.p := fun h => a4 h.symm
      simp [q1, a4']
    · simp only [q0, q1, if_false] at g ⊢
      split
      · rename_i y hy; exact (g y hy).symm
      · rfl
set_option maxHeartbeats 1000000 in
theorem d223 (hK : K.ok n0) (s : CkS) (id : Int) {H : Hp} {n : Nat} (hn : n0 ≤ n) (hs : ∀ o y, K.st s o = some y → H o = some y) :
    SCall Tryz.prog 202 [.ptr K.p 0, intE id] H n (CQ K (idT s id) H n) := by
  refine go Tryz.func202 rfl (by kernel_rfl) (by kernel_rfl) (by simp [go_sem]) fun ho => ?_
  obtain ⟨hp, h0, h1, h2, h3, h4⟩ := hK.has hs
  have no : ∀ (e : Int) (m : Nat), e ≠ 0 → RetS n H m (intE e) (CQ K (idT s id) H n) := fun e m he => hK.no hn ho s hs e (fun g => absurd g he) look_same
  simp only [Ck.cells] at hp
  by_cases r : 1 ≤ id ∧ id ≤ 1073741824
  · have f4 : findS (intE id) [] 0 = some none := rfl
    by_cases hm : id ∈ s.1
    · obtain ⟨j, f, _⟩ := findS_yes 0 hm
      simp [go_sem]
      refine (c155 _ _ _).use ?_
      simp [go_sem, r, hp, h4, h3, f, keyOk]
      exact no 7 _ (by decide)
    · have f := findS_no 0 hm
      simp [go_sem]
      refine (c155 _ _ _).use ?_
      simp [go_sem, r, hp, h4, h3, f, keyOk]
      refine hK.ret hn ho 0 (s.1 ++ [id], s.2) (fun _ => ⟨rfl, r.1, r.2, hm⟩) ?_
      rw [hK.up_ids s _ hs, kvT_push]
      exact look_same
  · simp [go_sem]
    refine (c155 _ _ _).use ?_
    simp [go_sem, r]
    exact no 18 _ (by decide)
end
def trL : Tr := .pure 0 <| .pure 1 <| .pure 2 <| .pure 3 <| .pure 5 <| .pure 6 <| .pure 7 <| .pure 8 <| .pure 9 <| .one 4 <| .one 10 <| .one 11 <| .one 12 <| .one 13 .nil
section
variable {K : Ck} {n0 : Nat}
def layT (K : Ck) (s : CkS) (x : Layer) (e : Int) (s' : CkS) : Prop := s' = s ∧ (e = 0 → x.rev ∈ K.m2)
set_option maxHeartbeats 2000000 in
theorem d159 (hK : K.ok n0) (s : CkS) (el : Int) (ls : List Layer) (hls : ls.length ≤ 1048576) (i : Nat) (hi : i < ls.length) {H : Hp} {n : Nat} (hn : n0 ≤ n) (hs : ∀ o y, K.st s o = some y → H o = some y) :
    SCall Tryz.prog 152 [.ptr K.p 0, intE el, layersE ls, intE i] H n (CQ K (layT K s ls[i]) H n) := by
  refine goS Tryz.func152 rfl (by kernel_rfl) (by kernel_rfl) (by simp [go_sem]) fun ho => ?_
  obtain ⟨x, hx⟩ : ∃ x, ls[i] = x := ⟨_, rfl⟩
  obtain ⟨hp, _, _, h2, _, _⟩ := hK.has hs
  simp only [Ck.cells] at hp
  have hKp : K.p < n := by have := hK.lt K.p (by simp); omega
  have hKs : K.s2 < n := by have := hK.lt K.s2 (by simp); omega
  have hHb : ∀ j y, H j = some y → j < n := fun j y e => (ho j y e).1
  have no : ∀ (e : Int) (m : Nat), e ≠ 0 → RetS n H m (intE e) (CQ K (layT K s ls[i]) H n) := fun e m he => hK.no hn ho s hs e ⟨rfl, fun g => absurd g he⟩ look_same
  refine SP_mid 0 (α := Unit) (fun _ => [(0, .ptr K.p 0), (1, intE el), (2, layersE ls), (3, intE i)]) (fun _ => H) (fun _ m => n = m) ?_ (fun _ m hm => ?_)
  · simp [go_sem, Fz.same]
  subst hm
  refine SP_mid 1 (α := Unit) (fun _ => [(0, .ptr K.p 0), (1, intE el), (2, layersE ls), (3, intE i), (9, .iptr [intE x.rev, intE x.key, intE x.before, .bool x.had])]) (fun _ => H) (fun _ m => n ≤ m) ?_ (fun _ m hm => ?_)
  · simp [go_sem, Fz.same, hi, hx, Layer.enc, hset_at]
    exact ⟨ptr_fz (lt_none hHb (Nat.le_refl _)) (hset_at _ _ _), set_keep hHb (set_keep hHb look_same)⟩
  rw [hx] at no ⊢
  refine SP_midS 0 (α := Unit) (fun _ => [(0, .ptr K.p 0), (9, .iptr [intE x.rev, intE x.key, intE x.before, .bool x.had])]) (fun _ => H) (fun _ m => n ≤ m ∧ x.rev ∈ K.m2) ?_ (fun _ m hm => ?_)
  · refine SP_block ?_
    refine SP_mid 0 (α := Bx) (fun b => [(0, .ptr K.p 0), (1, intE el), (2, layersE ls), (3, intE i), (9, .iptr [intE x.rev, intE x.key, intE x.before, .bool x.had]), (14, .bool b.b)]) (fun _ => H) (fun b m => n ≤ m ∧ (b.b = false → x.rev ∈ K.m2)) ?_ (fun b m hm => ?_)
    · by_cases hr : x.rev ∈ K.m2
      · obtain ⟨j, f, _⟩ := findS_yes 0 hr
        simp [go_sem, Fz.same, hp, h2, f, keyOk, hm, hr]
        repeat first | refine nd (by kernel_rfl) ?_ | refine sd (by kernel_rfl) ?_ | refine And.intro (by omega) ?_
        first | exact ⟨⟨false⟩, fun _ => hr, rfl⟩ | exact ⟨⟨false⟩, rfl⟩
      · have f := findS_no 0 hr
        simp [go_sem, Fz.same, hp, h2, f, keyOk, hm, hr]
        repeat first | refine nd (by kernel_rfl) ?_ | refine sd (by kernel_rfl) ?_ | refine And.intro (by omega) ?_
        first | exact ⟨⟨true⟩, by simp, rfl⟩ | exact ⟨⟨true⟩, rfl⟩
    obtain ⟨b⟩ := b
    dsimp only at hm ⊢
    refine SWE_cond (b := b) (by simp [go_sem]) ?_
    cases b with
    | true => exact SP_of (by simp [go_sem]; exact no 22 _ (by decide))
    | false =>
    simp only [Bool.false_eq_true, if_false]
    have hm2 := hm.2 rfl
    refine SP_mid 0 (α := Bx) (fun b => [(0, .ptr K.p 0), (1, intE el), (2, layersE ls), (3, intE i), (9, .iptr [intE x.rev, intE x.key, intE x.before, .bool x.had]), (23, .bool b.b)]) (fun _ => H) (fun b m => n ≤ m) ?_ (fun b m hm => ?_)
    · simp [go_sem]
      refine (c220 _ _).use ?_
      simp [go_sem, Fz.same, hm.1]; exact ⟨⟨_⟩, rfl⟩
    obtain ⟨b⟩ := b
    dsimp only at hm ⊢
    refine SWE_cond (b := b) (by simp [go_sem]) ?_
    cases b with
    | true => exact SP_of (by simp [go_sem]; exact no 4 _ (by decide))
    | false =>
    simp only [Bool.false_eq_true, if_false]
    refine SP_mid 0 (α := Bx) (fun b => [(0, .ptr K.p 0), (9, .iptr [intE x.rev, intE x.key, intE x.before, .bool x.had]), (29, .bool b.b)]) (fun _ => H) (fun b m => n ≤ m) ?_ (fun b m hm => ?_)
    · by_cases i0 : 0 < i
      · have hi1 : i - 1 < ls.length := by omega
        obtain ⟨y, hy⟩ : ∃ y, ls[i - 1] = y := ⟨_, rfl⟩
        have w : IntKind.i64.wrap ((i : Int) - 1) = ((i - 1 : Nat) : Int) := by rw [wr64] <;> omega
        simp [go_sem, Fz.same, i0, w, hi1, hy, Layer.enc, hm]
        repeat first | refine nd (by kernel_rfl) ?_ | refine sd (by kernel_rfl) ?_ | refine And.intro (by omega) ?_
        exact ⟨⟨_⟩, rfl⟩
      · simp [go_sem, Fz.same, i0, hm]
        repeat first | refine nd (by kernel_rfl) ?_ | refine sd (by kernel_rfl) ?_ | refine And.intro (by omega) ?_
        exact ⟨⟨_⟩, rfl⟩
    obtain ⟨b⟩ := b
    dsimp only at hm ⊢
    refine SWE_cond (b := b) (by simp [go_sem]) ?_
    cases b with
    | true => exact SP_of (by simp [go_sem]; exact no 6 _ (by decide))
    | false =>
    simp only [Bool.false_eq_true, if_false]
    refine SP_of ?_
    cases hh : x.had with
    | false =>
      simp [go_sem]
      refine (c87 _ _).use ?_
      simp [go_sem]
      exact hK.no hn ho s hs _ ⟨rfl, fun _ => hm2⟩ look_same
    | true =>
      simp [go_sem, Fz.same]
      exact ⟨hm, hm2⟩
  · have ret : ∀ (e : Int) (H2 : Hp) (m : Nat), (∀ j y, H j = some y → H2 j = some y) → RetS n H2 m (intE e) (CQ K (layT K s x) H n) := fun e H2 m hh => hK.no hn ho s hs e ⟨rfl, fun _ => hm.2⟩ hh
    refine SP_midS 0 (α := Int) (fun e => [(8, intE e)]) (fun _ => H) (fun _ m => n ≤ m) (SP_tr trL rfl (by kernel_rfl) (by kernel_rfl) ?_) (fun e m hm => ?_)
    · simp [go_sem, trL]
      refine (c221 _ _).use ?_
      simp [go_sem]
      refine SC.use (d157 hK s x.key x.before hs) ?_
      rintro v H' n' ⟨⟨e, rfl⟩, rfl, rfl⟩
      simp [go_sem]
      refine SCallE.fz (bs := [.imm 1 ([valueErr x.key x.before, e].map intE) false]) (h2 := H') 1 (set_keep (fun j z e => by have := hHb j z e; omega) look_same) ⟨?_, trivial⟩ ?_
      · exact sl_fz (es := [intE (valueErr x.key x.before), intE e]) (lt_none hHb hm.1) (by simp) (by rw [hset_at]; simp [SV.cells]) (by simp [SV.storable, SV.cells])
      refine (c82 _ (by simp)).use ?_
      simp [go_sem]
      first | exact ⟨by omega, _, Fz.same⟩ | exact ⟨_, by omega, Fz.same⟩ | exact ⟨_, Fz.same⟩
    · refine SP_of ?_
      simp [go_sem]
      exact ret _ _ _ look_same
end
section
variable {K : Ck} {n0 : Nat}
def allT (I : CkS → Prop) (e : Int) (s' : CkS) : Prop := e = 0 → I s'
theorem d150 (hK : K.ok n0) (N : Nat) (hN : N ≤ 1048576) (g : FuncId) (a b : List SV) (I : Nat → CkS → Prop)
    (step : ∀ i s' H n, i < N → I i s' → n0 ≤ n → (∀ o y, K.st s' o = some y → H o = some y) → SCall Tryz.prog g (a ++ [intE i] ++ b) H n (CQ K (allT (I (i + 1))) H n))
    (s : CkS) (h0 : I 0 s) {H : Hp} {n : Nat} (hn : n0 ≤ n) (hs : ∀ o y, K.st s o = some y → H o = some y) :
    SCall Tryz.prog 143 [intE N, .fn (.func g) a b] H n (CQ K (allT (I N)) H n) := by
  have D := hK.clo
  refine go Tryz.func143 rfl (by kernel_rfl) (by kernel_rfl) (by simp [go_sem]) fun ho => ?_
  simp [go_sem]
  refine goloop 0 (α := Nat × CkS) (fun q => [(1, .fn (.func g) a b), (7, intE N), (8, intE q.1)]) (fun q => upS K.st q.2 H) (fun q m => q.1 ≤ N ∧ n ≤ m ∧ I q.1 q.2) (fun q => N - q.1) (0, s) ?_ ?_ ?_ ?_
  · exact ⟨Nat.zero_le _, Nat.le_refl _, h0⟩
  · simp [look, Fz]
  · rw [upS_self s H hs]; exact look_same
  rintro ⟨i, s'⟩ m ⟨hi, hnm, hI⟩
  dsimp only at hi hI ⊢
  by_cases hlt : i < N
  · have w1 : IntKind.i64.wrap ((i : Int) + 1) = ((i + 1 : Nat) : Int) := by rw [wr64] <;> omega
    have hc := step i s' (upS K.st s' H) m hlt hI (by omega) has_up
    simp only [List.append_assoc, List.cons_append, List.nil_append] at hc
    simp [go_sem, hlt]
    refine SC.use hc ?_
    rintro v H' n' ⟨e, s2, rfl, hT, rfl, rfl⟩
    rw [D.up2]
    by_cases e0 : e = 0
    · subst e0
      simp [go_sem, w1, -Int.natCast_add]
      exact ⟨i + 1, by omega, s2.1, s2.2, ⟨by omega, hnm, hT rfl⟩, rfl, look_same⟩
    · simp [go_sem, e0]
      exact hK.ret hn ho e s2 (fun g => absurd g e0) look_same
  · have : i = N := by omega
    subst this
    simp [go_sem]
    exact hK.ret hn ho 0 s' (fun _ => hI) look_same
theorem d158 (hK : K.ok n0) (s : CkS) (el ins mv : Int) (dl : SV) (ls : List Layer) (hls : ls.length ≤ 1048576) (i : Nat) (hi : i < ls.length) {H : Hp} {n : Nat} (hn : n0 ≤ n) (hs : ∀ o y, K.st s o = some y → H o = some y) :
    SCall Tryz.prog 151 [intE i, .iptr [.ptr K.p 0], .iptr [intE el], .iptr [intE ins, intE mv, dl, layersE ls]] H n (CQ K (layT K s ls[i]) H n) := by
  refine go Tryz.func151 rfl (by kernel_rfl) (by kernel_rfl) (by simp [go_sem]) fun ho => ?_
  simp [go_sem]
  refine SC.use (d159 hK s el ls hls i hi hn hs) ?_
  rintro v H' n' ⟨e, s2, rfl, hT, rfl, rfl⟩
  simp [go_sem]
  exact hK.ret hn ho e s2 hT look_same
end
structure headOK0 (m2 : List Int) (h : Head) : Prop where
  ins : h.ins = 0 ∨ h.ins ∈ m2
  dlen : h.dels.length ≤ 16
  dels : ∀ x ∈ h.dels, x.rev ∈ m2
  llen : h.layers.length ≤ 64
  layers : ∀ x ∈ h.layers, x.rev ∈ m2
structure headOK (m2 : List Int) (h : Head) : Prop extends headOK0 m2 h where
  inc : ∀ i (hi : i < h.dels.length), 0 < i → h.dels[i - 1].rev < h.dels[i].rev
  mv : 0 ≤ h.move
  dmv : ∀ x ∈ h.dels, 0 ≤ x.move
section
variable {K : Ck} {n0 : Nat}
def headT (K : Ck) (s : CkS) (h : Head) (e : Int) (s' : CkS) : Prop := e = 0 → s' = s ∧ headOK K.m2 h
set_option maxHeartbeats 4000000 in
theorem d86 (hK : K.ok n0) (s : CkS) (el : Int) (hd : Head) (hsz : hd.sized) {H : Hp} {n : Nat} (hn : n0 ≤ n) (hs : ∀ o y, K.st s o = some y → H o = some y) :
    SCall Tryz.prog 82 [.ptr K.p 0, intE el, hd.enc] H n (CQ K (headT K s hd) H n) := by
  refine goS Tryz.func82 rfl (by kernel_rfl) (by kernel_rfl) (by simp [go_sem]) fun ho => ?_
  obtain ⟨hp, _, _, h2, _, _⟩ := hK.has hs
  simp only [Ck.cells] at hp
  have hKp : K.p < n := by have := hK.lt K.p (by simp); omega
  have hKs : K.s2 < n := by have := hK.lt K.s2 (by simp); omega
  have hHb : ∀ j y, H j = some y → j < n := fun j y e => (ho j y e).1
  have no : ∀ (e : Int) (m : Nat), e ≠ 0 → RetS n H m (intE e) (CQ K (headT K s hd) H n) := fun e m he => hK.no hn ho s hs e (fun g => absurd g he) look_same
  refine SP_mid 1 (α := Unit) (fun _ => [(3, .iptr [.ptr K.p 0]), (4, .iptr [intE el]), (5, .iptr hd.flat)]) (fun _ => H) (fun _ m => n ≤ m) ?_ (fun _ m hm => ?_)
  · simp [go_sem, Head.enc, Head.flat, Nat.add_assoc]
    refine ⟨⟨ptr_fz (lt_none hHb (by omega)) (by simp [hset]), ptr_fz (lt_none hHb (by omega)) (by simp [hset]), ptr_fz (lt_none hHb (by omega)) (by simp [hset])⟩, fun j y => ?_⟩
    have := hHb j y; simp only [hset]; grind
  refine SP_midS 0 (α := Unit) (fun _ => [(3, .iptr [.ptr K.p 0]), (4, .iptr [intE el]), (5, .iptr hd.flat)]) (fun _ => H) (fun _ m => n ≤ m) (SP_of ?_) (fun _ m hm => ?_)
  · simp [go_sem, Head.flat]
    refine (c156 el hd.props hsz.props).use ?_
    by_cases e0 : propCheck el hd.props = 0
    · simp [go_sem, e0, Fz.same, hm]
    · simp [go_sem, e0]; exact no _ _ e0
  refine SP_midS 0 (α := Unit) (fun _ => [(3, .iptr [.ptr K.p 0]), (4, .iptr [intE el]), (5, .iptr hd.flat)]) (fun _ => H) (fun _ m => n ≤ m) ?_ (fun _ m hm => ?_)
  · refine SP_mid 0 (α := Unit) (fun _ => [(3, .iptr [.ptr K.p 0]), (4, .iptr [intE el]), (5, .iptr hd.flat), (22, propsE hd.props), (23, intE hd.props.length), (24, intE 0)]) (fun _ => H) (fun _ m => n ≤ m) ?_ (fun _ m hm => ?_)
    · simp [go_sem, Fz.same, Head.flat, hm]
    refine SP_block (goloopS 0 (α := Nat) (fun i => [(3, .iptr [.ptr K.p 0]), (4, .iptr [intE el]), (5, .iptr hd.flat), (22, propsE hd.props), (23, intE hd.props.length), (24, intE i)]) (fun _ => H) (fun i m => i ≤ hd.props.length ∧ n ≤ m) (fun i => hd.props.length - i) 0 ⟨Nat.zero_le _, hm⟩ ?_ look_same ?_)
    · simp [go_sem, look, Fz.same]
    rintro i m ⟨hi, hm⟩
    refine SP_of ?_
    by_cases hlt : i < hd.props.length
    · obtain ⟨x, hx⟩ : ∃ x, hd.props[i] = x := ⟨_, rfl⟩
      have w1 : IntKind.i64.wrap ((i : Int) + 1) = ((i + 1 : Nat) : Int) := by have := hsz.props; rw [wr64] <;> omega
      simp [go_sem, hlt, hx, Prp.enc, hset_at]
      refine SC.use (d157 hK s x.key x.value (has_set hK.clo.lt (by omega) _ (has_set hK.clo.lt (by omega) _ hs))) ?_
      rintro v H' n' ⟨⟨e, rfl⟩, rfl, rfl⟩
      by_cases e0 : e = 0
      · subst e0
        simp [go_sem, w1, -Int.natCast_add]
        refine ⟨i + 1, by omega, ⟨by omega, by omega⟩, by simp [Fz.same], set_keep (fun j z e => by have := hHb j z e; omega) (set_keep (fun j z e => by have := hHb j z e; omega) look_same)⟩
      · simp [go_sem, e0]
        exact hK.no hn ho s hs e (fun g => absurd g e0) (set_keep (fun j z e => by have := hHb j z e; omega) (set_keep (fun j z e => by have := hHb j z e; omega) look_same))
    · simp [go_sem, hlt, Fz.same, hm]
  refine SP_mid 1 (α := Unit) (fun _ => [(3, .iptr [.ptr K.p 0]), (4, .iptr [intE el]), (11, .iptr [intE hd.ins, intE hd.move, delsE hd.dels, layersE hd.layers])]) (fun _ => H) (fun _ m => n ≤ m) ?_ (fun _ m hm => ?_)
  · simp [go_sem, Fz.same, Head.flat, hset_at]
    have hHm : ∀ j y, H j = some y → j < m := fun j y e => by have := hHb j y e; omega
    exact ⟨by omega, ptr_fz (lt_none hHm (Nat.le_refl _)) (hset_at _ _ _), set_keep hHm (set_keep hHm look_same)⟩
  refine SP_midS 0 (α := Unit) (fun _ => [(3, .iptr [.ptr K.p 0]), (4, .iptr [intE el]), (11, .iptr [intE hd.ins, intE hd.move, delsE hd.dels, layersE hd.layers])]) (fun _ => H) (fun _ m => n ≤ m ∧ (hd.ins = 0 ∨ hd.ins ∈ K.m2) ∧ hd.dels.length ≤ 16 ∧ 0 ≤ hd.move) ?_ (fun _ m hm => ?_)
  · refine SP_block ?_
    refine SP_mid 0 (α := Bx) (fun b => [(3, .iptr [.ptr K.p 0]), (4, .iptr [intE el]), (11, .iptr [intE hd.ins, intE hd.move, delsE hd.dels, layersE hd.layers]), (40, .bool b.b)]) (fun _ => H) (fun b m => n ≤ m ∧ (b.b = false → hd.ins = 0 ∨ hd.ins ∈ K.m2)) ?_ (fun b m hm => ?_)
    · by_cases i0 : hd.ins = 0
      · simp [go_sem, Fz.same, i0, hm]
        repeat first | refine nd (by kernel_rfl) ?_ | refine sd (by kernel_rfl) ?_ | refine And.intro (by omega) ?_
        exact ⟨⟨false⟩, rfl⟩
      · by_cases hr : hd.ins ∈ K.m2
        · obtain ⟨j, f, _⟩ := findS_yes 0 hr
          simp [go_sem, Fz.same, i0, hp, h2, f, keyOk, hm, hr]
          repeat first | refine nd (by kernel_rfl) ?_ | refine sd (by kernel_rfl) ?_ | refine And.intro (by omega) ?_
          exact ⟨⟨false⟩, rfl⟩
        · have f := findS_no 0 hr
          simp [go_sem, Fz.same, i0, hp, h2, f, keyOk, hm, hr]
          repeat first | refine nd (by kernel_rfl) ?_ | refine sd (by kernel_rfl) ?_ | refine And.intro (by omega) ?_
          exact ⟨⟨true⟩, by simp, rfl⟩
    obtain ⟨b⟩ := b
    dsimp only at hm ⊢
    refine SWE_cond (b := b) (by simp [go_sem]) ?_
    cases b with
    | true => exact SP_of (by simp [go_sem]; exact no 22 _ (by decide))
    | false =>
    simp only [Bool.false_eq_true, if_false]
    have hm1 := hm.2 rfl
    refine SP_mid 0 (α := Bx) (fun b => [(3, .iptr [.ptr K.p 0]), (4, .iptr [intE el]), (11, .iptr [intE hd.ins, intE hd.move, delsE hd.dels, layersE hd.layers]), (54, .bool b.b)]) (fun _ => H) (fun b m => n ≤ m ∧ (b.b = false → 0 ≤ hd.move)) ?_ (fun b m hm => ?_)
    · simp [go_sem]
      refine (c155 _ _ _).use ?_
      by_cases c : 0 ≤ hd.move ∧ hd.move ≤ 1073741824
      · by_cases m0 : hd.move = 0
        · simp [go_sem, Fz.same, m0, hm.1]; exact ⟨⟨_⟩, rfl⟩
        · simp [go_sem, Fz.same, c, m0, hm.1]; exact ⟨⟨_⟩, rfl⟩
      · simp [go_sem, Fz.same, c, hm.1]; exact ⟨⟨true⟩, by simp, rfl⟩
    obtain ⟨b⟩ := b
    dsimp only at hm ⊢
    refine SWE_cond (b := b) (by simp [go_sem]) ?_
    cases b with
    | true => exact SP_of (by simp [go_sem]; exact no 21 _ (by decide))
    | false =>
    simp only [Bool.false_eq_true, if_false]
    have hm3 := hm.2 rfl
    refine SP_of ?_
    by_cases c : (16 : Int) < hd.dels.length
    · simp [go_sem, c]; exact no 9 _ (by decide)
    · simp [go_sem, c, Fz.same, hm, hm1]; omega
  obtain ⟨hm, hi, hdl, hmv⟩ := hm
  refine SP_midS 0 (α := Unit) (fun _ => [(3, .iptr [.ptr K.p 0]), (4, .iptr [intE el]), (11, .iptr [intE hd.ins, intE hd.move, delsE hd.dels, layersE hd.layers])]) (fun _ => H) (fun _ m => n ≤ m ∧ ∀ j (h : j < hd.dels.length), hd.dels[j].rev ∈ K.m2 ∧ (0 < j → hd.dels[j - 1].rev < hd.dels[j].rev) ∧ 0 ≤ hd.dels[j].move) ?_ (fun _ m hm => ?_)
  · refine SP_mid 0 (α := Unit) (fun _ => [(3, .iptr [.ptr K.p 0]), (4, .iptr [intE el]), (11, .iptr [intE hd.ins, intE hd.move, delsE hd.dels, layersE hd.layers]), (75, delsE hd.dels), (76, intE hd.dels.length), (77, intE 0)]) (fun _ => H) (fun _ m => n ≤ m) ?_ (fun _ m hm => ?_)
    · simp [go_sem, Fz.same, hm]
    refine SP_block (goloopS 0 (α := Nat) (fun i => [(3, .iptr [.ptr K.p 0]), (4, .iptr [intE el]), (11, .iptr [intE hd.ins, intE hd.move, delsE hd.dels, layersE hd.layers]), (75, delsE hd.dels), (76, intE hd.dels.length), (77, intE i)]) (fun _ => H) (fun i m => i ≤ hd.dels.length ∧ n ≤ m ∧ ∀ j (h : j < hd.dels.length), j < i → hd.dels[j].rev ∈ K.m2 ∧ (0 < j → hd.dels[j - 1].rev < hd.dels[j].rev) ∧ 0 ≤ hd.dels[j].move) (fun i => hd.dels.length - i) 0 ⟨Nat.zero_le _, hm, fun j _ h => by omega⟩ ?_ look_same ?_)
    · simp [go_sem, look, Fz.same]
    rintro i m ⟨hi2, hm, hI⟩
    by_cases hlt : i < hd.dels.length
    · obtain ⟨x, hx⟩ : ∃ x, hd.dels[i] = x := ⟨_, rfl⟩
      have w1 : IntKind.i64.wrap ((i : Int) + 1) = ((i + 1 : Nat) : Int) := by rw [wr64] <;> omega
      refine SP_mid 0 (α := Unit) (fun _ => [(3, .iptr [.ptr K.p 0]), (4, .iptr [intE el]), (11, .iptr [intE hd.ins, intE hd.move, delsE hd.dels, layersE hd.layers]), (75, delsE hd.dels), (76, intE hd.dels.length), (77, intE i), (78, .bool true)]) (fun _ => H) (fun _ m => n ≤ m) ?_ (fun _ m hm => ?_)
      · simp [go_sem, Fz.same, hm, hlt]
      refine SP_mid 0 (α := Unit) (fun _ => [(3, .iptr [.ptr K.p 0]), (4, .iptr [intE el]), (11, .iptr [intE hd.ins, intE hd.move, delsE hd.dels, layersE hd.layers]), (75, delsE hd.dels), (76, intE hd.dels.length), (77, intE i)]) (fun _ => H) (fun _ m => n ≤ m) ?_ (fun _ m hm => ?_)
      · simp [go_sem, Fz.same, hm]
      refine SP_midS 0 (α := Unit) (fun _ => [(3, .iptr [.ptr K.p 0]), (4, .iptr [intE el]), (11, .iptr [intE hd.ins, intE hd.move, delsE hd.dels, layersE hd.layers]), (75, delsE hd.dels), (76, intE hd.dels.length), (77, intE i)]) (fun _ => H) (fun _ m => n ≤ m ∧ x.rev ∈ K.m2 ∧ (0 < i → hd.dels[i - 1].rev < x.rev) ∧ 0 ≤ x.move) ?_ (fun _ m hm => ?_)
      · refine SP_block ?_
        refine SP_mid 1 (α := Unit) (fun _ => [(3, .iptr [.ptr K.p 0]), (4, .iptr [intE el]), (11, .iptr [intE hd.ins, intE hd.move, delsE hd.dels, layersE hd.layers]), (75, delsE hd.dels), (76, intE hd.dels.length), (77, intE i), (12, intE i), (13, .iptr [intE x.rev, intE x.move])]) (fun _ => H) (fun _ m => n ≤ m) ?_ (fun _ m hm => ?_)
        · simp [go_sem, Fz.same, hlt, hx, Del.enc, hset_at]
          have hHm : ∀ j y, H j = some y → j < m := fun j y e => by have := hHb j y e; omega
          exact ⟨by omega, ptr_fz (lt_none hHm (Nat.le_refl _)) (hset_at _ _ _), set_keep hHm (set_keep hHm look_same)⟩
        refine SP_block ?_
        refine SP_mid 0 (α := Bx) (fun b => [(3, .iptr [.ptr K.p 0]), (4, .iptr [intE el]), (11, .iptr [intE hd.ins, intE hd.move, delsE hd.dels, layersE hd.layers]), (75, delsE hd.dels), (76, intE hd.dels.length), (77, intE i), (12, intE i), (13, .iptr [intE x.rev, intE x.move]), (82, .bool b.b)]) (fun _ => H) (fun b m => n ≤ m ∧ (b.b = false → x.rev ∈ K.m2)) ?_ (fun b m hm => ?_)
        · by_cases hr : x.rev ∈ K.m2
          · obtain ⟨j, f, _⟩ := findS_yes 0 hr
            simp [go_sem, Fz.same, hp, h2, f, keyOk, hm, hr]
            repeat first | refine nd (by kernel_rfl) ?_ | refine sd (by kernel_rfl) ?_ | refine And.intro (by omega) ?_
            exact ⟨⟨false⟩, rfl⟩
          · have f := findS_no 0 hr
            simp [go_sem, Fz.same, hp, h2, f, keyOk, hm, hr]
            repeat first | refine nd (by kernel_rfl) ?_ | refine sd (by kernel_rfl) ?_ | refine And.intro (by omega) ?_
            exact ⟨⟨true⟩, by simp, rfl⟩
        obtain ⟨b⟩ := b
        dsimp only at hm ⊢
        refine SWE_cond (b := b) (by simp [go_sem]) ?_
        cases b with
        | true => exact SP_of (by simp [go_sem]; exact no 22 _ (by decide))
        | false =>
        simp only [Bool.false_eq_true, if_false]
        have hm1 := hm.2 rfl
        refine SP_mid 0 (α := Bx) (fun b => [(3, .iptr [.ptr K.p 0]), (4, .iptr [intE el]), (11, .iptr [intE hd.ins, intE hd.move, delsE hd.dels, layersE hd.layers]), (75, delsE hd.dels), (76, intE hd.dels.length), (77, intE i), (13, .iptr [intE x.rev, intE x.move]), (91, .bool b.b)]) (fun _ => H) (fun b m => n ≤ m ∧ (b.b = false → 0 < i → hd.dels[i - 1].rev < x.rev)) ?_ (fun b m hm => ?_)
        · by_cases i0 : 0 < i
          · have hi1 : i - 1 < hd.dels.length := by omega
            obtain ⟨y, hy⟩ : ∃ y, hd.dels[i - 1] = y := ⟨_, rfl⟩
            have w : IntKind.i64.wrap ((i : Int) - 1) = ((i - 1 : Nat) : Int) := by rw [wr64] <;> omega
            simp [go_sem, Fz.same, i0, w, hi1, hy, Del.enc, hm]
            repeat first | refine nd (by kernel_rfl) ?_ | refine sd (by kernel_rfl) ?_ | refine And.intro (by omega) ?_
            exact ⟨⟨decide (x.rev ≤ y.rev)⟩, fun g => by simpa using g, rfl⟩
          · simp [go_sem, Fz.same, i0, hm]
            repeat first | refine nd (by kernel_rfl) ?_ | refine sd (by kernel_rfl) ?_ | refine And.intro (by omega) ?_
            exact ⟨⟨_⟩, rfl⟩
        obtain ⟨b⟩ := b
        dsimp only at hm ⊢
        refine SWE_cond (b := b) (by simp [go_sem]) ?_
        cases b with
        | true => exact SP_of (by simp [go_sem]; exact no 6 _ (by decide))
        | false =>
        simp only [Bool.false_eq_true, if_false]
        have hm2 := hm.2 rfl
        have hm := hm.1
        refine SP_of ?_
        simp [go_sem]
        refine (c155 _ _ _).use ?_
        by_cases c : 0 ≤ x.move ∧ x.move ≤ 1073741824
        · simp [go_sem, Fz.same, c, hm, hm1]; exact hm2
        · simp [go_sem, c]; exact no 21 _ (by decide)
      · refine SP_of ?_
        simp [go_sem, w1, Fz.same, -Int.natCast_add]
        refine ⟨i + 1, by omega, ⟨by omega, hm.1, fun j h hj => ?_⟩, rfl⟩
        by_cases h3 : j = i
        · subst h3; rw [hx]; exact hm.2
        · exact hI j h (by omega)
    · have : i = hd.dels.length := by omega
      subst this
      refine SP_of ?_
      simp [go_sem, Fz.same, hm]
      exact fun j hj => hI j hj hj
  obtain ⟨hm, hdr⟩ := hm
  refine SP_midS 0 (α := Unit) (fun _ => [(3, .iptr [.ptr K.p 0]), (4, .iptr [intE el]), (11, .iptr [intE hd.ins, intE hd.move, delsE hd.dels, layersE hd.layers])]) (fun _ => H) (fun _ m => n ≤ m ∧ hd.layers.length ≤ 64) (SP_of ?_) (fun _ m hm => ?_)
  · by_cases c : (64 : Int) < hd.layers.length
    · simp [go_sem, c]; exact no 9 _ (by decide)
    · simp [go_sem, c, Fz.same, hm]; omega
  obtain ⟨hm, hll⟩ := hm
  refine SP_of ?_
  simp [go_sem]
  have hd150 := d150 hK hd.layers.length (by omega) 151 [] [.iptr [.ptr K.p 0], .iptr [intE el], .iptr [intE hd.ins, intE hd.move, delsE hd.dels, layersE hd.layers]] (fun i s' => s' = s ∧ ∀ j (h : j < hd.layers.length), j < i → hd.layers[j].rev ∈ K.m2) (fun i s' H2 n2 hi hI hn2 hs2 => by
    obtain ⟨he, hI⟩ := hI
    refine (d158 hK s' el hd.ins hd.move (delsE hd.dels) hd.layers (by omega) i hi hn2 hs2).mono ?_
    rintro v h' n' ⟨e, s2, rfl, ⟨he2, hT⟩, rfl, rfl⟩
    refine ⟨e, s2, rfl, fun e0 => ⟨by rw [he2, he], fun j h hj => ?_⟩, rfl, rfl⟩
    by_cases h3 : j = i
    · subst h3; exact hT e0
    · exact hI j h (by omega)) s ⟨rfl, fun j _ h => by omega⟩ (H := H) (n := m) (by omega) hs
  refine SC.use hd150 ?_
  rintro v H' n' ⟨e, s2, rfl, hT, rfl, rfl⟩
  simp [go_sem]
  by_cases e0 : e = 0
  · obtain ⟨he, hT2⟩ := hT e0
    exact hK.ret hn ho e s2 (fun _ => ⟨he, ⟨hi, hdl, fun x hx => by obtain ⟨j, hj, rfl⟩ := List.getElem_of_mem hx; exact (hdr j hj).1, hll, fun x hx => by obtain ⟨j, hj, rfl⟩ := List.getElem_of_mem hx; exact hT2 j hj hj⟩, fun j hj h0 => (hdr j hj).2.1 h0, hmv, fun x hx => by obtain ⟨j, hj, rfl⟩ := List.getElem_of_mem hx; exact (hdr j hj).2.2⟩) look_same
  · exact hK.ret hn ho e s2 (fun g => absurd g e0) look_same
end
def idsN : Nat → List Item → List Int
  | 0, _ => []
  | N + 1, l => l.flatMap fun x => if x.kind = 6 then x.id :: idsN N x.flow else if x.kind = 7 then x.id :: x.rows.flatMap fun r => r.cells.flatMap fun c => c.id :: idsN N c.flow else []
def idsR (N : Nat) (r : Row) : List Int := r.cells.flatMap fun c => c.id :: idsN N c.flow
def idsI (N : Nat) (x : Item) : List Int := if x.kind = 6 then x.id :: idsN N x.flow else if x.kind = 7 then x.id :: x.rows.flatMap (idsR N) else []
theorem idsN_succ (N : Nat) (l : List Item) : idsN (N + 1) l = l.flatMap (idsI N) := rfl
def okc (m2 : List Int) : Nat → List Item → Prop
  | 0, _ => True
  | N + 1, l => ∀ x ∈ l, formOK x ∧ headOK m2 x.head ∧ okc m2 N x.flow ∧ (x.kind = 7 → x.rows ≠ []) ∧ ∀ r ∈ x.rows, (headOK m2 r.head ∧ r.cells ≠ []) ∧ ∀ c ∈ r.cells, headOK m2 c.head ∧ okc m2 N c.flow
def okr (m2 : List Int) (N : Nat) (r : Row) : Prop := (headOK m2 r.head ∧ r.cells ≠ []) ∧ ∀ c ∈ r.cells, headOK m2 c.head ∧ okc m2 N c.flow
def oki (m2 : List Int) (N : Nat) (x : Item) : Prop := formOK x ∧ headOK m2 x.head ∧ okc m2 N x.flow ∧ (x.kind = 7 → x.rows ≠ []) ∧ ∀ r ∈ x.rows, okr m2 N r
theorem okc_nil (m2 : List Int) (N : Nat) : okc m2 N [] := by cases N <;> simp [okc]
def more (s s' : CkS) (ids : List Int) : Prop := s'.1 = s.1 ++ ids ∧ (∀ i ∈ ids, 1 ≤ i ∧ i ≤ 1073741824) ∧ (s.1.Nodup → s'.1.Nodup)
theorem more.nil {s s' : CkS} (h : s'.1 = s.1) : more s s' [] := ⟨by simp [h], by simp, by rw [h]; exact id⟩
theorem more.trans {s s1 s2 : CkS} {a b : List Int} (h : more s s1 a) (g : more s1 s2 b) : more s s2 (a ++ b) :=
  ⟨by rw [g.1, h.1, List.append_assoc], fun i hi => by rcases List.mem_append.1 hi with hi | hi; exact h.2.1 i hi; exact g.2.1 i hi, fun n => g.2.2 (h.2.2 n)⟩
theorem more.one {s s' : CkS} {id : Int} (h : s' = (s.1 ++ [id], s.2)) (h1 : 1 ≤ id ∧ id ≤ 1073741824) (h2 : id ∉ s.1) : more s s' [id] :=
  ⟨by rw [h], by simpa using h1, fun n => by rw [h]; simp only; rw [List.nodup_append]; exact ⟨n, by simp, by rintro a ha b hb; rw [List.mem_singleton.1 hb]; rintro rfl; exact h2 ha⟩⟩
def moreT (s : CkS) (ids : List Int) (P : Prop) (e : Int) (s' : CkS) : Prop := e = 0 → more s s' ids ∧ P
def trP : Tr := .pure 0 <| .pure 1 <| .pure 2 <| .pure 3 <| .pure 4 <| .pure 5 <| .one 6 <| .one 7 .nil
section
variable {K : Ck} {n0 : Nat}
def ItemC (K : Ck) (n0 : Nat) (N : Nat) (x : Item) : Prop := ∀ (s : CkS) (pl : Place) (H : Hp) (n : Nat), n0 ≤ n → (∀ o y, K.st s o = some y → H o = some y) →
  SCall Tryz.prog 154 [.ptr K.p 0, x.enc, pl.enc] H n (CQ K (moreT s (idsI N x) (oki K.m2 N x)) H n)
def ItemsC (K : Ck) (n0 : Nat) (N : Nat) (l : List Item) : Prop := ∀ (s : CkS) (pl : Place) (H : Hp) (n : Nat), n0 ≤ n → (∀ o y, K.st s o = some y → H o = some y) →
  SCall Tryz.prog 84 [.ptr K.p 0, itemsE l, pl.enc] H n (CQ K (moreT s (idsN N l) (okc K.m2 N l)) H n)
theorem d160 (hK : K.ok n0) (N : Nat) (l : List Item) (i : Nat) (hi : i < l.length) (h : ItemC K n0 N l[i]) (s : CkS) (pl : Place) {H : Hp} {n : Nat} (hn : n0 ≤ n) (hs : ∀ o y, K.st s o = some y → H o = some y) :
    SCall Tryz.prog 153 [intE i, .iptr [.ptr K.p 0], .iptr [itemsE l], .iptr [.bool pl.body, .bool pl.note, intE pl.tables]] H n (CQ K (moreT s (idsI N l[i]) (oki K.m2 N l[i])) H n) := by
  refine goS Tryz.func153 rfl (by kernel_rfl) (by kernel_rfl) (by simp [go_sem]) fun ho => ?_
  obtain ⟨x, hx⟩ : ∃ x, l[i] = x := ⟨_, rfl⟩
  rw [hx] at h ⊢
  have hgx : (l.map Item.enc)[i]? = some x.enc := by simp [hi, hx]
  have D := hK.clo
  refine SP_mid 0 (α := Unit) (fun _ => [(0, intE i), (1, .iptr [.ptr K.p 0]), (2, .iptr [itemsE l]), (3, .iptr [.bool pl.body, .bool pl.note, intE pl.tables])]) (fun _ => H) (fun _ m => n ≤ m) ?_ (fun _ m hm => ?_)
  · simp [go_sem, Fz.same]
  refine SP_midS 0 (α := Int × CkS) (fun q => [(5, intE q.1)]) (fun q => upS K.st q.2 H) (fun q m => n ≤ m ∧ moreT s (idsI N x) (oki K.m2 N x) q.1 q.2) (SP_tr trP rfl (by kernel_rfl) (by kernel_rfl) ?_) (fun q m hm => ?_)
  · have hc := h s pl H m (by omega) hs
    simp only [Item.enc_eq, Place.enc] at hc
    simp [go_sem, trP, hi, hx, Item.enc_eq]
    refine SC.use hc ?_
    rintro v H' n' ⟨e, s2, rfl, hT, rfl, rfl⟩
    simp [go_sem]
    exact ⟨e, s2.1, s2.2, ⟨by omega, hT⟩, Fz.same, look_same⟩
  · refine SP_of ?_
    simp [go_sem]
    exact hK.ret hn ho q.1 q.2 hm.2 look_same
theorem take_flatMap {α β : Type} (f : α → List β) (l : List α) (i : Nat) (h : i < l.length) : (l.take (i + 1)).flatMap f = (l.take i).flatMap f ++ f l[i] := by
  rw [List.take_succ_eq_append_getElem h, List.flatMap_append]; simp
theorem d88 (hK : K.ok n0) (N : Nat) (l : List Item) (hl : l.length ≤ 1048576) (h : ∀ x ∈ l, ItemC K n0 N x) : ItemsC K n0 (N + 1) l := fun s pl H n hn hs => by
  refine goS Tryz.func84 rfl (by kernel_rfl) (by kernel_rfl) (by simp [go_sem]) fun ho => ?_
  have hHb : ∀ j y, H j = some y → j < n := fun j y e => (ho j y e).1
  refine SP_mid 1 (α := Unit) (fun _ => [(3, .iptr [.ptr K.p 0]), (4, .iptr [itemsE l]), (5, .iptr [.bool pl.body, .bool pl.note, intE pl.tables])]) (fun _ => H) (fun _ m => n ≤ m) ?_ (fun _ m hm => ?_)
  · simp [go_sem, Place.enc, Nat.add_assoc]
    refine ⟨⟨ptr_fz (lt_none hHb (by omega)) (by simp [hset]), ptr_fz (lt_none hHb (by omega)) (by simp [hset]), ptr_fz (lt_none hHb (by omega)) (by simp [hset])⟩, fun j y => ?_⟩
    have := hHb j y; simp only [hset]; grind
  have hd := d150 hK l.length hl 153 [] [.iptr [.ptr K.p 0], .iptr [itemsE l], .iptr [.bool pl.body, .bool pl.note, intE pl.tables]] (fun i s' => more s s' ((l.take i).flatMap (idsI N)) ∧ ∀ x ∈ l.take i, oki K.m2 N x) (fun i s' H2 n2 hi hI hn2 hs2 => by
    refine (d160 hK N l i hi (h _ (List.getElem_mem hi)) s' pl hn2 hs2).mono ?_
    rintro v h' n' ⟨e, s2, rfl, hT, rfl, rfl⟩
    refine ⟨e, s2, rfl, fun e0 => ?_, rfl, rfl⟩
    obtain ⟨h1, h2⟩ := hT e0
    rw [take_flatMap _ _ _ hi]
    refine ⟨hI.1.trans h1, fun x hx => ?_⟩
    rw [List.take_succ_eq_append_getElem hi] at hx
    exact all_push hI.2 h2 x hx) s ⟨more.nil rfl, by simp⟩ (H := H) (n := m) (by omega) hs
  refine SP_of ?_
  simp [go_sem]
  refine SC.use hd ?_
  rintro v H' n' ⟨e, s2, rfl, hT, rfl, rfl⟩
  simp [go_sem]
  refine hK.ret hn ho e s2 (fun e0 => ?_) look_same
  have := hT e0
  rw [List.take_length] at this
  exact ⟨by rw [idsN_succ]; exact this.1, this.2⟩
end
section
variable {K : Ck} {n0 : Nat}
theorem Ck.ok.up_cnt (_hK : K.ok n0) (s : CkS) (c : Int) {H : Hp} (hs : ∀ o y, K.st s o = some y → H o = some y) : upS K.st (s.1, c) H = hset H K.p (some (.cells (K.cells c))) := by
  funext o
  have g := hs o
  simp only [upS, Ck.st, hset] at g ⊢
  by_cases q0 : o = K.p
  · simp [q0]
  · simp only [q0, if_false] at g ⊢
    split
    · rename_i y hy; exact (g y hy).symm
    · rfl
def RowsC (K : Ck) (n0 : Nat) (N : Nat) (l : List Row) : Prop := ∀ (s : CkS) (pl : Place) (H : Hp) (n : Nat), n0 ≤ n → (∀ o y, K.st s o = some y → H o = some y) →
  SCall Tryz.prog 203 [.ptr K.p 0, rowsE l, pl.enc] H n (CQ K (moreT s (l.flatMap (idsR N)) (l ≠ [] ∧ ∀ r ∈ l, okr K.m2 N r)) H n)
def ownIds (x : Item) : List Int := if x.kind = 6 ∨ x.kind = 7 then [x.id] else []
set_option maxHeartbeats 4000000 in
theorem d161 (hK : K.ok n0) (N : Nat) (x : Item) (hx : x.sized) (hfl : ItemsC K n0 N x.flow) (hrw : RowsC K n0 N x.rows) : ItemC K n0 N x := fun s pl H n hn hs => by
  refine goS Tryz.func154 rfl (by kernel_rfl) (by kernel_rfl) (by simp [go_sem]) fun ho => ?_
  have D := hK.clo
  have hKp : K.p < n := by have := hK.lt K.p (by simp); omega
  have hU : ∀ s', Old (upS K.st s' H) n := fun s' => D.old s' hn ho
  have hUb : ∀ s' j y, upS K.st s' H j = some y → j < n := fun s' j y e => (hU s' j y e).1
  have hps : ∀ s', upS K.st s' H K.p = some (.cells [.map K.s0, .map K.s1, .map K.s2, .map K.s3, .map K.s4, intE s'.2]) := fun s' => (hK.has (s := s') has_up).p
  have hcnt : ∀ (q : CkS) b, hset (upS K.st q H) K.p (some (.cells [.map K.s0, .map K.s1, .map K.s2, .map K.s3, .map K.s4, intE b])) = upS K.st (q.1, b) H := fun q b => by rw [← D.up2 q (q.1, b) H, hK.up_cnt q b has_up]; rfl
  have no : ∀ (e : Int) (s' : CkS) (m : Nat), e ≠ 0 → RetS n (upS K.st s' H) m (intE e) (CQ K (moreT s (idsI N x) (oki K.m2 N x)) H n) := fun e s' m he => hK.ret hn ho e s' (fun g => absurd g he) look_same
  obtain ⟨X, hX⟩ : ∃ X : SV, X = .iptr [intE x.kind, intE x.code, intE x.id, .str x.text, propsE x.head.props, intE x.head.ins, intE x.head.move, delsE x.head.dels, layersE x.head.layers, itemsE x.flow, rowsE x.rows] := ⟨_, rfl⟩
  obtain ⟨Y, hY⟩ : ∃ Y : SV, Y = .iptr [.bool pl.body, .bool pl.note, intE pl.tables] := ⟨_, rfl⟩
  refine SP_mid 1 (α := Unit) (fun _ => [(0, .ptr K.p 0), (4, X), (5, Y)]) (fun _ => upS K.st s H) (fun _ m => n ≤ m) ?_ (fun _ m hm => ?_)
  · rw [upS_self s H hs, hX, hY]
    have hHb : ∀ j y, H j = some y → j < n := fun j y e => (ho j y e).1
    simp [go_sem, Fz.same, Place.enc, Item.enc_eq]
    refine ⟨by omega, ⟨ptr_fz (lt_none hHb (by omega)) (by simp [hset]), ptr_fz (lt_none hHb (by omega)) (by simp [hset])⟩, fun j y => ?_⟩
    have := hHb j y; simp only [hset]; grind
  refine SP_midS 0 (α := Unit) (fun _ => [(0, .ptr K.p 0), (4, X), (5, Y)]) (fun _ => upS K.st s H) (fun _ m => n ≤ m ∧ formOK x) (SP_of ?_) (fun _ m hm => ?_)
  · rw [hX]
    simp [go_sem]
    refine TC.use (by simpa [Item.enc_eq] using t222 x hx) ?_
    rintro v ⟨e, rfl, hT⟩
    by_cases e0 : e = 0
    · simp [go_sem, e0, Fz.same, hm, hT e0]
    · simp [go_sem, e0]; exact no e s _ e0
  obtain ⟨hm, hform⟩ := hm
  refine SP_mid 0 (α := Int) (fun _ => [(0, .ptr K.p 0), (4, X), (5, Y)]) (fun c => upS K.st (s.1, c) H) (fun _ m => n ≤ m) ?_ (fun c m hm => ?_)
  · simp [go_sem, hps, Fz.same, hm]
    refine ⟨IntKind.i64.wrap (s.2 + 1), ?_⟩
    rw [upS_self s H hs, hK.up_cnt s _ hs]
    exact look_same
  refine SP_midS 0 (α := CkS) (fun _ => [(0, .ptr K.p 0), (4, X), (5, Y)]) (fun q => upS K.st q H) (fun q m => n ≤ m ∧ more s q (ownIds x)) ?_ (fun q m hm => ?_)
  · refine SP_mid 0 (α := Unit) (fun _ => [(0, .ptr K.p 0), (4, X), (5, Y), (27, intE x.kind)]) (fun _ => upS K.st (s.1, c) H) (fun _ m => n ≤ m) ?_ (fun _ m hm => ?_)
    · rw [hX]; simp [go_sem, Fz.same, hm]
    refine SP_block (SP_of ?_)
    by_cases k1 : x.kind = 1
    · have ow : ownIds x = [] := by simp [ownIds, k1]
      rw [ow, hX]
      simp [go_sem, k1]
      refine (c177 x.text (by have := (sized_parts hx).2.1; omega)).use ?_
      simp [go_sem, hps, Fz.same]
      rw [hcnt]
      refine ⟨s.1, _, ⟨hm, ?_⟩, look_same⟩
      exact more.nil rfl
    · by_cases k3 : x.kind = 3
      · have ow : ownIds x = [] := by simp [ownIds, k3]
        rw [ow, hX, hY]
        cases hb : pl.body with
        | true =>
          simp [go_sem, k3, Fz.same]
          refine ⟨s.1, _, ⟨hm, ?_⟩, look_same⟩
          exact more.nil rfl
        | false =>
          simp [go_sem, k3]
          exact no 19 _ _ (by decide)
      · by_cases k6 : x.kind = 6
        · have ow : ownIds x = [x.id] := by simp [ownIds, k6]
          rw [ow, hX, hY]
          simp [go_sem, k6]
          refine (c87 _ _).use ?_
          simp [go_sem]
          refine SCallE.fz (bs := [.imm 1 ([if pl.note then (19 : Int) else 0].map intE) false]) (h2 := upS K.st (s.1, c) H) 1 (set_keep (fun j z e => by have := hUb _ j z e; omega) look_same) ⟨?_, trivial⟩ ?_
          · exact sl_fz (es := [intE (if pl.note then (19 : Int) else 0)]) (lt_none (hUb _) hm) (by simp) (by rw [hset_at]; simp [SV.cells]) (by simp [SV.storable, SV.cells])
          refine (c82 _ (by simp)).use ?_
          cases hb : pl.note with
          | true => simp [go_sem, firstE]; exact no 19 _ _ (by decide)
          | false =>
          simp [go_sem, firstE]
          refine SC.use (d223 hK (s.1, c) x.id (by omega) has_up) ?_
          rintro v H' n' ⟨e, s2, rfl, hT, rfl, rfl⟩
          rw [D.up2]
          by_cases e0 : e = 0
          · obtain ⟨h1, h2, h3, h4⟩ := hT e0
            simp [go_sem, e0, Fz.same]
            exact ⟨s2.1, s2.2, ⟨by omega, more.one (s := s) (s' := (s2.1, s.2)) (by rw [h1]) ⟨h2, h3⟩ h4⟩, look_same⟩
          · simp [go_sem, e0]
            exact no e _ _ e0
        · by_cases k7 : x.kind = 7
          · have ow : ownIds x = [x.id] := by simp [ownIds, k7]
            rw [ow, hX, hY]
            by_cases tb : 4 ≤ pl.tables
            · simp [go_sem, k7, tb]; exact no 17 _ _ (by decide)
            simp [go_sem, k7, tb]
            refine SC.use (d223 hK (s.1, c) x.id (by omega) has_up) ?_
            rintro v H' n' ⟨e, s2, rfl, hT, rfl, rfl⟩
            rw [D.up2]
            by_cases e0 : e = 0
            · obtain ⟨h1, h2, h3, h4⟩ := hT e0
              simp [go_sem, e0, Fz.same]
              exact ⟨s2.1, s2.2, ⟨by omega, more.one (s := s) (s' := (s2.1, s.2)) (by rw [h1]) ⟨h2, h3⟩ h4⟩, look_same⟩
            · simp [go_sem, e0]
              exact no e _ _ e0
          · have ow : ownIds x = [] := by simp [ownIds, k6, k7]
            rw [ow, hX, hY]
            by_cases k8 : x.kind = 8
            · simp [go_sem, k8]
              refine (c155 _ _ _).use ?_
              by_cases c8 : 1 ≤ x.id ∧ x.id ≤ 1073741824
              · simp [go_sem, c8, Fz.same]
                refine ⟨s.1, _, ⟨hm, ?_⟩, look_same⟩
                exact more.nil rfl
              · simp [go_sem, c8]
                exact no 18 _ _ (by decide)
            · simp [go_sem, k1, k3, k6, k7, k8, Fz.same]
              refine ⟨s.1, _, ⟨hm, ?_⟩, look_same⟩
              exact more.nil rfl
  obtain ⟨hm, hmo⟩ := hm
  refine SP_midS 0 (α := Unit) (fun _ => [(0, .ptr K.p 0), (4, X), (5, Y)]) (fun _ => upS K.st q H) (fun _ m => n ≤ m ∧ headOK K.m2 x.head) (SP_of ?_) (fun _ m hm => ?_)
  · rw [hX]
    simp [go_sem]
    refine SC.use (by simpa [Head.enc, Head.flat] using d86 hK q x.kind x.head (sized_parts hx).1 (n := m) (by omega) has_up) ?_
    rintro v H' n' ⟨e, s2, rfl, hT, rfl, rfl⟩
    rw [D.up2]
    by_cases e0 : e = 0
    · obtain ⟨h1, h2⟩ := hT e0
      simp [go_sem, e0, Fz.same, h1, hm, h2]
    · simp [go_sem, e0]; exact no e _ _ e0
  obtain ⟨hm, hh⟩ := hm
  refine SP_midS 0 (α := Unit) (fun _ => []) (fun _ => upS K.st q H) (fun _ m => x.kind ≠ 6 ∧ x.kind ≠ 7) (SP_of ?_) (fun _ m hk => ?_)
  · rw [hX, hY]
    by_cases k6 : x.kind = 6
    · simp [go_sem, k6]
      refine SC.use (by simpa [Place.enc] using hfl q ⟨false, true, pl.tables⟩ (upS K.st q H) m (by omega) has_up) ?_
      rintro v H' n' ⟨e, s2, rfl, hT, rfl, rfl⟩
      rw [D.up2]
      simp [go_sem]
      refine hK.ret hn ho e s2 (fun e0 => ?_) look_same
      obtain ⟨h1, h2⟩ := hT e0
      have h3 := hmo.trans h1
      have e1 : ownIds x ++ idsN N x.flow = idsI N x := by simp [ownIds, idsI, k6]
      rw [e1] at h3
      exact ⟨h3, hform, hh, h2, fun h => absurd h (by omega), by rw [hform.2.1 (by omega)]; simp⟩
    · by_cases k7 : x.kind = 7
      · simp [go_sem, k7]
        refine SC.use (by simpa [Place.enc] using hrw q ⟨false, pl.note, IntKind.i64.wrap (pl.tables + 1)⟩ (upS K.st q H) m (by omega) has_up) ?_
        rintro v H' n' ⟨e, s2, rfl, hT, rfl, rfl⟩
        rw [D.up2]
        simp [go_sem]
        refine hK.ret hn ho e s2 (fun e0 => ?_) look_same
        obtain ⟨h1, h2⟩ := hT e0
        have h3 := hmo.trans h1
        have e1 : ownIds x ++ x.rows.flatMap (idsR N) = idsI N x := by simp [ownIds, idsI, k7]
        rw [e1] at h3
        exact ⟨h3, hform, hh, by rw [hform.1 (by omega)]; exact okc_nil _ _, fun _ => h2.1, h2.2⟩
      · simp [go_sem, k6, k7]
  · refine SP_of ?_
    simp [go_sem]
    refine hK.ret hn ho 0 q (fun _ => ?_) look_same
    have e1 : ownIds x = idsI N x := by simp [ownIds, idsI, hk.1, hk.2]
    rw [e1] at hmo
    exact ⟨hmo, hform, hh, by rw [hform.1 hk.1]; exact okc_nil _ _, fun h => absurd h hk.2, by rw [hform.2.1 hk.2]; simp⟩
end
def trW2 : Tr := .pure 0 <| .pure 1 <| .pure 2 <| .pure 4 <| .pure 5 <| .pure 6 <| .pure 7 <| .pure 9 <| .pure 10 <| .pure 11 <| .pure 12 <| .one 3 <| .one 8 <| .one 13 <| .one 14 <| .one 15 <| .one 16 .nil
section
variable {K : Ck} {n0 : Nat}
def idsC (N : Nat) (c : Cell) : List Int := c.id :: idsN N c.flow
theorem idsR_eq (N : Nat) (r : Row) : idsR N r = r.cells.flatMap (idsC N) := rfl
def okcl (m2 : List Int) (N : Nat) (c : Cell) : Prop := headOK m2 c.head ∧ okc m2 N c.flow
theorem more.trans' {s s1 s2 : CkS} {a b c : List Int} (h : more s s1 a) (g : more s1 s2 b) (e : a ++ b = c) : more s s2 c := by subst e; exact h.trans g
theorem firstE_head {a : Int} {l : List Int} (h : firstE (a :: l) = 0) : a = 0 := by
  rw [firstE] at h
  by_cases g : a = 0
  · exact g
  · rw [if_neg g] at h; exact h
theorem firstE_two {a b : Int} {l : List Int} (h : firstE (a :: b :: l) = 0) : a = 0 ∧ b = 0 := by
  have h1 := firstE_head h
  rw [firstE, if_pos h1] at h
  exact ⟨h1, firstE_head h⟩
set_option maxHeartbeats 4000000 in
theorem d224 (hK : K.ok n0) (N : Nat) (l : List Row) (hl : l.length ≤ 1048576) (hr : ∀ r ∈ l, r.head.sized ∧ r.cells.length ≤ 1048576 ∧ ∀ c ∈ r.cells, c.head.sized ∧ ItemsC K n0 N c.flow) : RowsC K n0 N l := fun s pl H n hn hs => by
  refine goS Tryz.func203 rfl (by kernel_rfl) (by kernel_rfl) (by simp [go_sem]) fun ho => ?_
  have D := hK.clo
  have hU : ∀ s', Old (upS K.st s' H) n := fun s' => D.old s' hn ho
  have hUb : ∀ s' j y, upS K.st s' H j = some y → j < n := fun s' j y e => (hU s' j y e).1
  obtain ⟨T, hT⟩ : ∃ T, T = moreT s (l.flatMap (idsR N)) (l ≠ [] ∧ ∀ r ∈ l, okr K.m2 N r) := ⟨_, rfl⟩
  rw [← hT]
  have no : ∀ (e : Int) (s' : CkS) (m : Nat), e ≠ 0 → RetS n (upS K.st s' H) m (intE e) (CQ K T H n) := fun e s' m he => hK.ret hn ho e s' (by rw [hT]; exact fun g => absurd g he) look_same
  refine SP_mid 1 (α := Unit) (fun _ => [(0, .ptr K.p 0), (1, rowsE l), (5, .iptr [.bool pl.body, .bool pl.note, intE pl.tables])]) (fun _ => upS K.st s H) (fun _ m => n ≤ m) ?_ (fun _ m hm => ?_)
  · rw [upS_self s H hs]
    have hHb : ∀ j y, H j = some y → j < n := fun j y e => (ho j y e).1
    simp [go_sem, Fz.same, Place.enc]
    exact ⟨ptr_fz (lt_none hHb (by omega)) (by simp [hset]), set_keep hHb look_same⟩
  refine SP_midS 0 (α := Unit) (fun _ => [(0, .ptr K.p 0), (1, rowsE l), (5, .iptr [.bool pl.body, .bool pl.note, intE pl.tables])]) (fun _ => upS K.st s H) (fun _ m => n ≤ m ∧ l ≠ []) (SP_of ?_) (fun _ m hm => ?_)
  · by_cases c : l = []
    · simp [go_sem, c]; exact no 11 _ _ (by decide)
    · simp [go_sem, c, Fz.same, hm]
  obtain ⟨hm, hne⟩ := hm
  refine SP_midS 0 (α := Unit) (fun _ => [(0, .ptr K.p 0), (1, rowsE l), (5, .iptr [.bool pl.body, .bool pl.note, intE pl.tables])]) (fun _ => upS K.st s H) (fun _ m => n ≤ m) (SP_of ?_) (fun _ m hm => ?_)
  · by_cases c : (256 : Int) < l.length
    · simp [go_sem, c]; exact no 9 _ _ (by decide)
    · simp [go_sem, c, Fz.same, hm]
  refine SP_midS 0 (α := CkS) (fun _ => []) (fun q => upS K.st q H) (fun q m => n ≤ m ∧ more s q (l.flatMap (idsR N)) ∧ ∀ r ∈ l, okr K.m2 N r) ?_ (fun q m hm => ?_)
  · refine SP_mid 0 (α := Unit) (fun _ => [(0, .ptr K.p 0), (5, .iptr [.bool pl.body, .bool pl.note, intE pl.tables]), (21, rowsE l), (22, intE l.length), (23, intE 0)]) (fun _ => upS K.st s H) (fun _ m => n ≤ m) ?_ (fun _ m hm => ?_)
    · simp [go_sem, Fz.same, hm]
    refine SP_block (goloopS 0 (α := Nat × CkS) (fun q => [(0, .ptr K.p 0), (5, .iptr [.bool pl.body, .bool pl.note, intE pl.tables]), (21, rowsE l), (22, intE l.length), (23, intE q.1)]) (fun q => upS K.st q.2 H) (fun q m => q.1 ≤ l.length ∧ n ≤ m ∧ more s q.2 ((l.take q.1).flatMap (idsR N)) ∧ ∀ r ∈ l.take q.1, okr K.m2 N r) (fun q => l.length - q.1) (0, s) ⟨Nat.zero_le _, hm, more.nil rfl, by simp⟩ ?_ look_same ?_)
    · simp [go_sem, look, Fz.same]
    rintro ⟨i, s1⟩ m ⟨hi, hm, hmo, hok⟩
    dsimp only at hi hmo hok ⊢
    by_cases hlt : i < l.length
    · obtain ⟨x, hx⟩ : ∃ x, l[i] = x := ⟨_, rfl⟩
      have hxm : x ∈ l := by rw [← hx]; exact List.getElem_mem hlt
      obtain ⟨x1, x2, x3⟩ := hr x hxm
      have hgx : (l.map Row.enc)[i]? = some x.enc := by simp [hlt, hx]
      have w1 : IntKind.i64.wrap ((i : Int) + 1) = ((i + 1 : Nat) : Int) := by rw [wr64] <;> omega
      have tk := take_flatMap (idsR N) l i hlt
      rw [hx] at tk
      have tl : l.take (i + 1) = l.take i ++ [x] := by rw [List.take_succ_eq_append_getElem hlt, hx]
      refine SP_mid 0 (α := Unit) (fun _ => [(0, .ptr K.p 0), (5, .iptr [.bool pl.body, .bool pl.note, intE pl.tables]), (21, rowsE l), (22, intE l.length), (23, intE i), (24, .bool true)]) (fun _ => upS K.st s1 H) (fun _ m => n ≤ m) ?_ (fun _ m hm => ?_)
      · simp [go_sem, Fz.same, hm, hlt]
      refine SP_mid 0 (α := Unit) (fun _ => [(0, .ptr K.p 0), (5, .iptr [.bool pl.body, .bool pl.note, intE pl.tables]), (21, rowsE l), (22, intE l.length), (23, intE i)]) (fun _ => upS K.st s1 H) (fun _ m => n ≤ m) ?_ (fun _ m hm => ?_)
      · simp [go_sem, Fz.same, hm]
      refine SP_midS 0 (α := CkS) (fun _ => [(0, .ptr K.p 0), (5, .iptr [.bool pl.body, .bool pl.note, intE pl.tables]), (21, rowsE l), (22, intE l.length), (23, intE i)]) (fun q => upS K.st q H) (fun q m => n ≤ m ∧ more s q ((l.take (i + 1)).flatMap (idsR N)) ∧ okr K.m2 N x) ?_ (fun q m hm => ?_)
      · refine SP_block ?_
        refine SP_mid 1 (α := Unit) (fun _ => [(0, .ptr K.p 0), (5, .iptr [.bool pl.body, .bool pl.note, intE pl.tables]), (21, rowsE l), (22, intE l.length), (23, intE i), (8, .iptr (x.head.flat ++ [cellsE x.cells]))]) (fun _ => upS K.st s1 H) (fun _ m => n ≤ m) ?_ (fun _ m hm => ?_)
        · simp [go_sem, Fz.same, hlt, hx, Row.enc_eq, Head.flat, hset_at]
          have hHm : ∀ j y, upS K.st s1 H j = some y → j < m := fun j y e => by have := hUb _ j y e; omega
          exact ⟨by omega, ptr_fz (lt_none hHm (Nat.le_refl _)) (hset_at _ _ _), set_keep hHm (set_keep hHm look_same)⟩
        have hd := d86 hK s1 9 x.head x1 (H := upS K.st s1 H) (n := m) (by omega) has_up
        refine SP_midS 0 (α := Unit) (fun _ => [(0, .ptr K.p 0), (5, .iptr [.bool pl.body, .bool pl.note, intE pl.tables]), (21, rowsE l), (22, intE l.length), (23, intE i), (8, .iptr (x.head.flat ++ [cellsE x.cells]))]) (fun _ => upS K.st s1 H) (fun _ m => n ≤ m ∧ headOK K.m2 x.head ∧ x.cells ≠ []) ?_ (fun _ m hm => ?_)
        · refine SP_midS 0 (α := Int × CkS) (fun q => [(0, .ptr K.p 0), (5, .iptr [.bool pl.body, .bool pl.note, intE pl.tables]), (21, rowsE l), (22, intE l.length), (23, intE i), (8, .iptr (x.head.flat ++ [cellsE x.cells])), (9, intE q.1)]) (fun q => upS K.st q.2 H) (fun q m => n ≤ m ∧ (q.1 = 0 → q.2 = s1 ∧ headOK K.m2 x.head ∧ x.cells ≠ [])) (SP_tr trW2 rfl (by kernel_rfl) (by kernel_rfl) ?_) (fun q m hm => ?_)
          · simp [go_sem, trW2, Head.flat]
            refine SC.use (by simpa [Head.enc, Head.flat] using hd) ?_
            rintro v H' n' ⟨e, s2, rfl, hT, rfl, rfl⟩
            rw [D.up2]
            simp [go_sem]
            refine (c87 _ _).use ?_
            simp [go_sem]
            refine (c87 _ _).use ?_
            simp [go_sem]
            have hea : (if x.cells = [] then (11 : Int) else 0) = 0 → x.cells ≠ [] := fun g => by intro c; rw [if_pos c] at g; cases g
            generalize (if x.cells = [] then (11 : Int) else 0) = ea at hea ⊢
            generalize (if 32 < (x.cells.length : Int) then (9 : Int) else 0) = eb
            refine SCallE.fz (bs := [.imm 1 ([e, ea, eb].map intE) false]) (h2 := upS K.st s2 H) 1 (set_keep (fun j z e => by have := hUb s2 j z e; omega) look_same) ⟨?_, trivial⟩ ?_
            · exact sl_fz (es := [intE e, intE ea, intE eb]) (lt_none (hUb s2) hm) (by simp) (by rw [hset_at]; simp [SV.cells]) (by simp [SV.storable, SV.cells])
            refine (c82 _ (by simp)).use ?_
            generalize hf : firstE [e, ea, eb] = ef
            simp [go_sem, Fz.same]
            exact ⟨ef, s2.1, s2.2, ⟨by omega, fun h0 => by obtain ⟨g1, g2⟩ := firstE_two (by rw [hf]; exact h0); obtain ⟨t1, t2⟩ := hT g1; exact ⟨t1, t2, hea g2⟩⟩, Fz.same, look_same⟩
          obtain ⟨e8, s8⟩ := q
          dsimp only at hm ⊢
          by_cases e80 : e8 = 0
          case neg => exact SP_of (by simp [go_sem, e80]; exact no e8 _ _ e80)
          obtain ⟨h81, hhd⟩ := hm.2 e80
          rw [e80, h81]
          exact SP_of (by simp [go_sem, Fz.same, hm.1, hhd])
        obtain ⟨hm, hhd⟩ := hm
        refine SP_mid 0 (α := Unit) (fun _ => [(0, .ptr K.p 0), (5, .iptr [.bool pl.body, .bool pl.note, intE pl.tables]), (21, rowsE l), (22, intE l.length), (23, intE i), (47, cellsE x.cells), (48, intE x.cells.length), (49, intE 0)]) (fun _ => upS K.st s1 H) (fun _ m => n ≤ m) ?_ (fun _ m hm => ?_)
        · simp [go_sem, Fz.same, Head.flat, hm]
        refine SP_block (goloopS 0 (α := Nat × CkS) (fun q => [(0, .ptr K.p 0), (5, .iptr [.bool pl.body, .bool pl.note, intE pl.tables]), (21, rowsE l), (22, intE l.length), (23, intE i), (47, cellsE x.cells), (48, intE x.cells.length), (49, intE q.1)]) (fun q => upS K.st q.2 H) (fun q m => q.1 ≤ x.cells.length ∧ n ≤ m ∧ more s1 q.2 ((x.cells.take q.1).flatMap (idsC N)) ∧ ∀ c ∈ x.cells.take q.1, okcl K.m2 N c) (fun q => x.cells.length - q.1) (0, s1) ⟨Nat.zero_le _, hm, more.nil rfl, by simp⟩ ?_ look_same ?_)
        · simp [go_sem, look, Fz.same]
        rintro ⟨j, s2⟩ m ⟨hj, hm, hmo2, hok2⟩
        dsimp only at hj hmo2 hok2 ⊢
        by_cases hjt : j < x.cells.length
        · obtain ⟨y, hy⟩ : ∃ y, x.cells[j] = y := ⟨_, rfl⟩
          have hym : y ∈ x.cells := by rw [← hy]; exact List.getElem_mem hjt
          obtain ⟨y1, y2⟩ := x3 y hym
          have w2 : IntKind.i64.wrap ((j : Int) + 1) = ((j + 1 : Nat) : Int) := by rw [wr64] <;> omega
          have tk2 := take_flatMap (idsC N) x.cells j hjt
          rw [hy] at tk2
          have tl2 : x.cells.take (j + 1) = x.cells.take j ++ [y] := by rw [List.take_succ_eq_append_getElem hjt, hy]
          refine SP_mid 0 (α := Unit) (fun _ => [(0, .ptr K.p 0), (5, .iptr [.bool pl.body, .bool pl.note, intE pl.tables]), (21, rowsE l), (22, intE l.length), (23, intE i), (47, cellsE x.cells), (48, intE x.cells.length), (49, intE j), (50, .bool true)]) (fun _ => upS K.st s2 H) (fun _ m => n ≤ m) ?_ (fun _ m hm => ?_)
          · simp [go_sem, Fz.same, hm, hjt]
          refine SP_mid 0 (α := Unit) (fun _ => [(0, .ptr K.p 0), (5, .iptr [.bool pl.body, .bool pl.note, intE pl.tables]), (21, rowsE l), (22, intE l.length), (23, intE i), (47, cellsE x.cells), (48, intE x.cells.length), (49, intE j)]) (fun _ => upS K.st s2 H) (fun _ m => n ≤ m) ?_ (fun _ m hm => ?_)
          · simp [go_sem, Fz.same, hm]
          refine SP_midS 0 (α := CkS) (fun _ => [(0, .ptr K.p 0), (5, .iptr [.bool pl.body, .bool pl.note, intE pl.tables]), (21, rowsE l), (22, intE l.length), (23, intE i), (47, cellsE x.cells), (48, intE x.cells.length), (49, intE j)]) (fun q => upS K.st q H) (fun q m => n ≤ m ∧ more s2 q (idsC N y) ∧ okcl K.m2 N y) ?_ (fun q m hm => ?_)
          · refine SP_block ?_
            refine SP_mid 1 (α := Unit) (fun _ => [(0, .ptr K.p 0), (5, .iptr [.bool pl.body, .bool pl.note, intE pl.tables]), (21, rowsE l), (22, intE l.length), (23, intE i), (47, cellsE x.cells), (48, intE x.cells.length), (49, intE j), (11, .iptr ([intE y.id] ++ y.head.flat ++ [itemsE y.flow]))]) (fun _ => upS K.st s2 H) (fun _ m => n ≤ m) ?_ (fun _ m hm => ?_)
            · simp [go_sem, Fz.same, hjt, hy, Cell.enc_eq, Head.flat, hset_at]
              have hHm : ∀ j y, upS K.st s2 H j = some y → j < m := fun j y e => by have := hUb _ j y e; omega
              exact ⟨by omega, ptr_fz (lt_none hHm (Nat.le_refl _)) (hset_at _ _ _), set_keep hHm (set_keep hHm look_same)⟩
            refine SP_midS 0 (α := CkS) (fun _ => [(0, .ptr K.p 0), (5, .iptr [.bool pl.body, .bool pl.note, intE pl.tables]), (21, rowsE l), (22, intE l.length), (23, intE i), (47, cellsE x.cells), (48, intE x.cells.length), (49, intE j), (11, .iptr ([intE y.id] ++ y.head.flat ++ [itemsE y.flow]))]) (fun q => upS K.st q H) (fun q m => n ≤ m ∧ more s2 q [y.id]) (SP_of ?_) (fun q m hm => ?_)
            · simp [go_sem]
              refine SC.use (d223 hK s2 y.id (by omega) has_up) ?_
              rintro v H' n' ⟨e, s3, rfl, hT, rfl, rfl⟩
              rw [D.up2]
              by_cases e0 : e = 0
              · obtain ⟨h1, h2, h3, h4⟩ := hT e0
                simp [go_sem, e0, Fz.same, Head.flat]
                refine ⟨s3.1, s3.2, ⟨by omega, ?_⟩, look_same⟩
                exact more.one h1 ⟨h2, h3⟩ h4
              · simp [go_sem, e0]
                exact no e _ _ e0
            obtain ⟨hm, hq1⟩ := hm
            refine SP_midS 0 (α := Unit) (fun _ => [(0, .ptr K.p 0), (5, .iptr [.bool pl.body, .bool pl.note, intE pl.tables]), (21, rowsE l), (22, intE l.length), (23, intE i), (47, cellsE x.cells), (48, intE x.cells.length), (49, intE j), (11, .iptr ([intE y.id] ++ y.head.flat ++ [itemsE y.flow]))]) (fun _ => upS K.st q H) (fun _ m => n ≤ m ∧ headOK K.m2 y.head) (SP_of ?_) (fun _ m hm => ?_)
            · simp [go_sem, Head.flat]
              refine SC.use (by simpa [Head.enc, Head.flat] using d86 hK q 10 y.head y1 (H := upS K.st q H) (n := m) (by omega) has_up) ?_
              rintro v H' n' ⟨e, s3, rfl, hT, rfl, rfl⟩
              rw [D.up2]
              by_cases e0 : e = 0
              · obtain ⟨h1, h2⟩ := hT e0
                simp [go_sem, e0, Fz.same, h1, h2]; omega
              · simp [go_sem, e0]
                exact no e _ _ e0
            obtain ⟨hm, hh2⟩ := hm
            refine SP_of ?_
            simp [go_sem, Head.flat]
            refine SC.use (by simpa [Place.enc] using y2 q pl (upS K.st q H) m (by omega) has_up) ?_
            rintro v H' n' ⟨e, s3, rfl, hT, rfl, rfl⟩
            rw [D.up2]
            by_cases e0 : e = 0
            · obtain ⟨h1, h2⟩ := hT e0
              simp [go_sem, e0, Fz.same]
              refine ⟨s3.1, s3.2, ⟨by omega, ?_, hh2, h2⟩, look_same⟩
              exact hq1.trans' h1 rfl
            · simp [go_sem, e0]
              exact no e _ _ e0
          · refine SP_of ?_
            simp [go_sem, w2, Fz.same, -Int.natCast_add]
            refine ⟨j + 1, by omega, q.1, q.2, ⟨by omega, hm.1, hmo2.trans' hm.2.1 tk2.symm, fun c hc => ?_⟩, rfl, look_same⟩
            rw [tl2] at hc
            exact all_push hok2 hm.2.2 c hc
        · have : j = x.cells.length := by omega
          subst this
          rw [List.take_length] at hmo2 hok2
          refine SP_of ?_
          simp [go_sem, Fz.same]
          refine ⟨s2.1, s2.2, ⟨hm, ?_, hhd, hok2⟩, look_same⟩
          exact hmo.trans' hmo2 (by rw [tk, idsR_eq])
      · refine SP_of ?_
        simp [go_sem, w1, Fz.same, -Int.natCast_add]
        refine ⟨i + 1, by omega, q.1, q.2, ⟨by omega, hm.1, hm.2.1, fun r hr => ?_⟩, rfl, look_same⟩
        rw [tl] at hr
        exact all_push hok hm.2.2 r hr
    · have : i = l.length := by omega
      subst this
      rw [List.take_length] at hmo hok
      refine SP_of ?_
      simp [go_sem]
      exact ⟨s1.1, s1.2, ⟨hm, hmo, hok⟩, look_same⟩
  · refine SP_of ?_
    simp [go_sem]
    exact hK.ret hn ho 0 q (by rw [hT]; exact fun _ => ⟨hm.2.1, hne, hm.2.2⟩) look_same
end
theorem cItems {K : Ck} {n0 : Nat} (hK : K.ok n0) {B : Nat} (hB : B ≤ 1048576) : ∀ (N : Nat) (l : List Item), lim Head.sized B N l → ItemsC K n0 N l
  | 0, _, h => h.elim
  | N + 1, l, h => by
    have hs := h.sized (fun _ e => e) hB
    obtain ⟨_, _, h3⟩ := lim_iff.1 h
    refine d88 hK N l hs.1 fun x hx => ?_
    obtain ⟨a1, a2, a3, a4⟩ := h3 x hx
    refine d161 hK N x (Item.sizedL_mem hs.2 x hx) (cItems hK hB N x.flow a2) (d224 hK N x.rows (by omega) fun r hr => ?_)
    obtain ⟨b1, b2, b3⟩ := a4 r hr
    exact ⟨b1, by omega, fun c hc => ⟨(b3 c hc).1, cItems hK hB N c.flow (b3 c hc).2⟩⟩
end Go.Proofs.YthinbkgpjmjfeaaGreatDoor.Sh
