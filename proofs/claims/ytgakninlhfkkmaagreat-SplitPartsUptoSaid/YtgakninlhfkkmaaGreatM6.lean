/- SplitPartsUptoSaid: a part of its proof (part 6 of 14). -/
import Derived.Test.YtgakninlhfkkmaaGreatM5
namespace Go.Proofs.YtgakninlhfkkmaaGreat.Sh
open Proofs
set_option maxRecDepth 10000
theorem MX {l : List AE} {x : AE} (h : x ∈ l) : SizeOf.sizeOf x.flow < SizeOf.sizeOf l := by
 have := List.sizeOf_lt_of_mem h
 cases x; simp only [AE.flow, AE.mk.sizeOf_spec] at *; omega
theorem MM {l : List AE} {x : AE} {r : AS} {c : AK} (h : x ∈ l) (hr : r ∈ x.rows) (hc : c ∈ r.cells) : SizeOf.sizeOf c.flow < SizeOf.sizeOf l := by
 have h1 := List.sizeOf_lt_of_mem h
 have h2 := List.sizeOf_lt_of_mem hr
 have h3 := List.sizeOf_lt_of_mem hc
 cases x; cases r; cases c
 simp only [AE.rows, AS.cells, AK.flow, AE.mk.sizeOf_spec, AS.mk.sizeOf_spec, AK.mk.sizeOf_spec] at *; omega
section
variable {E : Bl} {yl : Nat} {xs : List Fl} {J : Nat → (Nat → Prop) → Hp → Nat → Prop} {Jx : (Nat → Prop) → Hp → Nat → Prop}
theorem c248 (Y : YJ E yl Fl.enc xs J Jx) : ∀ (N : Nat) (l : List AE), SizeOf.sizeOf l < N → l.length ≤ 1048576 → AE.sizedL l → ∀ (id : Int) (p : BT) (k : Nat) (D : Nat → Prop) (h : Hp) (m : Nat), J k D h m → Q3 xs k (CA id l p) →
 Ag E Tryz.prog 248 [AA id, AG l, p.enc, .fn (.yield yl) [] []] h m (HG (J (k + (CA id l p).length)) Jx D h m) := by
 intro N
 induction N with
 | zero => intro l h; omega
 | succ N ih =>
 intro l hN hl hs id p k D h m hJ hseg
 obtain ⟨hx0, hseg'⟩ := hseg.head
 refine gq Tryz.func248 rfl fun ho => ?_
 simp [go_sem, BT.enc, AC]
 have hD : ∀ o, D o → o < m := Y.lt k D h m hJ
 have hJ1 : J k D (hset h m (some (.cells [.bool p.body, .bool p.note, AA p.tables]))) (m + 1) := Y.keep k D h m _ _ hJ (by omega) fun o hDo => AD _ _ (by have := hD o hDo; omega)
 have M0 : JZ J D h m [(m, .cells [.bool p.body, .bool p.note, AA p.tables])] k D (hset h m (some (.cells [.bool p.body, .bool p.note, AA p.tables]))) (m + 1) :=
  ⟨by omega, hJ1, by simp [AC]; exact fun g => absurd (hD m g) (by omega), fun o g => .inl g, fun o _ g => AD _ _ (by omega)⟩
 refine Ez.mono (Y.step k _ D _ _ hx0 hJ1) ?_
 intro v h1 m1 W
 rcases M0.step (Nat.le_refl _) (fun _ _ => rfl) W with ⟨rfl, D1, M1⟩ | ⟨rfl, hX⟩
 · simp [go_sem]
   refine An 1 (α := Nat × (Nat → Prop) × Hp) (fun q => [(3, .fn (.yield yl) [] []), (6, .ptr m 0), (22, AG l), (23, AA l.length), (24, AA q.1)]) (fun q => q.2.2)
    (fun q m' => q.1 ≤ l.length ∧ JZ J D h m [(m, .cells [.bool p.body, .bool p.note, AA p.tables])] (k + 1 + (AE.flL p (l.take q.1)).length) q.2.1 q.2.2 m') (fun q => l.length - q.1) (0, D1, h1) ?_ ?_ AB ?_
   · exact ⟨Nat.zero_le _, by simpa [AE.flL] using M1⟩
   · simp [Ai]
   rintro ⟨i, D2, h2⟩ m2 ⟨hi, M2⟩
   dsimp only at hi M2 ⊢
   obtain ⟨hp2, _, hne, _⟩ := M2.own _ (List.mem_singleton.2 rfl)
   dsimp only at hp2 hne
   have hne' : m ≠ m2 := by omega
   by_cases hlt : i < l.length
   · have w1 := wS i (by omega)
     obtain ⟨x, hx⟩ : ∃ x, l[i] = x := ⟨_, rfl⟩
     have hxm : x ∈ l := by rw [← hx]; exact List.getElem_mem hlt
     have hxs := AE.sizedL_mem hs x hxm
     obtain ⟨r, hfl1, hfl2⟩ := AE.flL_take p l i hlt
     rw [hx] at hfl1 hfl2
     have hcnt : k + 1 + (AE.flL p (l.take (i + 1))).length = k + 1 + (AE.flL p (l.take i)).length + (AE.fl p x).length := by rw [hfl2]; simp; omega
     have hsegx : Q3 xs (k + 1 + (AE.flL p (l.take i)).length) (AE.fl p x) := by rw [hfl1] at hseg'; exact (hseg'.app).2.app.1
     have IB : ∀ y z, ∀ o, o < m2 → (hset (hset h2 m2 y) m2 z) o = h2 o := fun y z o g => by rw [AD _ _ (by omega), AD _ _ (by omega)]
     by_cases k6 : x.kind = 6
     · have hfx : AE.fl p x = CA x.id x.flow p.inNote := by cases x; simp only [AE.kind] at k6; simp [AE.fl, k6, CA, AE.id, AE.flow]
       have hxf : x.flow.length ≤ 1048576 ∧ AE.sizedL x.flow := by cases x; rw [AE.sized] at hxs; exact ⟨hxs.2.2.1, hxs.2.2.2.2.1⟩
       simp [go_sem, hlt, hx, AE.enc_eq, AC, AD, k6, hp2, hne']
       refine Ag.mono (ih x.flow (by have := MX hxm; omega) hxf.1 hxf.2 x.id p.inNote _ D2 _ _ (M2.keep Y (Nat.le_succ m2) (IB _ _)) (by rw [← hfx]; exact hsegx)) ?_
       intro v h3 m3 W
       rcases M2.step (Nat.le_succ m2) (IB _ _) W with ⟨rfl, D3, M3⟩ | ⟨rfl, hX⟩
       · simp [go_sem, w1, -Int.natCast_add]
         exact ⟨i + 1, by omega, D3, h3, ⟨by omega, by rw [hcnt, hfx]; exact M3⟩, Fz.same, AB⟩
       · simp [go_sem]
         exact .inl (JZ.any hX)
     · by_cases k7 : x.kind = 7
       · simp [go_sem, hlt, hx, AE.enc_eq, AC, k7]
         have hfx : AE.fl p x = AS.flL p.inTable x.rows := by cases x; simp only [AE.kind] at k6 k7; simp [AE.fl, k7, AE.rows]
         have hxr : x.rows.length ≤ 1048576 ∧ AS.sizedL x.rows := by cases x; rw [AE.sized] at hxs; exact ⟨hxs.2.2.2.1, hxs.2.2.2.2.2⟩
         rw [hfx] at hsegx hcnt
         generalize hk' : k + 1 + (AE.flL p (l.take i)).length = k' at hsegx hcnt M2
         refine An 1 (α := Nat × (Nat → Prop) × Hp) (fun q => [(3, .fn (.yield yl) [] []), (6, .ptr m 0), (22, AG l), (23, AA l.length), (24, AA i), (45, Ay x.rows), (46, AA x.rows.length), (47, AA q.1)]) (fun q => q.2.2)
          (fun q m' => q.1 ≤ x.rows.length ∧ JZ J D h m [(m, .cells [.bool p.body, .bool p.note, AA p.tables])] (k' + (AS.flL p.inTable (x.rows.take q.1)).length) q.2.1 q.2.2 m') (fun q => x.rows.length - q.1) (0, D2, _) ?_ ?_ AB ?_
         · exact ⟨Nat.zero_le _, by dsimp only; rw [List.take_zero, AS.flL]; exact M2.more Y (Nat.le_succ m2) (IB _ _)⟩
         · simp [Ai]
         clear IB
         rintro ⟨j, D3, h3⟩ m3 ⟨hj, M3⟩
         dsimp only at hj M3 ⊢
         obtain ⟨hp3, _, hne3, _⟩ := M3.own _ (List.mem_singleton.2 rfl)
         dsimp only at hp3 hne3
         have hne3' : m ≠ m3 := by omega
         by_cases hjt : j < x.rows.length
         · have w2 := wS j (by omega)
           obtain ⟨y, hy⟩ : ∃ y, x.rows[j] = y := ⟨_, rfl⟩
           have hym : y ∈ x.rows := by rw [← hy]; exact List.getElem_mem hjt
           have hys := AS.sizedL_mem hxr.2 y hym
           obtain ⟨r2, hr1, hr2⟩ := AS.flL_take p.inTable x.rows j hjt
           rw [hy] at hr1 hr2
           have hcnt2 : k' + (AS.flL p.inTable (x.rows.take (j + 1))).length = k' + (AS.flL p.inTable (x.rows.take j)).length + (AS.fl p.inTable y).length := by rw [hr2]; simp; omega
           have hsegy : Q3 xs (k' + (AS.flL p.inTable (x.rows.take j)).length) (AS.fl p.inTable y) := by rw [hr1] at hsegx; exact (hsegx.app).2.app.1
           have hfy : AS.fl p.inTable y = AK.flL p.inTable y.cells := by cases y; simp [AS.fl, AS.cells]
           have hyc : y.cells.length ≤ 1048576 ∧ AK.sizedL y.cells := by cases y; rw [AS.sized] at hys; exact ⟨hys.2.1, hys.2.2⟩
           rw [hfy] at hsegy hcnt2
           have RZ : ∀ y z, ∀ o, o < m3 → (hset (hset h3 m3 y) m3 z) o = h3 o := fun y z o g => by rw [AD _ _ (by omega), AD _ _ (by omega)]
           simp [go_sem, hjt, hy, AS.enc_eq, AC]
           generalize hk2 : k' + (AS.flL p.inTable (x.rows.take j)).length = k2 at hsegy hcnt2 M3
           refine An 1 (α := Nat × (Nat → Prop) × Hp) (fun q => [(3, .fn (.yield yl) [] []), (6, .ptr m 0), (22, AG l), (23, AA l.length), (24, AA i), (45, Ay x.rows), (46, AA x.rows.length), (47, AA j), (52, Bt y.cells), (53, AA y.cells.length), (54, AA q.1)]) (fun q => q.2.2)
            (fun q m' => q.1 ≤ y.cells.length ∧ JZ J D h m [(m, .cells [.bool p.body, .bool p.note, AA p.tables])] (k2 + (AK.flL p.inTable (y.cells.take q.1)).length) q.2.1 q.2.2 m') (fun q => y.cells.length - q.1) (0, D3, _) ?_ ?_ AB ?_
           · exact ⟨Nat.zero_le _, by dsimp only; rw [List.take_zero, AK.flL]; exact M3.more Y (Nat.le_succ m3) (RZ _ _)⟩
           · simp [Ai]
           clear RZ
           rintro ⟨q, D4, h4⟩ m4 ⟨hq, M4⟩
           dsimp only at hq M4 ⊢
           obtain ⟨hp4, _, hne4, _⟩ := M4.own _ (List.mem_singleton.2 rfl)
           dsimp only at hp4 hne4
           have hne4' : m ≠ m4 := by omega
           by_cases hqt : q < y.cells.length
           · have w3 := wS q (by omega)
             obtain ⟨z, hz⟩ : ∃ z, y.cells[q] = z := ⟨_, rfl⟩
             have hzm : z ∈ y.cells := by rw [← hz]; exact List.getElem_mem hqt
             have hzs := AK.sizedL_mem hyc.2 z hzm
             obtain ⟨r3, hc1, hc2⟩ := AK.flL_take p.inTable y.cells q hqt
             rw [hz] at hc1 hc2
             have hfz : AK.fl p.inTable z = CA z.id z.flow p.inTable := by cases z; simp [AK.fl, CA, AK.id, AK.flow]
             have hcnt3 : k2 + (AK.flL p.inTable (y.cells.take (q + 1))).length = k2 + (AK.flL p.inTable (y.cells.take q)).length + (CA z.id z.flow p.inTable).length := by rw [hc2, hfz]; simp; omega
             have hsegz : Q3 xs (k2 + (AK.flL p.inTable (y.cells.take q)).length) (CA z.id z.flow p.inTable) := by rw [hc1, hfz] at hsegy; exact (hsegy.app).2.app.1
             have hzf : z.flow.length ≤ 1048576 ∧ AE.sizedL z.flow := by cases z; rw [AK.sized] at hzs; exact ⟨hzs.2.1, hzs.2.2⟩
             have hb4 : ∀ y z, ∀ o, o < m4 → (hset (hset h4 m4 y) m4 z) o = h4 o := fun y z o g => by rw [AD _ _ (by omega), AD _ _ (by omega)]
             simp [go_sem, hqt, hz, AK.enc_eq, AC, AD, hp4, hne4']
             refine Ag.mono (ih z.flow (by have := MM hxm hym hzm; omega) hzf.1 hzf.2 z.id p.inTable _ D4 _ _ (M4.keep Y (Nat.le_succ m4) (hb4 _ _)) hsegz) ?_
             intro v h5 m5 W
             rcases M4.step (Nat.le_succ m4) (hb4 _ _) W with ⟨rfl, D5, M5⟩ | ⟨rfl, hX⟩
             · simp [go_sem, w3, -Int.natCast_add]
               exact ⟨q + 1, by omega, D5, h5, ⟨by omega, by rw [hcnt3]; exact M5⟩, Fz.same, AB⟩
             · simp [go_sem]
               exact .inl (JZ.any hX)
           · have : q = y.cells.length := by omega
             subst this
             rw [List.take_length] at M4
             simp [go_sem, w2, -Int.natCast_add]
             exact ⟨j + 1, by omega, D4, h4, ⟨by omega, by rw [hcnt2]; exact M4⟩, Fz.same, AB⟩
         · have : j = x.rows.length := by omega
           subst this
           rw [List.take_length] at M3
           simp [go_sem, w1, -Int.natCast_add]
           exact ⟨i + 1, by omega, D3, h3, ⟨by omega, by rw [hcnt]; exact M3⟩, Fz.same, AB⟩
       · have hfx : AE.fl p x = [] := by cases x; simp only [AE.kind] at k6 k7; simp [AE.fl, k6, k7]
         simp [go_sem, hlt, hx, AE.enc_eq, AC, k6, k7, w1, -Int.natCast_add]
         exact ⟨i + 1, by omega, D2, _, ⟨by omega, by rw [hcnt, hfx]; exact M2.more Y (Nat.le_succ m2) (IB _ _)⟩, Fz.same, AB⟩
   · have : i = l.length := by omega
     subst this
     simp [go_sem]
     rw [List.take_length] at M2
     exact .inl (by have := M2.done (Jx := Jx); simpa [CA, Nat.add_assoc, Nat.add_comm 1] using this)
 · simp [go_sem]
   exact .inl (JZ.any hX)
end
def Fl.ok (f : Fl) : Prop := f.items.length ≤ 1048576 ∧ AE.sizedL f.items
mutual
theorem AE.fl_ok (p : BT) : ∀ x : AE, x.sized → ∀ f ∈ AE.fl p x, f.ok
 | .mk k c i t hd f r, hs => by
  rw [AE.sized] at hs
  rw [AE.fl]
  split
  · intro g hg
    rcases List.mem_cons.1 hg with rfl | hg
    · exact ⟨hs.2.2.1, hs.2.2.2.2.1⟩
    · exact AE.flL_ok p.inNote f hs.2.2.2.2.1 g hg
  · split
    · exact AS.flL_ok p.inTable r hs.2.2.2.2.2
    · simp
theorem AE.flL_ok (p : BT) : ∀ l : List AE, AE.sizedL l → ∀ f ∈ AE.flL p l, f.ok
 | [], _ => by simp [AE.flL]
 | x :: l, hs => by
  rw [AE.sizedL] at hs
  intro g hg
  rw [AE.flL] at hg
  rcases List.mem_append.1 hg with hg | hg
  · exact AE.fl_ok p x hs.1 g hg
  · exact AE.flL_ok p l hs.2 g hg
theorem AS.fl_ok (p : BT) : ∀ x : AS, x.sized → ∀ f ∈ AS.fl p x, f.ok
 | .mk hd c, hs => by rw [AS.sized] at hs; rw [AS.fl]; exact AK.flL_ok p c hs.2.2
theorem AS.flL_ok (p : BT) : ∀ l : List AS, AS.sizedL l → ∀ f ∈ AS.flL p l, f.ok
 | [], _ => by simp [AS.flL]
 | x :: l, hs => by
  rw [AS.sizedL] at hs
  intro g hg
  rw [AS.flL] at hg
  rcases List.mem_append.1 hg with hg | hg
  · exact AS.fl_ok p x hs.1 g hg
  · exact AS.flL_ok p l hs.2 g hg
theorem AK.fl_ok (p : BT) : ∀ x : AK, x.sized → ∀ f ∈ AK.fl p x, f.ok
 | .mk i hd f, hs => by
  rw [AK.sized] at hs
  rw [AK.fl]
  intro g hg
  rcases List.mem_cons.1 hg with rfl | hg
  · exact ⟨hs.2.1, hs.2.2⟩
  · exact AE.flL_ok p f hs.2.2 g hg
theorem AK.flL_ok (p : BT) : ∀ l : List AK, AK.sizedL l → ∀ f ∈ AK.flL p l, f.ok
 | [], _ => by simp [AK.flL]
 | x :: l, hs => by
  rw [AK.sizedL] at hs
  intro g hg
  rw [AK.flL] at hg
  rcases List.mem_append.1 hg with hg | hg
  · exact AK.fl_ok p x hs.1 g hg
  · exact AK.flL_ok p l hs.2 g hg
end
theorem IX {id : Int} {l : List AE} {p : BT} (hl : l.length ≤ 1048576) (hs : AE.sizedL l) : ∀ f ∈ CA id l p, f.ok := by
 intro g hg
 rcases List.mem_cons.1 hg with rfl | hg
 · exact ⟨hl, hs⟩
 · exact AE.flL_ok p l hs g hg
section
variable {E : Bl} {yl : Nat} {xs : List Fl} {J : Nat → (Nat → Prop) → Hp → Nat → Prop} {Jx : (Nat → Prop) → Hp → Nat → Prop}
theorem c247 (Y : YJ E yl Fl.enc xs J Jx) (l : List AE) (hl : l.length ≤ 1048576) (hs : AE.sizedL l) (id : Int) (p : BT) (k : Nat) (D : Nat → Prop) (h : Hp) (m : Nat) (hJ : J k D h m) (hseg : Q3 xs k (CA id l p)) :
 Ag E Tryz.prog 247 [.fn (.yield yl) [] [], .iptr [AA id], .iptr [AG l], .iptr [.bool p.body, .bool p.note, AA p.tables]] h m (fun _ h' m' => ∃ v, HG (J (k + (CA id l p).length)) Jx D h m v h' m') := by
 refine gq Tryz.func247 rfl fun ho => ?_
 simp [go_sem]
 refine Ag.mono (c248 Y (SizeOf.sizeOf l + 1) l (Nat.lt_succ_self _) hl hs id p k D h m hJ hseg) ?_
 intro v h' m' W
 simp [go_sem]
 exact .inl ⟨v, W⟩
end
theorem Ac {h' h : Hp} {k o : Nat} {cs : List SV} (hn : h o = none) (hh : h' o = some (.cells cs)) : Fz h' h (k + 1) (.ptr o 0) (.iptr cs) := by
 refine .inr ⟨hn, cs, hh, by simp, ?_⟩
 have : ∀ l : List SV, AQ (Fz h' h k) l l := by
  intro l; induction l with
  | nil => trivial
  | cons a l ih => exact ⟨Fz.same, ih⟩
 simpa using this cs
theorem c173 (id : Int) (l : List AE) (p : BT) : PC 173 [AA id, AG l, p.enc] (.fn (.func 247) [] [.iptr [AA id], .iptr [AG l], .iptr [.bool p.body, .bool p.note, AA p.tables]]) := by
 intro h n
 refine gq Tryz.func173 rfl fun ho => ?_
 simp [go_sem, BT.enc]
 refine Dp 3 ho (by repeat (first | exact AB | refine AO ho (by omega) ?_)) ?_ (by simp [closed, closedL, AE.E.closedL])
 have h0 := ho.none (Nat.le_refl n)
 have h1 := ho.none (Nat.le_succ n)
 have h2 := ho.none (show n ≤ n + 1 + 1 by omega)
 exact .inr ⟨rfl, trivial, Ac h0 (by simp [hset, Nat.add_assoc]), Ac h1 (by simp [hset, Nat.add_assoc]), Ac h2 (by simp [hset, Nat.add_assoc]), trivial⟩
def DO : BT := ⟨true, false, 0⟩
theorem c109 (d : AI) : PC 109 [d.enc] (.fn (.func 247) [] [.iptr [AA 0], .iptr [AG d.flow], .iptr [.bool true, .bool false, AA 0]]) := by
 intro h n
 refine gq Tryz.func109 rfl fun ho => ?_
 simp [go_sem, AI.enc, AF.flat, AM.flat, AC]
 refine (c173 0 d.flow DO).use ?_
 simp [go_sem]
 exact Av ho (by repeat (first | exact AB | refine AO ho (by omega) ?_)) rfl (by simp [closed, closedL, AE.E.closedL])
def DN (d : AI) : List Fl := CA 0 d.flow DO
def CW (d : AI) (id : Int) : Option Fl := (DN d).find? fun f => decide (f.id = id)
theorem c34 (d : AI) (id : Int) (hl : d.flow.length ≤ 1048576) (hs : AE.sizedL d.flow) : PC 34 [d.enc, AA id] (.tup [AG (((CW d id).map Fl.items).getD []), .bool (CW d id).isSome]) := by
 intro h n
 refine goM Tryz.func34 rfl (by kernel_rfl) (by kernel_rfl) (by simp [go_sem]) fun ho B => ?_
 simp [go_sem, AI.enc, AF.flat, AM.flat, AC, AD, Nat.add_assoc]
 refine PC.use (by simpa [AI.enc, AF.flat, AM.flat] using c109 d) ?_
 simp [go_sem]
 generalize hH : hset (hset (hset (hset h n _) (n + 1) _) (n + 2) _) (n + 3) _ = H
 refine FC rfl rfl rfl fun E1 l R hY => ?_
 have h1 : H (n + 1) = some (.cells [AA id]) := by rw [← hH]; simp [hset]
 have h2 : H (n + 2) = some (.cells [.imm 0 [] true]) := by rw [← hH]; simp [hset]
 have h3 : H (n + 3) = some (.cells [.bool false]) := by rw [← hH]; simp [hset]
 have hold : ∀ o, o < n → H o = h o := fun o g => by rw [← hH]; rw [AD _ _ (by omega), AD _ _ (by omega), AD _ _ (by omega), AD _ _ (by omega)]
 clear hH
 let D0 : Nat → Prop := fun o => n ≤ o ∧ o ≤ n + 4
 let J : Nat → (Nat → Prop) → Hp → Nat → Prop := fun k D hh m => D = D0 ∧ n + 4 < m ∧ hh (n + 1) = some (.cells [AA id]) ∧ hh (n + 2) = some (.cells [.imm 0 [] true]) ∧ hh (n + 3) = some (.cells [.bool false]) ∧ hh (n + 4) = some (.loop (R .ready none)) ∧ ∀ x ∈ (DN d).take k, x.id ≠ id
 let Jx : (Nat → Prop) → Hp → Nat → Prop := fun D hh m => D = D0 ∧ n + 4 < m ∧ ∃ x, CW d id = some x ∧ hh (n + 2) = some (.cells [AG x.items]) ∧ hh (n + 3) = some (.cells [.bool true]) ∧ hh (n + 4) = some (.loop (R .done (some .ret)))
 have Y : YJ E1 l Fl.enc (DN d) J Jx := by
  refine ⟨fun k x D hh m hx hJ => ?_, ?_, ?_⟩
  · obtain ⟨rfl, g0, g1, g2, g3, g4, g5⟩ := hJ
    refine hY _ _ _ _ g4 rfl (IF ?_)
    have hxm : x ∈ DN d := List.mem_of_getElem? hx
    have hxo : x.ok := IX hl hs x hxm
    have e1 : n + 1 ≠ m := by omega
    have e2 : n + 2 ≠ m := by omega
    have e3 : n + 3 ≠ m := by omega
    have e4 : n + 4 ≠ m := by omega
    have e4' := e4.symm
    simp [go_sem, JY, Fl.enc, AC, AD, g4, e4, g1, e1]
    by_cases hid : x.id = id
    · have hfind : CW d id = some x := by
       obtain ⟨hlt, hxx⟩ := List.getElem?_eq_some_iff.1 hx
       have hsplit : DN d = (DN d).take k ++ x :: (DN d).drop (k + 1) := by rw [← hxx, List.getElem_cons_drop, List.take_append_drop]
       rw [CW, hsplit, List.find?_append]
       have : ((DN d).take k).find? (fun f => decide (f.id = id)) = none := List.find?_eq_none.2 fun y hy => by simpa using g5 y hy
       rw [this]; simp [hid]
      simp [go_sem, hid, AC, AD, e4']
      refine (c110 _ hxo.1 hxo.2).use ?_
      simp [go_sem, AC, AD, g2, e2, g3, e3, Hl]
      refine ⟨by omega, D0, fun o g => .inl g, fun o g1 g2 => ?_, .inr ⟨rfl, rfl, by omega, x, hfind, ?_⟩⟩
      · have : ¬ (n ≤ o ∧ o ≤ n + 4) := g1
        simp only [hset]
        rw [if_neg (by omega), if_neg (by omega), if_neg (by omega), if_neg (by omega), if_neg (by omega), if_neg (by omega)]
      · simp [hset]
    · simp [go_sem, hid, Hl, AC]
      refine ⟨by omega, D0, fun o g => .inl g, fun o g1 g2 => ?_, .inl ⟨rfl, rfl, by omega, ?_, ?_, ?_, ?_, fun y hy => ?_⟩⟩
      · have : ¬ (n ≤ o ∧ o ≤ n + 4) := g1
        simp only [hset]
        rw [if_neg (by omega), if_neg (by omega), if_neg (by omega), if_neg (by omega)]
      · simp [hset, e1, g1]
      · simp [hset, e2, g2]
      · simp [hset, e3, g3]
      · simp [hset]
      · obtain ⟨hlt, hxx⟩ := List.getElem?_eq_some_iff.1 hx
        rw [List.take_succ_eq_append_getElem hlt, hxx] at hy
        rcases List.mem_append.1 hy with hy | hy
        · exact g5 y hy
        · rw [List.mem_singleton.1 hy]; exact hid
  · rintro k D hh m h' m' ⟨rfl, g0, g1, g2, g3, g4, g5⟩ hm hD
    exact ⟨rfl, by omega, by rw [hD _ ⟨by omega, by omega⟩]; exact g1, by rw [hD _ ⟨by omega, by omega⟩]; exact g2, by rw [hD _ ⟨by omega, by omega⟩]; exact g3, by rw [hD _ ⟨by omega, by omega⟩]; exact g4, g5⟩
  · rintro k D hh m ⟨rfl, g0, _⟩ o ⟨a, b⟩; omega
 refine Ag.mono (c247 Y d.flow hl hs 0 DO 0 D0 _ _ ⟨rfl, by omega, ?_, ?_, ?_, ?_, by simp⟩ ⟨[], by simp [DN]⟩) ?_
 · rw [AD _ _ (by omega)]; exact h1
 · rw [AD _ _ (by omega)]; exact h2
 · rw [AD _ _ (by omega)]; exact h3
 · exact AC _ _ _
 rintro _ h' m' ⟨v, hm, D', hDD, hh, hv⟩
 rcases hv with ⟨rfl, rfl, g0, g1, g2, g3, g4, g5⟩ | ⟨rfl, rfl, g0, x, hx, g2, g3, g4⟩
 · refine ⟨_, _, g4, by simp, ?_⟩
   simp [go_sem, AC, AD, g2, g3]
   have hnone : CW d id = none := List.find?_eq_none.2 fun y hy => by simpa using g5 y (by simpa [DN, DO] using hy)
   refine Dp 2 ho (fun o y e => ?_) (by rw [hnone]; exact .inr ⟨Ba (by simp), Fz.same, trivial⟩) (by rw [hnone]; rfl)
   have g := (ho o y e).1
   rw [AD _ _ (by omega), AD _ _ (by omega), AD _ _ (by omega), hh o (fun g' => by have : n ≤ o ∧ o ≤ n + 4 := g'; omega) (by omega), AD _ _ (by omega), hold o g, e]
 · refine ⟨_, _, g4, by simp, ?_⟩
   simp [go_sem, AD, g2, g3]
   refine Av ho (fun o y e => ?_) (by rw [hx]; rfl) (by rw [hx]; simp [closed, closedL, AE.E.closedL])
   have g := (ho o y e).1
   rw [AD _ _ (by omega), hh o (fun g' => by have : n ≤ o ∧ o ≤ n + 4 := g'; omega) (by omega), AD _ _ (by omega), hold o g, e]
def Ff : Int → List AE → List (Int × AE)
 | _, [] => []
 | a, x :: l => (a, x) :: Ff (a + x.units) l
def atE (p : Int × AE) : List SV := [AA p.1, p.2.enc]
theorem Hc : ∀ (a : Int) (l : List AE), (Ff a l).length = l.length
 | _, [] => rfl
 | a, x :: l => by simp [Ff, Hc _ l]
theorem ET : ∀ (a : Int) (l : List AE) (k : Nat) (h : k < l.length), (Ff a l)[k]? = some (a + Au (l.take k), l[k])
 | a, x :: l, 0, _ => by simp [Ff, Au]
 | a, x :: l, k + 1, h => by
  simp only [Ff, List.getElem?_cons_succ, List.take_succ_cons, Au, List.getElem_cons_succ]
  rw [ET _ l k (by simpa using h), Int.add_assoc]
section
variable {E : Bl} {yl : Nat} {J : Nat → (Nat → Prop) → Hp → Nat → Prop} {Jx : (Nat → Prop) → Hp → Nat → Prop}
theorem c312 (l : List AE) (Y : YJ E yl atE (Ff 0 l) J Jx) (hl : l.length ≤ 1048576) (hs : ∀ x ∈ l, x.text.size ≤ 1048576) (D : Nat → Prop) (h : Hp) (m : Nat) (hJ : J 0 D h m) :
 Ag E Tryz.prog 312 [.fn (.yield yl) [] [], .iptr [AG l]] h m (fun _ h' m' => ∃ v, HG (J l.length) Jx D h m v h' m') := by
 refine gq Tryz.func312 rfl fun ho => ?_
 simp [go_sem]
 have M0 : JZ J D h m [] 0 D h m := ⟨Nat.le_refl _, hJ, by simp, fun o g => .inl g, fun _ _ _ => rfl⟩
 refine An 1 (α := Nat × (Nat → Prop) × Hp) (fun q => [(0, .fn (.yield yl) [] []), (3, AA (Au (l.take q.1))), (8, AG l), (9, AA l.length), (10, AA q.1)]) (fun q => q.2.2)
  (fun q m' => q.1 ≤ l.length ∧ JZ J D h m [] q.1 q.2.1 q.2.2 m') (fun q => l.length - q.1) (0, D, h) ?_ ?_ AB ?_
 · exact ⟨Nat.zero_le _, M0⟩
 · simp [Ai, Au]
 rintro ⟨i, D2, h2⟩ m2 ⟨hi, M2⟩
 dsimp only at hi M2 ⊢
 by_cases hlt : i < l.length
 · have w1 := wS i (by omega)
   obtain ⟨x, hx⟩ : ∃ x, l[i] = x := ⟨_, rfl⟩
   have hxm : x ∈ l := by rw [← hx]; exact List.getElem_mem hlt
   have T4 := IG (l.take i) fun y hy => hs y (List.mem_of_mem_take hy)
   have IB := x.units_le (hs x hxm)
   have hlk : ((l.take i).length : Int) ≤ 1048576 := by simp; omega
   have htk : l.take (i + 1) = l.take i ++ [x] := by rw [List.take_succ_eq_append_getElem hlt, hx]
   have w2 : IntKind.i64.wrap (Au (l.take i) + x.units) = Au (l.take (i + 1)) := by
    rw [C8, htk, FF]
    · simp [Au]
    · omega
    · have : ((l.take i).length : Int) * 1048576 ≤ 1048576 * 1048576 := by omega
      omega
   have hget := ET 0 l i hlt
   rw [hx, Int.zero_add] at hget
   have hb : ∀ y z, ∀ o, o < m2 → (hset (hset h2 m2 y) m2 z) o = h2 o := fun y z o g => by rw [AD _ _ (by omega), AD _ _ (by omega)]
   have hee : atE (Au (l.take i), x) = [AA (Au (l.take i)), x.enc] := rfl
   rw [AE.enc_eq] at hee
   simp [go_sem, hlt, hx, AE.enc_eq, AC]
   have hst := fun hb mb g => Y.step i _ D2 hb mb hget g
   rw [hee] at hst
   have hDm : ¬ D2 m2 := fun g => by have := Y.lt _ _ _ _ M2.j _ g; omega
   generalize hH : hset (hset h2 m2 _) m2 _ = H2
   have M3 : JZ J D h m [(m2, .cells [AA x.kind, AA x.code, AA x.id, .str x.text, Ah x.head.props, AA x.head.ins, AA x.head.move, Ao x.head.dels, AV x.head.layers, AG x.flow, Ay x.rows])] i D2 H2 (m2 + 1) :=
    (M2.more Y (Nat.le_succ m2) (by rw [← hH]; exact hb _ _)).add (by rw [← hH]; exact AC _ _ _) M2.lt (Nat.lt_succ_self m2) hDm
   refine Ez.mono (hst _ _ M3.j) ?_
   intro v h3 m3 W
   rcases M3.step (Nat.le_refl _) (fun _ _ => rfl) W with ⟨rfl, D3, M4⟩ | ⟨rfl, hX⟩
   · obtain ⟨g1, _, _, _⟩ := M4.own _ (List.mem_singleton.2 rfl)
     simp [go_sem, g1]
     refine PC.use (by simpa [AE.enc_eq] using Tn x (hs x hxm)) ?_
     simp [go_sem, w1, w2, -Int.natCast_add]
     exact ⟨i + 1, by omega, D3, h3, ⟨by omega, M4.drop⟩, ⟨Fz.same, Fz.same⟩, AB⟩
   · simp [go_sem]
     exact .inl ⟨_, JZ.any hX⟩
 · have : i = l.length := by omega
   subst this
   simp [go_sem]
   exact .inl ⟨_, M2.done⟩
end
def AE.setText (y : AE) (t : ByteArray) : AE := .mk y.kind y.code y.id t y.head y.flow y.rows
def Bk (cu : Int) (s : List AE × List AE) (p : Int × AE) : List AE × List AE :=
 if p.1 + p.2.units ≤ cu then (s.1 ++ [p.2], s.2) else if cu ≤ p.1 then (s.1, s.2 ++ [p.2]) else
  (s.1 ++ [p.2.setText (p.2.text.extract 0 (Bw p.2.text (cu - p.1)).1.toNat)], s.2 ++ [p.2.setText (p.2.text.extract (Bw p.2.text (cu - p.1)).1.toNat p.2.text.size)])
def By (l : List AE) (cu : Int) (k : Nat) : List AE × List AE := ((Ff 0 l).take k).foldl (Bk cu) ([], [])
def Am (l : List AE) (cu : Int) : List AE × List AE := By l cu l.length
theorem HV (s : ByteArray) : ∀ k, ∀ x ∈ BS s k, 0 ≤ x ∧ x < k
 | 0, x, h => by simp [BS] at h
 | k + 1, x, h => by
  unfold BS at h
  split at h
  · rcases List.mem_append.1 h with h | h
    · have := HV s k x h; omega
    · have := List.mem_singleton.1 h; omega
  · have := HV s k x h; omega
theorem N6 (s : ByteArray) (u : Int) : 0 ≤ (Bw s u).1 ∧ (Bw s u).1 ≤ s.size := by
 unfold Bw
 split
 · simp
 · split
   · simp
   · simp only
     rw [List.getD_eq_getElem?_getD]
     cases h : (BS s s.size ++ [(s.size : Int)])[u.toNat]? with
     | none => simp
     | some x =>
      have := List.mem_of_getElem? h
      rcases List.mem_append.1 this with h | h
      · have := HV s _ x h; simp; omega
      · have := List.mem_singleton.1 h; simp; omega
theorem E7 (l : List AE) (cu : Int) (k : Nat) (h : k < l.length) : By l cu (k + 1) = Bk cu (By l cu k) (Au (l.take k), l[k]) := by
 have hg := ET 0 l k h
 obtain ⟨hlt, he⟩ := List.getElem?_eq_some_iff.1 hg
 unfold By
 rw [List.take_succ_eq_append_getElem hlt, List.foldl_append, he, Int.zero_add]; rfl
theorem OB (cu : Int) (s : List AE × List AE) (p : Int × AE) : (Bk cu s p).1.length ≤ s.1.length + 1 ∧ (Bk cu s p).2.length ≤ s.2.length + 1 := by
 unfold Bk; split
 · simp
 · split <;> simp
theorem K7 (l : List AE) (cu : Int) : ∀ k, k ≤ l.length → (By l cu k).1.length ≤ k ∧ (By l cu k).2.length ≤ k
 | 0, _ => by simp [By]
 | k + 1, h => by
  rw [E7 l cu k h]
  have h1 := OB cu (By l cu k) (Au (l.take k), l[k])
  have h2 := K7 l cu k (by omega)
  omega
structure Mw (l : List AE) (cu : Int) (n : Nat) (R : LoopState → Option Code → Loop) (k : Nat) (D : Nat → Prop) (hh : Hp) (m : Nat) (oL oR : Option Nat) : Prop where
 lt : n + 3 < m
 cell : hh n = some (.cells [AA cu])
 left : hh (n + 1) = some (.cells [Aa 11 oL ((By l cu k).1.map AE.enc)])
 right : hh (n + 2) = some (.cells [Aa 11 oR ((By l cu k).2.map AE.enc)])
 loop : hh (n + 3) = some (.loop (R .ready none))
 accL : BZ (n + 4) m 11 oL ((By l cu k).1.map AE.enc)
 accR : BZ (n + 4) m 11 oR ((By l cu k).2.map AE.enc)
 ne : ∀ j, oL = some j → oR ≠ some j
 objL : ∀ j, oL = some j → hh j = some (.cells (((By l cu k).1.map AE.enc).flatMap SV.cells))
 objR : ∀ j, oR = some j → hh j = some (.cells (((By l cu k).2.map AE.enc).flatMap SV.cells))
 dom : D = fun o => (n ≤ o ∧ o ≤ n + 3) ∨ oL = some o ∨ oR = some o
theorem Mw.keep {l : List AE} {cu : Int} {n : Nat} {R : LoopState → Option Code → Loop} {k : Nat} {D : Nat → Prop} {hh : Hp} {m : Nat} {oL oR : Option Nat} (H : Mw l cu n R k D hh m oL oR) {h' : Hp} {m' : Nat} (hm : m ≤ m') (hD : ∀ o, D o → h' o = hh o) : Mw l cu n R k D h' m' oL oR := by
 have hd : ∀ o, (n ≤ o ∧ o ≤ n + 3) ∨ oL = some o ∨ oR = some o → h' o = hh o := fun o g => hD o (by rw [H.dom]; exact g)
 exact ⟨by have := H.lt; omega, by rw [hd _ (.inl ⟨by omega, by omega⟩)]; exact H.cell, by rw [hd _ (.inl ⟨by omega, by omega⟩)]; exact H.left, by rw [hd _ (.inl ⟨by omega, by omega⟩)]; exact H.right, by rw [hd _ (.inl ⟨by omega, by omega⟩)]; exact H.loop, H.accL.mono hm, H.accR.mono hm, H.ne,
  fun j e => by rw [hd j (.inr (.inl e))]; exact H.objL j e, fun j e => by rw [hd j (.inr (.inr e))]; exact H.objR j e, H.dom⟩
theorem Mw.dlt {l : List AE} {cu : Int} {n : Nat} {R : LoopState → Option Code → Loop} {k : Nat} {D : Nat → Prop} {hh : Hp} {m : Nat} {oL oR : Option Nat} (H : Mw l cu n R k D hh m oL oR) : ∀ o, D o → o < m := fun o g => by
 rw [H.dom] at g
 have := H.lt
 rcases g with ⟨_, g⟩ | g | g
 · omega
 · exact (H.accL.lt o g).2
 · exact (H.accR.lt o g).2
theorem Mw.fin {l : List AE} {cu : Int} {n : Nat} {R : LoopState → Option Code → Loop} {k : Nat} {D : Nat → Prop} {hh : Hp} {m : Nat} {oL oR : Option Nat} (hJ : Mw l cu n R k D hh m oL oR) {sa : SA} {H2 : Hp} {m' : Nat} {L' R' : List AE} (hs : By l cu (k + 1) = (L', R')) (oL' oR' : Option Nat) (hm : m ≤ m')
 (hc : H2 n = some (.cells [AA cu])) (hl : H2 (n + 1) = some (.cells [Aa 11 oL' (L'.map AE.enc)])) (hr : H2 (n + 2) = some (.cells [Aa 11 oR' (R'.map AE.enc)])) (hb : H2 (n + 3) = some (.loop (R .busy none)))
 (aL : BZ (n + 4) m' 11 oL' (L'.map AE.enc)) (aR : BZ (n + 4) m' 11 oR' (R'.map AE.enc))
 (nL : ∀ j, oL' = some j → oL = some j ∨ m ≤ j) (nR : ∀ j, oR' = some j → oR = some j ∨ m ≤ j) (ne : ∀ j, oL' = some j → oR' ≠ some j)
 (obL : ∀ j, oL' = some j → H2 j = some (.cells ((L'.map AE.enc).flatMap SV.cells))) (obR : ∀ j, oR' = some j → H2 j = some (.cells ((R'.map AE.enc).flatMap SV.cells)))
 (fr : ∀ o, ¬ D o → o < m → H2 o = hh o) (Jx : (Nat → Prop) → Hp → Nat → Prop) :
 Hl (n + 3) R (HG (fun D hh m => ∃ oL oR, Mw l cu n R (k + 1) D hh m oL oR) Jx D hh m) .normal sa H2 m' := by
 have hlt := hJ.lt
 have nd3 : ∀ o, ¬ D o → o ≠ n + 3 := fun o g e => g (by rw [hJ.dom]; exact .inl (by omega))
 refine ⟨hb, hm, fun o => (n ≤ o ∧ o ≤ n + 3) ∨ oL' = some o ∨ oR' = some o, fun o g => ?_, fun o g1 g2 => by rw [AD _ _ (nd3 o g1)]; exact fr o g1 g2, .inl ⟨rfl, oL', oR', ?_⟩⟩
 · rcases g with g | g | g
   · exact .inl (by rw [hJ.dom]; exact .inl g)
   · rcases nL o g with g' | g'
     · exact .inl (by rw [hJ.dom]; exact .inr (.inl g'))
     · exact .inr ⟨g', (aL.lt o g).2⟩
   · rcases nR o g with g' | g'
     · exact .inl (by rw [hJ.dom]; exact .inr (.inr g'))
     · exact .inr ⟨g', (aR.lt o g).2⟩
 · refine ⟨by omega, by rw [AD _ _ (by omega)]; exact hc, by rw [AD _ _ (by omega), hs]; exact hl, by rw [AD _ _ (by omega), hs]; exact hr, AC _ _ _, by rw [hs]; exact aL, by rw [hs]; exact aR, ne, fun j e => ?_, fun j e => ?_, rfl⟩
   · have := (aL.lt j e).1; rw [AD _ _ (by omega), hs]; exact obL j e
   · have := (aR.lt j e).1; rw [AD _ _ (by omega), hs]; exact obR j e
theorem BZ.mv {n m m' z : Nat} {o : Option Nat} {es : List SV} (h : BZ n m z o es) (hm : m ≤ m') : BZ n m' z o es := h.mono hm
theorem c285 (l : List AE) : PC 285 [AG l] (.fn (.func 312) [] [.iptr [AG l]]) := by
 intro h n
 refine gq Tryz.func285 rfl fun ho => ?_
 simp [go_sem]
 exact Dp 3 ho (AO ho (Nat.le_refl _) AB) (.inr ⟨rfl, trivial, Ac (ho.none (Nat.le_refl n)) (by simp [hset]), trivial⟩) (by simp [closed, closedL, AE.E.closedL])
theorem AP {α β : Type} (f : α → β) (a : α) (l : List α) : List.map f (List.toArray (a :: l)).toList = f a :: List.map f (List.toArray l).toList := rfl
theorem AW {α β : Type} (f : α → β) : List.map f (List.toArray ([] : List α)).toList = [] := rfl
theorem CC : ofValue (.agg #[.int .i64 0, .int .i64 0, .int .i64 0, .string { data := #[] }, .slice none 0 0, .int .i64 0, .int .i64 0, .slice none 0 0, .slice none 0 0, .slice none 0 0, .slice none 0 0]) = .agg [.int .i64 0, .int .i64 0, .int .i64 0, .str .empty, .imm 0 [] true, .int .i64 0, .int .i64 0, .imm 0 [] true, .imm 0 [] true, .imm 0 [] true, .imm 0 [] true] := rfl
end Go.Proofs.YtgakninlhfkkmaaGreat.Sh
