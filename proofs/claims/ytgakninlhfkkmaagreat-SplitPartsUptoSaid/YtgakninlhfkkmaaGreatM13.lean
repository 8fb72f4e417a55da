/- SplitPartsUptoSaid: a part of its proof (part 13 of 14). -/
import Derived.Test.YtgakninlhfkkmaaGreatM12
import Derived.Lib.Overlaps
import Derived.Lib.AppendZerosOnto
namespace Go.Proofs.YtgakninlhfkkmaaGreat.Sh
open Proofs
set_option maxRecDepth 10000
section
variable (g : Bool → AF → AF) (sc : BG) (u : AF → Bool)
def TL (T : Int → Prop) (mid : Bool) (N : Nat) (l r : List AE) : Prop := Dr u r = Dr (fun h => u (g mid h)) l ∧ DG N r ∧ Dz T N r
theorem pm_ok {T : Int → Prop} {N : Nat} {it : Int → List AE → Bool → Unit → List AE × Unit} {mid : Bool} {x : AE} (hg : LH T N x) (hd : MO N x) (h6 : x.kind = 6 → TL g u T mid N x.flow (it x.id x.flow mid ()).1)
 (h7 : x.kind = 7 → ∀ r ∈ x.rows, ∀ c ∈ r.cells, TL g u T mid N c.flow (it c.id c.flow mid ()).1) :
 AE.wt u (HP g it mid x) = AE.wt (fun h => u (g mid h)) x ∧ MO N (HP g it mid x) ∧ LH T N (HP g it mid x) := by
 obtain ⟨g1, g2, g3, g4⟩ := hg
 obtain ⟨⟨d1, d2⟩, d3, d4⟩ := hd
 have a1 : (HP g it mid x).kind = x.kind ∧ (HP g it mid x).text = x.text ∧ (HP g it mid x).id = x.id ∧ (HP g it mid x).head = g mid x.head ∧ (HP g it mid x).flow = (if x.kind = 6 then (it x.id x.flow mid ()).1 else x.flow) ∧ (HP g it mid x).rows = (if x.kind = 7 then x.rows.map (Oz g it mid) else x.rows) := ⟨rfl, rfl, rfl, rfl, rfl, rfl⟩
 obtain ⟨a1, a2, a3, a4, a5, a6⟩ := a1
 refine ⟨?_, ⟨⟨by rw [a2]; exact d1, fun k => ?_⟩, fun k => ?_, fun k r hr => ?_⟩, fun k => ?_, fun k => ?_, ?_, fun r hr c hc => ?_⟩
 · rw [GU, GU, a1, a2, a4, a5, a6]
   by_cases k6 : x.kind = 6
   · have e := (h6 k6).1
     simp only [k6, if_true, show ¬ (6 : Int) = 1 by decide, show ¬ (6 : Int) = 7 by decide, if_false, FB, e]
   · by_cases k7 : x.kind = 7
     · simp only [k7, if_true, show ¬ (7 : Int) = 1 by decide, show ¬ (7 : Int) = 6 by decide, if_false, G8, List.map_map]
       congr 3
       refine List.map_congr_left fun r hr => ?_
       have hc := h7 k7 r hr
       cases r with
       | mk rh rc =>
        simp only [Function.comp, Oz]
        rw [AS.wt, AS.wt, GK, GK, List.map_map]
        congr 2
        refine List.map_congr_left fun c hcm => ?_
        have e := (hc c hcm).1
        cases c with
        | mk ci ch cf =>
         simp only [Function.comp, PW]
         rw [AK.wt, AK.wt, FB, FB]
         rw [show (AK.mk ci ch cf).flow = cf from rfl, show (AK.mk ci ch cf).id = ci from rfl] at e
         rw [show (AK.mk ci ch cf).flow = cf from rfl, show (AK.mk ci ch cf).id = ci from rfl, e]
         rfl
     · simp only [k6, k7, if_false]
 · rw [a1] at k; rw [a6, if_pos k]; simpa using d2 k
 · rw [a1] at k; rw [a5, if_pos k]; exact (h6 k).2.1
 · rw [a1] at k; rw [a6, if_pos k] at hr
   obtain ⟨r0, hr0, rfl⟩ := List.mem_map.1 hr
   have e : (Oz g it mid r0).cells = r0.cells.map (PW g it mid) := rfl
   rw [e]
   refine ⟨by simpa using (d4 k r0 hr0).1, fun c hc => ?_⟩
   obtain ⟨c0, hc0, rfl⟩ := List.mem_map.1 hc
   exact (h7 k r0 hr0 c0 hc0).2.1
 · rw [a1] at k; rw [a6, if_neg k]; exact g1 k
 · rw [a1] at k; rw [a3]; exact g2 k
 · rw [a5]; split
   · rename_i k; exact (h6 k).2.2
   · exact g3
 · rw [a6] at hr
   split at hr
   · rename_i k
     obtain ⟨r0, hr0, rfl⟩ := List.mem_map.1 hr
     have e : (Oz g it mid r0).cells = r0.cells.map (PW g it mid) := rfl
     rw [e] at hc
     obtain ⟨c0, hc0, rfl⟩ := List.mem_map.1 hc
     exact ⟨(g4 r0 hr0 c0 hc0).1, (h7 k r0 hr0 c0 hc0).2.2⟩
   · exact g4 r hr c hc
theorem JM {T : Int → Prop} {N : Nat} {it : Int → List AE → Bool → Unit → List AE × Unit} {mid : Bool} {l : List AE} (hg : Dz T (N + 1) l) (hd : DG (N + 1) l)
 (h : ∀ id f, (T id) → Dz T N f → DG N f → TL g u T mid N f (it id f mid ()).1) : TL g u T mid (N + 1) l (A8 (gF g) it mid l ()).1 := by
 rw [EU]
 have one : ∀ x ∈ l, _ := fun x hx => pm_ok g u (it := it) (mid := mid) (hg x hx) (hd x hx) (fun k => h _ _ ((hg x hx).2.1 k) (hg x hx).2.2.1 ((hd x hx).2.1 k)) (fun k r hr c hc => h _ _ ((hg x hx).2.2.2 r hr c hc).1 ((hg x hx).2.2.2 r hr c hc).2 (((hd x hx).2.2 k r hr).2 c hc))
 refine ⟨?_, fun y hy => ?_, fun y hy => ?_⟩
 · clear hg hd
   induction l with
   | nil => rfl
   | cons x l ih => rw [List.map_cons, Eu, Eu, (one x (by simp)).1, ih fun y hy => one y (by simp [hy])]
 · obtain ⟨x, hx, rfl⟩ := List.mem_map.1 hy; exact (one x hx).2.1
 · obtain ⟨x, hx, rfl⟩ := List.mem_map.1 hy; exact (one x hx).2.2
theorem OP : ∀ (N : Nat) (id : Int) (l : List AE) (mid : Bool), Dz (fun i => i ≠ sc.id) N l → DG N l → (mid = true ∨ id ≠ sc.id) → TL g u (fun i => i ≠ sc.id) mid N l (AN (gF g) sc N id l mid ()).1
 | 0, _, _, _, _, h, _ => h.elim
 | N + 1, id, l, mid, hg, hd, hid => by
  have n1 : ¬ CJ sc id l mid = true := by rcases hid with rfl | h <;> simp [CJ, *]
  rw [AN, if_neg n1]
  exact JM g u hg hd fun id f hT hg hd => OP N id f mid hg hd (.inr hT)
end
theorem On {α : Type} (W : List α) (a b : Nat) (h1 : a ≤ b) (_h2 : b ≤ W.length) : (W.take a).drop 0 ++ (W.take b).drop a ++ (W.take W.length).drop b = W := by
 rw [List.drop_zero, List.take_length]
 have : W.take a ++ (W.take b).drop a = W.take b := by
  have e : W.take a = (W.take b).take a := by rw [List.take_take, Nat.min_eq_left h1]
  rw [e, List.take_append_drop]
 rw [this, List.take_append_drop]
section
variable (g : Bool → AF → AF) (sc : BG)
theorem FM {id : Int} {l : List AE} {N : Nat} (hd : DG (N + 1) l) : CJ sc id l false = true ↔ id = sc.id ∧ 0 ≤ sc.a ∧ sc.a ≤ sc.b ∧ sc.b ≤ Au l := by
 unfold CJ
 rw [Co hd]
 simp [and_assoc]
theorem M8 {T : Int → Prop} {N : Nat} {a b : List AE} (h1 : DG (N + 1) a ∧ Dz T (N + 1) a) (h2 : DG (N + 1) b ∧ Dz T (N + 1) b) : DG (N + 1) (a ++ b) ∧ Dz T (N + 1) (a ++ b) :=
 ⟨fun x hx => (List.mem_append.1 hx).elim (h1.1 x) (h2.1 x), fun x hx => (List.mem_append.1 hx).elim (h1.2 x) (h2.2 x)⟩
theorem Hd {T : Int → Prop} : ∀ (N : Nat) (id : Int) (l : List AE) (mid : Bool), Dz T N l → DG N l → TL g (fun _ => false) T mid N l (AN (gF g) sc N id l mid ()).1
 | 0, _, _, _, _, h => h.elim
 | N + 1, id, l, mid, hg, hd => by
  have P : ∀ mid l, Dz T (N + 1) l → DG (N + 1) l → TL g (fun _ => false) T mid (N + 1) l (A8 (gF g) (AN (gF g) sc N) mid l ()).1 := fun mid l hg hd => JM g _ hg hd fun id f _ hg hd => Hd N id f mid hg hd
  rw [AN]
  split
  · rename_i hs
    have hm : mid = false := by unfold CJ at hs; cases mid; rfl; simp at hs
    subst hm
    obtain ⟨_, k1, k2, k3⟩ := (FM sc hd).1 hs
    have p1 := P false _ (DH 0 sc.a hg) (CS 0 sc.a (by omega) k1 hd)
    have p2 := P true _ (DH sc.a sc.b hg) (CS sc.a sc.b k1 (by omega) hd)
    have p3 := P false _ (DH sc.b (Ap l).1 hg) (CS sc.b (Ap l).1 (by omega) (by rw [Co hd]; dsimp only; omega) hd)
    have hL := FG (fun _ => false) l
    have e := M8 (M8 p1.2 p2.2) p3.2
    refine ⟨?_, e⟩
    rw [DU, DU, p1.1, p2.1, p3.1]
    rw [El _ hd 0 sc.a (by omega) k1 (by omega), El _ hd sc.a sc.b k1 k2 k3, El _ hd sc.b (Ap l).1 (by omega) (by rw [Co hd]; exact k3) (by rw [Co hd]; exact Int.le_refl _)]
    have hn : (Ap l).1.toNat = (Dr (fun _ => false) l).length := by rw [Co hd]; dsimp only; omega
    rw [hn]
    exact On (Dr (fun _ => false) l) _ _ (by omega) (by omega)
  · exact P mid l hg hd
variable (u v : AF → Bool) (w : Bool)
theorem PV {hp : AF → Prop} (hw : ∀ h, hp h → ∀ mid, Fh w mid (DK (u (g mid h))) = Fh w mid (DK (v h))) {K N : Nat} {l : List AE} (hl : EZ hp K N l) (mid : Bool) : Fh w mid (Dr (fun h => u (g mid h)) l).sum = Fh w mid (Dr v l).sum := by
 unfold Fh
 split
 · rename_i e
   rw [Lx (u := fun h => u (g mid h)) (v := v) (fun h hh => ?_) hl]
   have := hw h hh mid
   unfold Fh DK at this
   rw [if_pos e, if_pos e] at this
   cases h1 : u (g mid h) <;> cases h2 : v h <;> simp_all
 · rfl
theorem TJ {N : Nat} {x : AE} (h : MO N x) : val (AE.nrm x) := by
 obtain ⟨⟨h1, h2⟩, h6, h7⟩ := h
 obtain ⟨e0, _, _, et, _, _, _⟩ := AE.nrm_fields x
 refine ⟨by rw [et]; exact h1, fun k => ?_⟩
 rw [e0] at k
 rw [JJ fun r hr => (h7 k r hr).1]
 simpa using h2 k
theorem S4 {hp : AF → Prop} (hw : ∀ h, hp h → ∀ mid, Fh w mid (DK (u (g mid h))) = Fh w mid (DK (v h))) {h : AF} (hh : hp h) (mid : Bool) (k : Nat) : Fh w mid (DK (u (g mid h)) * k) = Fh w mid (DK (v h) * k) := by
 have := hw h hh mid
 unfold Fh at this ⊢
 split
 · rename_i e; rw [if_pos e, if_pos e] at this; rw [this]
 · rfl
set_option maxHeartbeats 1000000 in
theorem PG {hp : AF → Prop} (hw : ∀ h, hp h → ∀ mid, Fh w mid (DK (u (g mid h))) = Fh w mid (DK (v h))) {m2 : List Int} {K : Nat} :
 ∀ (N : Nat) (id : Int) (l : List AE) (p : BT), Oy m2 N l → EZ hp K N l → id ∉ FK N l → (FK N l).Nodup → (∀ f ∈ CA id l p, f.id = sc.id → ¬ C5 sc f.items) →
  cw u w sc N id (AU (AN (gF g) sc N id l false ()).1) false = cw v w sc N id l false
 | 0, _, _, _, _, h, _, _, _ => h.elim
 | N + 1, id, l, p, hk, hl, hid, hnd, hb => by
  have hd := Hf hk hl
  by_cases e : id = sc.id
  · have hg := Gi (T := fun i => i ≠ sc.id) hk fun i hi h => hid (by rw [e, ← h]; exact hi)
    have hr := hb ⟨id, l, p⟩ (List.mem_cons_self ..) e
    have hR := Co hd
    have i1 : CJ sc id l false = true := by
     unfold C5 at hr
     rw [FM sc hd]
     dsimp only at hr
     rw [hR] at hr
     exact ⟨e, by omega, by omega, by dsimp only at hr; omega⟩
    obtain ⟨_, k1, k2, k3⟩ := (FM sc hd).1 i1
    have q1 := CS 0 sc.a (by omega) k1 hd
    have q2 := CS sc.a sc.b k1 (by omega) hd
    have q3 := CS sc.b (Ap l).1 (by omega) (by rw [hR]; dsimp only; omega) hd
    have r1 := DH 0 sc.a hg
    have r2 := DH sc.a sc.b hg
    have r3 := DH sc.b (Ap l).1 hg
    have P : ∀ mid l, Dz (fun i => i ≠ sc.id) (N + 1) l → DG (N + 1) l → TL g u (fun i => i ≠ sc.id) mid (N + 1) l (A8 (gF g) (AN (gF g) sc N) mid l ()).1 := fun mid l hg hd => JM g u hg hd fun id f hT hg hd => OP g sc u N id f mid hg hd (.inr hT)
    have p1 := P false _ r1 q1
    have p2 := P true _ r2 q2
    have p3 := P false _ r3 q3
    have s1 := fun u => El u hd 0 sc.a (by omega) k1 (by omega)
    have s2 := fun u => El u hd sc.a sc.b k1 k2 k3
    have s3 := fun u => El u hd sc.b (Ap l).1 (by omega) (by rw [hR]; exact k3) (by rw [hR]; exact Int.le_refl _)
    have dg := M8 (M8 p1.2 p2.2) p3.2
    have hL := fun u => FG u l
    rw [AN, if_pos i1]
    dsimp only
    generalize (A8 (gF g) (AN (gF g) sc N) false (AR l 0 sc.a).1 ()).1 = A' at *
    generalize (A8 (gF g) (AN (gF g) sc N) true (AR l sc.a sc.b).1 ()).1 = B' at *
    generalize (A8 (gF g) (AN (gF g) sc N) false (AR l sc.b (Ap l).1).1 ()).1 = C' at *
    have wR : Dr u (AU (A' ++ B' ++ C')) = Dr (fun h => u (g false h)) (AR l 0 sc.a).1 ++ Dr (fun h => u (g true h)) (AR l sc.a sc.b).1 ++ Dr (fun h => u (g false h)) (AR l sc.b (Ap l).1).1 := by
     rw [Gq u dg.1, DU, DU, p1.1, p2.1, p3.1]
    have dR := EO dg.1
    have gR := FJ dg.2
    generalize AU (A' ++ B' ++ C') = R at *
    have l1 : (Dr (fun h => u (g false h)) (AR l 0 sc.a).1).length = sc.a.toNat := by
     have := hL fun h => u (g false h)
     rw [s1, List.length_drop, List.length_take]; omega
    have l2 : (Dr (fun h => u (g true h)) (AR l sc.a sc.b).1).length = sc.b.toNat - sc.a.toNat := by
     have := hL fun h => u (g true h)
     rw [s2, List.length_drop, List.length_take]; omega
    have hnn : (Ap l).1 = Au l := by rw [hR]
    have l3 : (Dr (fun h => u (g false h)) (AR l sc.b (Ap l).1).1).length = (Au l).toNat - sc.b.toNat := by
     have := hL fun h => u (g false h)
     rw [s3, List.length_drop, List.length_take, hnn]; omega
    have uR : Au R = Au l := by
     rw [← FG u R, wR, List.length_append, List.length_append, l1, l2, l3]; omega
    have i2 : CJ sc id R false = true := (FM sc dR).2 ⟨e, k1, k2, by rw [uR]; exact k3⟩
    have hRR := Co dR
    have c1 := CS 0 sc.a (by omega) k1 dR
    have c2 := CS sc.a sc.b k1 (by omega) dR
    have c3 := CS sc.b (Ap R).1 (by omega) (by rw [hRR]; dsimp only; omega) dR
    have Q : ∀ (u : AF → Bool) mid l, Dz (fun i => i ≠ sc.id) (N + 1) l → DG (N + 1) l → E8 u w (cw u w sc N) mid l = Fh w mid (Dr u l).sum := fun u mid l hg hd =>
     P5 u w _ mid l (fun x hx k6 => Py u w sc N _ _ _ (hg x hx).2.2.1 ((hd x hx).2.1 k6) (.inr ((hg x hx).2.1 k6))) (fun x hx k7 r hr c hc => Py u w sc N _ _ _ ((hg x hx).2.2.2 r hr c hc).2 (((hd x hx).2.2 k7 r hr).2 c hc) (.inr ((hg x hx).2.2.2 r hr c hc).1))
    rw [cw, cw, if_pos i1, if_pos i2, Q u _ _ (DH 0 sc.a gR) c1, Q u _ _ (DH sc.a sc.b gR) c2, Q u _ _ (DH sc.b (Ap R).1 gR) c3, Q v _ _ r1 q1, Q v _ _ r2 q2, Q v _ _ r3 q3]
    have m1 : Dr u (AR R 0 sc.a).1 = Dr (fun h => u (g false h)) (AR l 0 sc.a).1 := by
     rw [El u dR 0 sc.a (by omega) k1 (by omega), wR, List.append_assoc, List.take_append_of_le_length (by omega), List.take_of_length_le (by omega)]; rfl
    have m2 : Dr u (AR R sc.a sc.b).1 = Dr (fun h => u (g true h)) (AR l sc.a sc.b).1 := by
     rw [El u dR sc.a sc.b k1 k2 (by omega), wR, List.take_append_of_le_length (by rw [List.length_append]; omega), List.take_of_length_le (by rw [List.length_append]; omega), List.drop_left' l1]
    have m3 : Dr u (AR R sc.b (Ap R).1).1 = Dr (fun h => u (g false h)) (AR l sc.b (Ap l).1).1 := by
     have hn2 : (Ap R).1 = Au R := by rw [hRR]
     rw [El u dR sc.b (Ap R).1 (by omega) (by omega) (by omega), wR, List.take_of_length_le (by rw [List.length_append, List.length_append]; omega), List.drop_left' (by rw [List.length_append]; omega)]
    rw [m1, m2, m3, PV g u v w hw (Dm 0 sc.a hl), PV g u v w hw (Dm sc.a sc.b hl), PV g u v w hw (Dm sc.b (Ap l).1 hl)]
  · have n1 : ∀ l, ¬ CJ sc id l false = true := fun l => by simp [CJ, e]
    have hg := Gi (T := fun _ => True) hk fun _ _ => trivial
    have hP := JM g (fun _ => false) (it := AN (gF g) sc N) (mid := false) hg hd fun id f _ hg hd => Hd g sc N id f false hg hd
    rw [EU] at hP
    rw [AN, if_neg (n1 _), EU, cw, if_neg (n1 _), cw, if_neg (n1 _)]
    unfold AU Cz
    rw [AE.nrmL_eq, Ma u w _ _ _ [] (by simp) fun y hy => by obtain ⟨x, hx, rfl⟩ := List.mem_map.1 hy; exact TJ (hP.2.1 x hx)]
    simp only [E8, List.map_nil, List.sum_nil, Nat.zero_add, List.map_map]
    congr 1
    refine List.map_congr_left fun x hx => ?_
    have hx' := hP.2.1 _ (List.mem_map_of_mem (f := HP g (AN (gF g) sc N) false) hx)
    obtain ⟨_, _, hx7⟩ := hx'
    obtain ⟨⟨_, f7, _⟩, _, hf, _, hrs⟩ := hk x hx
    obtain ⟨x1, x2, _, x4⟩ := hl.2.2 x hx
    have nd : (FV N x).Nodup := Gg (f := FV N) hnd hx
    have a1 : (HP g (AN (gF g) sc N) false x).kind = x.kind ∧ (HP g (AN (gF g) sc N) false x).text = x.text ∧ (HP g (AN (gF g) sc N) false x).id = x.id ∧ (HP g (AN (gF g) sc N) false x).head = g false x.head ∧ (HP g (AN (gF g) sc N) false x).flow = (if x.kind = 6 then (AN (gF g) sc N x.id x.flow false ()).1 else x.flow) ∧ (HP g (AN (gF g) sc N) false x).rows = (if x.kind = 7 then x.rows.map (Oz g (AN (gF g) sc N) false) else x.rows) := ⟨rfl, rfl, rfl, rfl, rfl, rfl⟩
    simp only [Function.comp]
    obtain ⟨e0, _, e00, et, e1, e2, _⟩ := AE.nrm_fields (HP g (AN (gF g) sc N) false x)
    have e3 : x.kind = 7 → (AE.nrm (HP g (AN (gF g) sc N) false x)).rows = (HP g (AN (gF g) sc N) false x).rows.map AS.nrm := fun k => JJ fun r hr => (hx7 (by rw [a1.1]; exact k) r hr).1
    have hu : (AE.nrm (HP g (AN (gF g) sc N) false x)).units = x.units := by unfold AE.units; rw [e0, et, a1.1, a1.2.1]
    unfold Ss
    rw [hu, e1, a1.2.2.2.1, S4 g u v w hw x1]
    congr 1
    unfold LP
    rw [e0, a1.1, e00, a1.2.2.1, e2, a1.2.2.2.2.1]
    by_cases k6 : x.kind = 6
    · rw [if_pos k6, if_pos k6, if_pos k6]
      rw [FV, if_pos k6, List.nodup_cons] at nd
      refine PG hw N _ _ p.inNote hf x2 nd.1 nd.2 fun f hf => hb f (List.mem_cons_of_mem _ (Jq p hx ?_))
      cases x; simp only [AE.kind] at k6; rw [AE.fl, if_pos k6]; exact hf
    · rw [if_neg k6, if_neg k6]
      by_cases k7 : x.kind = 7
      · rw [if_pos k7, if_pos k7, e3 k7, a1.2.2.2.2.2, if_pos k7, List.map_map, List.map_map]
        congr 1
        refine List.map_congr_left fun r hr => ?_
        obtain ⟨y1, _, y3⟩ := x4 r hr
        simp only [Function.comp]
        unfold QV
        rw [(AS.nrm_cells _).1, (AS.nrm_cells _).2]
        have hh : (Oz g (AN (gF g) sc N) false r).head = g false r.head := rfl
        have hc' : (Oz g (AN (gF g) sc N) false r).cells = r.cells.map (PW g (AN (gF g) sc N) false) := rfl
        rw [hh, hc', hw _ y1 false, List.map_map, List.map_map]
        congr 2
        refine List.map_congr_left fun c hc => ?_
        obtain ⟨z1, z2⟩ := y3 c hc
        simp only [Function.comp]
        unfold QT
        rw [(AK.nrm_all _).1, (AK.nrm_all _).2.1, (AK.nrm_all _).2.2]
        have i1 : (PW g (AN (gF g) sc N) false c).head = g false c.head := rfl
        have i2 : (PW g (AN (gF g) sc N) false c).id = c.id := rfl
        have i3 : (PW g (AN (gF g) sc N) false c).flow = (AN (gF g) sc N c.id c.flow false ()).1 := rfl
        rw [i1, i2, i3, hw _ z1 false]
        congr 1
        rw [FV, if_neg k6, if_pos k7, List.nodup_cons] at nd
        have g3 : (c.id :: FK N c.flow).Nodup := Gg (f := fun c : AK => c.id :: FK N c.flow) (Gg (f := KX N) nd.2 hr) hc
        rw [List.nodup_cons] at g3
        refine PG hw N _ _ p.inTable ((hrs r hr).2 c hc).2 z2 g3.1 g3.2 fun f hf => hb f (List.mem_cons_of_mem _ (Jq p hx ?_))
        cases x; simp only [AE.kind] at k7; rw [AE.fl, if_neg (by rw [k7]; decide), if_pos k7]
        refine NS _ hr ?_
        cases r; rw [AS.fl]
        refine NR _ hc ?_
        cases c; exact hf
      · rw [if_neg k7, if_neg k7]
end
def LT (hp : AF → Prop) (L T : Nat) : Nat → List AE → Prop
 | 0, _ => False
 | N + 1, l => l.length ≤ L ∧ AY l ≤ T ∧ ∀ x ∈ l, hp x.head ∧ LT hp L T N x.flow ∧ x.rows.length ≤ L ∧ ∀ r ∈ x.rows, hp r.head ∧ r.cells.length ≤ L ∧ ∀ c ∈ r.cells, hp c.head ∧ LT hp L T N c.flow
def ltI (hp : AF → Prop) (L T N : Nat) (x : AE) : Prop := hp x.head ∧ LT hp L T N x.flow ∧ x.rows.length ≤ L ∧ ∀ r ∈ x.rows, hp r.head ∧ r.cells.length ≤ L ∧ ∀ c ∈ r.cells, hp c.head ∧ LT hp L T N c.flow
theorem PT {hp : AF → Prop} {L T N : Nat} {l : List AE} : LT hp L T (N + 1) l ↔ l.length ≤ L ∧ AY l ≤ T ∧ ∀ x ∈ l, ltI hp L T N x := Iff.rfl
theorem NQ {hp : AF → Prop} {L T K : Nat} (h1 : L ≤ K) (h2 : T ≤ K) : ∀ {N : Nat} {l : List AE}, LT hp L T N l → EZ hp K N l
 | N + 1, l, H => ⟨by have := H.1; omega, by have := H.2.1; omega, fun x hx => by
  obtain ⟨a, b, c, d⟩ := H.2.2 x hx
  exact ⟨a, NQ h1 h2 b, by omega, fun r hr => ⟨(d r hr).1, by have := (d r hr).2.1; omega, fun c hc => ⟨((d r hr).2.2 c hc).1, NQ h1 h2 ((d r hr).2.2 c hc).2⟩⟩⟩⟩
theorem Kp {hp hp' : AF → Prop} (hh : ∀ x, hp x → hp' x) {L T L' T' : Nat} (h1 : L ≤ L') (h2 : T ≤ T') : ∀ {N : Nat} {l : List AE}, LT hp L T N l → LT hp' L' T' N l
 | N + 1, l, H => ⟨by have := H.1; omega, by have := H.2.1; omega, fun x hx => by
  obtain ⟨a, b, c, d⟩ := H.2.2 x hx
  exact ⟨hh _ a, Kp hh h1 h2 b, by omega, fun r hr => ⟨hh _ (d r hr).1, by have := (d r hr).2.1; omega, fun c hc => ⟨hh _ ((d r hr).2.2 c hc).1, Kp hh h1 h2 ((d r hr).2.2 c hc).2⟩⟩⟩⟩
theorem OR {hp : AF → Prop} {L T N : Nat} {x : AE} (H : ltI hp L T N x) (t : ByteArray) : ltI hp L T N (.mk x.kind x.code x.id t x.head x.flow x.rows) := by cases x; exact H
theorem ID {hp : AF → Prop} {L T : Nat} : ∀ {N : Nat} {l : List AE}, LT hp L T N l → LT hp L T N (AU l)
 | N + 1, l, H => by
  rw [PT] at H ⊢
  unfold AU Cz
  rw [AE.nrmL_eq]
  refine ⟨?_, ?_, ?_⟩
  · have := IY (l.map AE.nrm) []; simp at this; omega
  · have := Ia (l.map AE.nrm) []
    have e : AY (l.map AE.nrm) = AY l := by simp only [AY, List.map_map]; congr 1; exact List.map_congr_left fun x _ => by simp only [Function.comp_apply, (AE.nrm_fields x).2.2.2.1]
    have e0 : AY [] = 0 := rfl
    rw [e, e0] at this; omega
  · refine Ft (p := ltI hp L T N) (fun x t h => OR h t) _ _ (fun y hy => by cases hy) fun y hy => ?_
    obtain ⟨x, hx, rfl⟩ := List.mem_map.1 hy
    obtain ⟨a, b, c, d⟩ := H.2.2 x hx
    obtain ⟨_, _, _, _, e1, e2, e3⟩ := AE.nrm_fields x
    refine ⟨by rw [e1]; exact a, by rw [e2]; exact ID b, ?_, ?_⟩
    · rw [e3]; have := List.length_filter_le (fun r => !decide (r.cells.length = 0)) (x.rows.map AS.nrm); simp only [List.length_map] at this; omega
    · rw [e3]; intro r hr
      obtain ⟨r0, h0, rfl⟩ := List.mem_map.1 (List.mem_filter.1 hr).1
      obtain ⟨u, v, w⟩ := d r0 h0
      have er : (AS.nrm r0).head = r0.head ∧ (AS.nrm r0).cells = r0.cells.map AK.nrm := by cases r0; rw [AS.nrm, AK.nrmL_eq]; exact ⟨rfl, rfl⟩
      refine ⟨by rw [er.1]; exact u, by rw [er.2, List.length_map]; exact v, ?_⟩
      rw [er.2]; intro c hc
      obtain ⟨c0, h1, rfl⟩ := List.mem_map.1 hc
      obtain ⟨u1, u2⟩ := w c0 h1
      have ec : (AK.nrm c0).head = c0.head ∧ (AK.nrm c0).flow = AU c0.flow := by cases c0; rw [AK.nrm]; exact ⟨rfl, rfl⟩
      exact ⟨by rw [ec.1]; exact u1, by rw [ec.2]; exact ID u2⟩
theorem Me {hp : AF → Prop} {L T N : Nat} {l : List AE} (cu : Int) (H : LT hp L T (N + 1) l) : LT hp L T (N + 1) (Am l cu).1 ∧ LT hp L T (N + 1) (Am l cu).2 := by
 rw [PT] at H
 have h1 := DS l cu
 have h2 := Ji l cu _ (Nat.le_refl _)
 have h3 := Ga (p := ltI hp L T N) (fun x t h => OR h t) l cu H.2.2 _ (Nat.le_refl _)
 rw [List.take_length] at h2
 exact ⟨⟨by omega, by have := h2.1; unfold Am; omega, h3.1⟩, ⟨by omega, by have := h2.2; unfold Am; omega, h3.2⟩⟩
theorem LU {hp : AF → Prop} {L T N : Nat} {l : List AE} (a b : Int) (H : LT hp L T (N + 1) l) : LT hp L T (N + 1) (AR l a b).1 := by
 unfold AR
 split
 · exact ID (Me a (Me b H).1).2
 · exact ⟨by simp, by simp [AY], by simp⟩
theorem K8 (l : List AE) (cu : Int) : ∀ k, k ≤ l.length → AY (By l cu k).1 + AY (By l cu k).2 ≤ AY (l.take k)
 | 0, _ => by simp [By, AY]
 | k + 1, h => by
  rw [E7 l cu k h, List.take_succ_eq_append_getElem h, Bc]
  have h1 := K8 l cu k (by omega)
  have h3 : ∀ x : AE, AY [x] = x.text.size := by simp [AY]
  rw [h3]
  unfold Bk
  dsimp only
  split
  · dsimp only; rw [Bc, h3]; omega
  · split
    · dsimp only; rw [Bc, h3]; omega
    · dsimp only
      rw [Bc, Bc, h3, h3]
      have e : ∀ (x : AE) t, (x.setText t).text = t := fun _ _ => rfl
      rw [e, e, ByteArray.size_extract, ByteArray.size_extract]
      omega
theorem K9 {l : List AE} {n : Int} (h : ∀ k, k ≤ l.length → Au (l.take k) ≤ n) : ∀ k, k ≤ l.length → By l n k = (l.take k, [])
 | 0, _ => by simp [By]
 | k + 1, hk => by
  rw [E7 l n k hk, K9 h k (by omega)]
  have h1 := h (k + 1) hk
  rw [List.take_succ_eq_append_getElem hk, FF] at h1
  simp only [Au] at h1
  unfold Bk
  dsimp only
  rw [if_pos (by omega), List.take_succ_eq_append_getElem hk]
theorem Oo (l : List AE) (k : Nat) : Au (l.take k) ≤ Au l := by
 have h1 := FG (fun _ => false) (l.take k)
 have h2 := FG (fun _ => false) l
 have h3 : Dr (fun _ => false) l = Dr (fun _ => false) (l.take k) ++ Dr (fun _ => false) (l.drop k) := by rw [← DU, List.take_append_drop]
 rw [h3, List.length_append] at h2
 omega
theorem OT (l : List AE) : AY (AU l) ≤ AY l := by
 have := Ia (l.map AE.nrm) []
 have e : AY (l.map AE.nrm) = AY l := by simp only [AY, List.map_map]; congr 1; exact List.map_congr_left fun x _ => by simp only [Function.comp_apply, (AE.nrm_fields x).2.2.2.1]
 have e0 : AY [] = 0 := rfl
 unfold AU Cz
 rw [AE.nrmL_eq]
 rw [e, e0] at this; omega
theorem Og (l : List AE) (a b : Int) (hl : (Ap l).1 = Au l) : AY (AR l 0 a).1 + AY (AR l a b).1 + AY (AR l b (Ap l).1).1 ≤ 2 * AY l := by
 have d2 : ∀ l cu, AY (Am l cu).1 + AY (Am l cu).2 ≤ AY l := fun l cu => by
  have := K8 l cu l.length (Nat.le_refl _)
  rw [List.take_length] at this; exact this
 have hall : (Am l (Ap l).1).1 = l := by
  unfold Am
  rw [K9 (fun k _ => by rw [hl]; exact Oo l k) _ (Nat.le_refl _), List.take_length]
 have s : ∀ a b, AY (AR l a b).1 ≤ AY (Am (Am l b).1 a).2 := fun a b => by
  unfold AR
  split
  · exact OT _
  · simp [AY]
 have s1 := s 0 a
 have s2 := s a b
 have s3 := s b (Ap l).1
 rw [hall] at s3
 have e1 := d2 l a
 have e2 := d2 (Am l a).1 0
 have e3 := d2 l b
 have e4 := d2 (Am l b).1 a
 omega
section
variable {hp hp' : AF → Prop} (g : Bool → AF → AF) (sc : BG)
theorem Kq (it : Int → List AE → Bool → Unit → List AE × Unit) (mid : Bool) (l : List AE) : AY (l.map (HP g it mid)) = AY l := by
 simp only [AY, List.map_map]; congr 1
theorem LO (hg : ∀ h mid, hp h → hp' (g mid h)) (hh : ∀ h, hp h → hp' h) {L T : Nat} : ∀ (N : Nat) (id : Int) (l : List AE) (mid : Bool), DG N l → LT hp L T N l → LT hp' (3 * L) (2 * T) N (AN (gF g) sc N id l mid ()).1
 | 0, _, _, _, h, _ => h.elim
 | N + 1, id, l, mid, hd, H => by
  have P : ∀ mid l, DG (N + 1) l → LT hp L T (N + 1) l → ∀ y ∈ l.map (HP g (AN (gF g) sc N) mid), ltI hp' (3 * L) (2 * T) N y := fun mid l hd H y hy => by
   obtain ⟨x, hx, rfl⟩ := List.mem_map.1 hy
   obtain ⟨a, b, c, d⟩ := H.2.2 x hx
   have a6 : (HP g (AN (gF g) sc N) mid x).rows = (if x.kind = 7 then x.rows.map (Oz g (AN (gF g) sc N) mid) else x.rows) := rfl
   have a5 : (HP g (AN (gF g) sc N) mid x).flow = (if x.kind = 6 then (AN (gF g) sc N x.id x.flow mid ()).1 else x.flow) := rfl
   refine ⟨hg _ _ a, ?_, ?_, fun r hr => ?_⟩
   · rw [a5]; split
     · rename_i k; exact LO hg hh N _ _ _ ((hd x hx).2.1 k) b
     · exact Kp hh (by omega) (by omega) b
   · rw [a6]; split
     · rw [List.length_map]; omega
     · omega
   · rw [a6] at hr
     split at hr
     · rename_i k
       obtain ⟨r0, hr0, rfl⟩ := List.mem_map.1 hr
       obtain ⟨d1, d2, d3⟩ := d r0 hr0
       have e : (Oz g (AN (gF g) sc N) mid r0).cells = r0.cells.map (PW g (AN (gF g) sc N) mid) := rfl
       refine ⟨hg _ _ d1, by rw [e, List.length_map]; omega, fun c hc => ?_⟩
       rw [e] at hc
       obtain ⟨c0, hc0, rfl⟩ := List.mem_map.1 hc
       exact ⟨hg _ _ (d3 c0 hc0).1, LO hg hh N _ _ _ (((hd x hx).2.2 k r0 hr0).2 c0 hc0) (d3 c0 hc0).2⟩
     · obtain ⟨d1, d2, d3⟩ := d r hr
       exact ⟨hh _ d1, by omega, fun c hc => ⟨hh _ (d3 c hc).1, Kp hh (by omega) (by omega) (d3 c hc).2⟩⟩
  rw [AN]
  split
  · rename_i hs
    have hm : mid = false := by unfold CJ at hs; cases mid; rfl; simp at hs
    subst hm
    obtain ⟨_, k1, k2, k3⟩ := (FM sc hd).1 hs
    have hR := Co hd
    have z1 := LU 0 sc.a H
    have z2 := LU sc.a sc.b H
    have z3 := LU sc.b (Ap l).1 H
    have p1 := P false _ (CS 0 sc.a (by omega) k1 hd) z1
    have p2 := P true _ (CS sc.a sc.b k1 (by omega) hd) z2
    have p3 := P false _ (CS sc.b (Ap l).1 (by omega) (by rw [hR]; dsimp only; omega) hd) z3
    have ht := Og l sc.a sc.b (by rw [hR])
    have hT := H.2.1
    dsimp only
    rw [EU, EU, EU]
    refine ⟨?_, ?_, fun x hx => ?_⟩
    · have := z1.1; have := z2.1; have := z3.1
      simp only [List.length_append, List.length_map]; omega
    · rw [Bc, Bc, Kq, Kq, Kq]; omega
    · rcases List.mem_append.1 hx with hx | hx
      · rcases List.mem_append.1 hx with hx | hx
        · exact p1 x hx
        · exact p2 x hx
      · exact p3 x hx
  · rw [EU]
    refine ⟨by rw [List.length_map]; have := H.1; omega, by rw [Kq]; have := H.2.1; omega, P mid l hd H⟩
end
theorem Pz {l : List CF} {i : Nat} (h : i < l.length) : HN l i ∈ l := by
 have : HN l i = l[i] := by simp [HN, List.getD, h]
 rw [this]; exact List.getElem_mem h
theorem Qw {l : List CF} {j : Nat} (h : j + 1 < l.length) (x : CF) : x ∈ JT l j ↔ x ∈ l := by
 have e1 : HN l j = l[j] := by simp [HN, List.getD, show j < l.length by omega]
 have e2 : HN l (j + 1) = l[j + 1] := by simp [HN, List.getD, h]
 unfold JT
 have d1 : l.getD j Ua = l[j] := e1
 have d2 : l.getD (j + 1) Ua = l[j + 1] := e2
 constructor
 · intro hx
   rcases List.mem_or_eq_of_mem_set hx with hx | rfl
   · rcases List.mem_or_eq_of_mem_set hx with hx | rfl
     · exact hx
     · exact Pz (by omega)
   · exact Pz h
 · intro hx
   obtain ⟨i, hi, rfl⟩ := List.mem_iff_getElem.1 hx
   rw [List.mem_iff_getElem?]
   by_cases c1 : i = j
   · subst c1
     exact ⟨i + 1, by rw [List.getElem?_set_ne (by omega), List.getElem?_set_self (by omega)]; exact congrArg some e1⟩
   · by_cases c2 : i = j + 1
     · subst c2
       exact ⟨j, by rw [List.getElem?_set_self (by rw [List.length_set]; omega)]; exact congrArg some e2⟩
     · exact ⟨i, by rw [List.getElem?_set_ne (by omega), List.getElem?_set_ne (by omega)]; simp [hi]⟩
theorem Mr : ∀ (j : Nat) {l : List CF}, j < l.length → ∀ x, x ∈ FQ l j ↔ x ∈ l
 | 0, _, _, x => by rw [FQ]
 | j + 1, l, h, x => by
  rw [FQ]
  split
  · rw [Mr j (by rw [J4]; omega), Qw h]
  · rfl
theorem J3 (l : List CF) : ∀ i, i ≤ l.length → ∀ x, x ∈ DB l i ↔ x ∈ l
 | 0, _, x => by rw [DB]
 | i + 1, h, x => by rw [DB, Mr i (by rw [Gn]; omega), J3 l i (by omega)]
theorem JG {h : AF} {r : Int} : r ∈ h.revs ↔ (h.ins ≠ 0 ∧ h.ins = r) ∨ (∃ d ∈ h.dels, d.rev = r) ∨ ∃ y ∈ h.layers, y.rev = r := by
 unfold AF.revs
 by_cases e : h.ins = 0
 · simp [e]
 · simp [e, eq_comm]
section
variable {m2 : List Int} {rev nx : Int}
theorem QF {h : AF} (H : DJ m2 h) (_h0 : nx ≠ 0) (hn : nx ∉ m2) : h.uses nx = false := by
 simp only [AF.uses, decide_eq_false_iff_not, JG]
 rintro (⟨h1, h2⟩ | ⟨d, h1, h2⟩ | ⟨d, h1, h2⟩)
 · rcases H.ins with e | e
   · exact h1 e
   · exact hn (h2 ▸ e)
 · exact hn (h2 ▸ H.dels d h1)
 · exact hn (h2 ▸ H.layers d h1)
theorem Lb {h : AF} {r : Int} : (∃ d ∈ (Hj (fun y => y == rev) nx h).dels, d.rev = r) ↔ ∃ d ∈ h.dels, (if d.rev = rev then nx else d.rev) = r := by
 have e : (Hj (fun y => y == rev) nx h).dels = DB (h.dels.map (CM (fun y => y == rev) nx)) h.dels.length := rfl
 rw [e]
 constructor
 · rintro ⟨d, hd, hr⟩
   rw [J3 _ _ (by rw [List.length_map]; exact Nat.le_refl _)] at hd
   obtain ⟨d0, h0, rfl⟩ := List.mem_map.1 hd
   exact ⟨d0, h0, by simpa [CM, L9] using hr⟩
 · rintro ⟨d, hd, hr⟩
   exact ⟨CM (fun y => y == rev) nx d, (J3 _ _ (by rw [List.length_map]; exact Nat.le_refl _) _).2 (List.mem_map_of_mem hd), by simpa [CM, L9] using hr⟩
theorem Ii {h : AF} {r : Int} : (∃ d ∈ (Hj (fun y => y == rev) nx h).layers, d.rev = r) ↔ ∃ d ∈ h.layers, (if d.rev = rev then nx else d.rev) = r := by
 have e : (Hj (fun y => y == rev) nx h).layers = h.layers.map (B7 (fun y => y == rev) nx) := rfl
 rw [e]
 constructor
 · rintro ⟨d, hd, hr⟩
   obtain ⟨d0, h0, rfl⟩ := List.mem_map.1 hd
   exact ⟨d0, h0, by simpa [B7, L9] using hr⟩
 · rintro ⟨d, hd, hr⟩
   exact ⟨B7 (fun y => y == rev) nx d, List.mem_map_of_mem hd, by simpa [B7, L9] using hr⟩
theorem NX {h : AF} : (Hj (fun y => y == rev) nx h).ins = if h.ins ≠ 0 ∧ h.ins = rev then nx else h.ins := by
 have e : (Hj (fun y => y == rev) nx h).ins = GA (fun y => y == rev) nx h.ins := rfl
 rw [e, GA]; simp
theorem SK {h : AF} (H : DJ m2 h) (h0 : nx ≠ 0) (hn : nx ∉ m2) : (Hj (fun y => y == rev) nx h).uses nx = h.uses rev := by
 simp only [AF.uses, decide_eq_decide, JG, Lb, Ii, NX]
 constructor
 · rintro (⟨h1, h2⟩ | ⟨d, h1, h2⟩ | ⟨d, h1, h2⟩)
   · split at h2
     · rename_i c; exact .inl c
     · rename_i c
       rcases H.ins with e | e
       · rw [if_neg c] at h1; exact absurd e h1
       · exact absurd (h2 ▸ e) hn
   · split at h2
     · rename_i c; exact .inr (.inl ⟨d, h1, c⟩)
     · exact absurd (h2 ▸ H.dels d h1) hn
   · split at h2
     · rename_i c; exact .inr (.inr ⟨d, h1, c⟩)
     · exact absurd (h2 ▸ H.layers d h1) hn
 · rintro (h1 | ⟨d, h1, h2⟩ | ⟨d, h1, h2⟩)
   · exact .inl ⟨by rw [if_pos h1]; exact h0, by rw [if_pos h1]⟩
   · exact .inr (.inl ⟨d, h1, by rw [if_pos h2]⟩)
   · exact .inr (.inr ⟨d, h1, by rw [if_pos h2]⟩)
theorem SJ {h : AF} (hne : nx ≠ rev) : (Hj (fun y => y == rev) nx h).uses rev = false := by
 simp only [AF.uses, decide_eq_false_iff_not, JG, Lb, Ii, NX]
 rintro (⟨h1, h2⟩ | ⟨d, h1, h2⟩ | ⟨d, h1, h2⟩)
 · split at h2
   · exact hne h2
   · rename_i c1; rw [if_neg c1] at h1; exact c1 ⟨h1, h2⟩
 · split at h2
   · exact hne h2
   · rename_i c; exact c h2
 · split at h2
   · exact hne h2
   · rename_i c; exact c h2
theorem UM {h : AF} (H : LK m2 h) : LK (nx :: m2) (Hj (fun y => y == rev) nx h) := by
 obtain ⟨Hs, H⟩ := H
 have e : (Hj (fun y => y == rev) nx h).dels = DB (h.dels.map (CM (fun y => y == rev) nx)) h.dels.length := rfl
 have l1 : (Hj (fun y => y == rev) nx h).dels.length = h.dels.length := by rw [e, Gn, List.length_map]
 have l2 : (Hj (fun y => y == rev) nx h).layers.length = h.layers.length := List.length_map _
 refine ⟨⟨Hs.props, by rw [l1]; exact Hs.dels, by rw [l2]; exact Hs.layers⟩, ⟨?_, by rw [l1]; exact H.dlen, fun x hx => ?_, by rw [l2]; exact H.llen, fun x hx => ?_⟩⟩
 · rw [NX]
   split
   · exact .inr (by simp)
   · rcases H.ins with e | e
     · exact .inl e
     · exact .inr (by simp [e])
 · obtain ⟨d, h1, h2⟩ := (Lb (h := h) (rev := rev) (nx := nx)).1 ⟨x, hx, rfl⟩
   rw [← h2]; split
   · simp
   · simp [H.dels d h1]
 · obtain ⟨d, h1, h2⟩ := (Ii (h := h) (rev := rev) (nx := nx)).1 ⟨x, hx, rfl⟩
   rw [← h2]; split
   · simp
   · simp [H.layers d h1]
theorem HZ {h : AF} (H : LK m2 h) : LK (nx :: m2) h :=
 ⟨H.1, ⟨H.2.ins.imp id fun e => by simp [e], H.2.dlen, fun x hx => by simp [H.2.dels x hx], H.2.llen, fun x hx => by simp [H.2.layers x hx]⟩⟩
end
theorem Ic {T : Int → Prop} : ∀ {N : Nat} {l : List AE} (p : BT), Dz T N l → DG N l → ∀ f ∈ AE.flL p l, T f.id
 | 0, _, _, _, h, _, _ => h.elim
 | N + 1, l, p, hg, hd, f, hf => by
  rw [NM, List.mem_flatMap] at hf
  obtain ⟨x, hx, hf⟩ := hf
  obtain ⟨g1, g2, g3, g4⟩ := hg x hx
  obtain ⟨_, d6, d7⟩ := hd x hx
  cases x with
  | mk k c i t h fl r =>
   simp only [AE.kind, AE.id, AE.flow, AE.rows] at g1 g2 g3 g4 d6 d7
   rw [AE.fl] at hf
   split at hf
   · rename_i k6
     rcases List.mem_cons.1 hf with rfl | hf
     · exact g2 k6
     · exact Ic _ g3 (d6 k6) f hf
   · split at hf
     · rename_i k7
       rw [Kn, List.mem_flatMap] at hf
       obtain ⟨r0, hr, hf⟩ := hf
       have a := g4 r0 hr
       have b := (d7 k7 r0 hr).2
       cases r0 with
       | mk rh rc =>
        rw [AS.fl, Km, List.mem_flatMap] at hf
        obtain ⟨c0, hc, hf⟩ := hf
        obtain ⟨a1, a2⟩ := a c0 hc
        have b1 := b c0 hc
        cases c0 with
        | mk ci ch cf =>
         rw [AK.fl] at hf
         rcases List.mem_cons.1 hf with rfl | hf
         · exact a1
         · exact Ic _ a2 b1 f hf
     · cases hf
section
variable (g : Bool → AF → AF) (sc : BG)
theorem Pn {T : Int → Prop} {N : Nat} {id : Int} {l : List AE} {mid : Bool} (hg : Dz T N l) (hd : DG N l) : Au (AU (AN (gF g) sc N id l mid ()).1) = Au l := by
 have h := Hd g sc N id l mid hg hd
 rw [← FG (fun _ => false), ← FG (fun _ => false) l, Gq _ h.2.1, h.1]
theorem NF (u : AF → Bool) : ∀ (N : Nat) (id : Int) (l : List AE) (p : BT), (∀ f ∈ CA id l p, f.id ≠ sc.id) → cw u true sc N id l false = 0
 | 0, _, _, _, _ => rfl
 | N + 1, id, l, p, h => by
  have e : id ≠ sc.id := h ⟨id, l, p⟩ (List.mem_cons_self ..)
  have n1 : ¬ CJ sc id l false = true := by simp [CJ, e]
  rw [cw, if_neg n1]
  unfold E8
  have z : ∀ {α : Type} (f : α → Nat) (l : List α), (∀ x ∈ l, f x = 0) → (l.map f).sum = 0 := fun f l => by
   induction l with
   | nil => intro _; rfl
   | cons x l ih => intro h; rw [List.map_cons, List.sum_cons, h x (by simp), ih fun y hy => h y (by simp [hy])]
  refine z _ _ fun x hx => ?_
  unfold Ss LP
  have hs : ∀ k, Fh true false k = 0 := fun k => rfl
  rw [hs, Nat.zero_add]
  by_cases k6 : x.kind = 6
  · rw [if_pos k6]
    refine NF u N _ _ p.inNote fun f hf => h f (List.mem_cons_of_mem _ (Jq p hx ?_))
    cases x; simp only [AE.kind] at k6; rw [AE.fl, if_pos k6]; exact hf
  · rw [if_neg k6]
    by_cases k7 : x.kind = 7
    · rw [if_pos k7]
      refine z _ _ fun r hr => ?_
      unfold QV
      rw [hs, Nat.zero_add]
      refine z _ _ fun c hc => ?_
      unfold QT
      rw [hs, Nat.zero_add]
      refine NF u N _ _ p.inTable fun f hf => h f (List.mem_cons_of_mem _ (Jq p hx ?_))
      cases x; simp only [AE.kind] at k7; rw [AE.fl, if_neg (by rw [k7]; decide), if_pos k7]
      refine NS _ hr ?_
      cases r; rw [AS.fl]
      refine NR _ hc ?_
      cases c; exact hf
    · rw [if_neg k7]
theorem Jk {m2 : List Int} {hp : AF → Prop} {K : Nat} : ∀ (N : Nat) (id : Int) (l : List AE) (p p' : BT), Oy m2 N l → EZ hp K N l → id ∉ FK N l → (FK N l).Nodup →
 ∀ f' ∈ CA id (AU (AN (gF g) sc N id l false ()).1) p', f'.id = sc.id → ∃ f ∈ CA id l p, f.id = sc.id ∧ Au f'.items = Au f.items ∧ ∃ M, DG (M + 1) f'.items
 | 0, _, _, _, _, _, h, _, _ => h.elim
 | N + 1, id, l, p, p', hk, hl, hid, hnd => by
  have hd := Hf hk hl
  have hgT := Gi (T := fun _ => True) hk fun _ _ => trivial
  intro f' hf' e'
  have h0 := Hd g sc (N + 1) id l false hgT hd
  rcases List.mem_cons.1 hf' with rfl | hf'
  · exact ⟨⟨id, l, p⟩, List.mem_cons_self .., e', Pn g sc hgT hd, N, EO h0.2.1⟩
  by_cases e : id = sc.id
  · have hg := Gi (T := fun i => i ≠ sc.id) hk fun i hi h => hid (by rw [e, ← h]; exact hi)
    have h1 := Hd g sc (N + 1) id l false hg hd
    exact absurd e' (Ic _ (FJ h1.2.2) (EO h1.2.1) f' hf')
  · have n1 : ¬ CJ sc id l false = true := by simp [CJ, e]
    rw [AN, if_neg n1, EU] at hf' h0
    have key : ∀ y ∈ AU (l.map (HP g (AN (gF g) sc N) false)), ∀ f' ∈ AE.fl p' y, f'.id = sc.id → ∃ f ∈ CA id l p, f.id = sc.id ∧ Au f'.items = Au f.items ∧ ∃ M, DG (M + 1) f'.items := by
     unfold AU Cz
     rw [AE.nrmL_eq]
     refine Ft (p := fun y => ∀ f' ∈ AE.fl p' y, f'.id = sc.id → ∃ f ∈ CA id l p, f.id = sc.id ∧ Au f'.items = Au f.items ∧ ∃ M, DG (M + 1) f'.items) (fun x t h => by cases x; exact h) _ [] (by simp) fun y hy => ?_
     obtain ⟨x', hx', rfl⟩ := List.mem_map.1 hy
     have hx7 := (h0.2.1 x' hx').2.2
     obtain ⟨x, hx, rfl⟩ := List.mem_map.1 hx'
     obtain ⟨_, _, hf, _, hrs⟩ := hk x hx
     obtain ⟨x1, x2, _, x4⟩ := hl.2.2 x hx
     have nd : (FV N x).Nodup := Gg (f := FV N) hnd hx
     have a1 : (HP g (AN (gF g) sc N) false x).kind = x.kind ∧ (HP g (AN (gF g) sc N) false x).id = x.id ∧ (HP g (AN (gF g) sc N) false x).flow = (if x.kind = 6 then (AN (gF g) sc N x.id x.flow false ()).1 else x.flow) ∧ (HP g (AN (gF g) sc N) false x).rows = (if x.kind = 7 then x.rows.map (Oz g (AN (gF g) sc N) false) else x.rows) := ⟨rfl, rfl, rfl, rfl⟩
     obtain ⟨a1, a2, a3, a4⟩ := a1
     obtain ⟨e0, _, e00, _, _, e2, _⟩ := AE.nrm_fields (HP g (AN (gF g) sc N) false x)
     have e3 : x.kind = 7 → (AE.nrm (HP g (AN (gF g) sc N) false x)).rows = (HP g (AN (gF g) sc N) false x).rows.map AS.nrm := fun k => JJ fun r hr => (hx7 (by rw [a1]; exact k) r hr).1
     rw [a1] at e0
     rw [a2] at e00
     rw [a3] at e2
     rw [a4] at e3
     generalize AE.nrm (HP g (AN (gF g) sc N) false x) = y at *
     intro f' hf' e'
     cases y with
     | mk k c i t h fl r =>
      have k0 : k = x.kind := e0
      have k00 : i = x.id := e00
      have j2 : fl = AU (if x.kind = 6 then (AN (gF g) sc N x.id x.flow false ()).1 else x.flow) := e2
      have j3 : x.kind = 7 → r = (if x.kind = 7 then x.rows.map (Oz g (AN (gF g) sc N) false) else x.rows).map AS.nrm := e3
      clear e2 e3 e0 e00
      subst k0
      subst k00
      rw [AE.fl] at hf'
      split at hf'
      · rename_i k6
        rw [if_pos k6] at j2
        rw [FV, if_pos k6, List.nodup_cons] at nd
        rw [j2] at hf'
        obtain ⟨f, q1, q2, q3, q4⟩ := Jk N _ _ p.inNote p'.inNote hf x2 nd.1 nd.2 f' hf' e'
        refine ⟨f, List.mem_cons_of_mem _ (Jq p hx ?_), q2, q3, q4⟩
        cases x; simp only [AE.kind] at k6; rw [AE.fl, if_pos k6]; exact q1
      · rename_i k6
        split at hf'
        · rename_i k7
          have j3 := j3 k7
          rw [if_pos k7] at j3
          rw [j3, Kn, List.mem_flatMap] at hf'
          obtain ⟨r1, hr1, hf'⟩ := hf'
          rw [List.map_map] at hr1
          obtain ⟨r0, hr0, rfl⟩ := List.mem_map.1 hr1
          obtain ⟨y1, _, y3⟩ := x4 r0 hr0
          have hcc : (AS.nrm (Oz g (AN (gF g) sc N) false r0)).cells = (r0.cells.map (PW g (AN (gF g) sc N) false)).map AK.nrm := (AS.nrm_cells _).1
          simp only [Function.comp] at hf'
          generalize AS.nrm (Oz g (AN (gF g) sc N) false r0) = rr at hcc hf'
          cases rr with
          | mk rh rc =>
           rw [AS.fl, Km, List.mem_flatMap] at hf'
           obtain ⟨c1, hc1, hf'⟩ := hf'
           rw [show rc = _ from hcc, List.map_map] at hc1
           obtain ⟨c0, hc0, rfl⟩ := List.mem_map.1 hc1
           obtain ⟨z1, z2⟩ := y3 c0 hc0
           have i2 : (AK.nrm (PW g (AN (gF g) sc N) false c0)).id = c0.id := (AK.nrm_all _).2.1
           have i3 : (AK.nrm (PW g (AN (gF g) sc N) false c0)).flow = AU (AN (gF g) sc N c0.id c0.flow false ()).1 := (AK.nrm_all _).1
           simp only [Function.comp] at hf'
           generalize AK.nrm (PW g (AN (gF g) sc N) false c0) = cc at i2 i3 hf'
           cases cc with
           | mk ci ch cf =>
            simp only [AK.id, AK.flow] at i2 i3
            subst i2
            subst i3
            rw [AK.fl] at hf'
            rw [FV, if_neg k6, if_pos k7, List.nodup_cons] at nd
            have g3 : (c0.id :: FK N c0.flow).Nodup := Gg (f := fun c : AK => c.id :: FK N c.flow) (Gg (f := KX N) nd.2 hr0) hc0
            rw [List.nodup_cons] at g3
            obtain ⟨f, q1, q2, q3, q4⟩ := Jk N _ _ p.inTable _ ((hrs r0 hr0).2 c0 hc0).2 z2 g3.1 g3.2 f' hf' e'
            refine ⟨f, List.mem_cons_of_mem _ (Jq p hx ?_), q2, q3, q4⟩
            cases x; simp only [AE.kind] at k7; rw [AE.fl, if_neg (by rw [k7]; decide), if_pos k7]
            refine NS _ hr0 ?_
            cases r0; rw [AS.fl]
            refine NR _ hc0 ?_
            cases c0; exact q1
        · cases hf'
    rw [NM, List.mem_flatMap] at hf'
    obtain ⟨y, hy, hf'⟩ := hf'
    exact key y hy f' hf' e'
end
theorem M9 {c : Nat → Int} {k n : Nat} (h1 : ∀ m, m < k → c m < 0) (h2 : ∀ m, k ≤ m → m < n → ¬ c m < 0) : ∀ (d i j : Nat), j - i ≤ d → i ≤ k → k ≤ j → j ≤ n → E6 c i j = k
 | d, i, j, hd, hi, hj, hn => by
  rw [E6]
  split
  · rename_i hij
    cases d with
    | zero => omega
    | succ d =>
     split
     · rename_i hc
       refine M9 h1 h2 d _ j (by omega) ?_ hj hn
       rcases Nat.lt_or_ge ((i + j) / 2) k with h | h
       · omega
       · exact absurd hc (h2 _ h (by omega))
     · rename_i hc
       refine M9 h1 h2 d i _ (by omega) hi ?_ (by omega)
       rcases Nat.lt_or_ge ((i + j) / 2) k with h | h
       · exact absurd (h1 _ h) hc
       · exact h
  · omega
theorem N0 {f : Nat → Int} {n : Nat} {x : Int} (hs : ∀ i j, i ≤ j → j < n → f i ≤ f j) (hx : ∃ j, j < n ∧ f j = x) {c : Nat → Int} (hc : ∀ i, i < n → (c i < 0 ↔ f i < x) ∧ (c i = 0 ↔ f i = x)) : (A7 c n).2 = true := by
 obtain ⟨j, hj, hfj⟩ := hx
 have key : ∀ j, j < n → x ≤ f j → ∃ k, k ≤ j ∧ x ≤ f k ∧ ∀ m, m < k → f m < x := by
  intro j
  induction j with
  | zero => intro _ h; exact ⟨0, Nat.le_refl _, h, fun m hm => by omega⟩
  | succ j ih =>
   intro hj h
   by_cases hc : x ≤ f j
   · obtain ⟨k, k1, k2, k3⟩ := ih (by omega) hc
     exact ⟨k, by omega, k2, k3⟩
   · exact ⟨j + 1, Nat.le_refl _, h, fun m hm => by have := hs m j (by omega) (by omega); omega⟩
 obtain ⟨k, k1, k2, k3⟩ := key j hj (by omega)
 have hk : k < n := by omega
 have e : f k = x := by have := hs k j k1 hj; omega
 have hg : E6 c 0 n = k := M9 (fun m hm => (hc m (by omega)).1.2 (k3 m hm)) (fun m h1 h2 => by rw [(hc m h2).1]; have := hs k m h1 h2; omega) n 0 n (by omega) (Nat.zero_le _) (by omega) (Nat.le_refl _)
 unfold A7
 rw [hg]
 simp only [decide_eq_true_eq]
 exact ⟨hk, (hc k hk).2.2 e⟩
theorem PS {U : List Int} (hs : U.Pairwise (· ≤ ·)) {x : Int} (hx : x ∈ U) : (A7 (KY U x) U.length).2 = true := by
 obtain ⟨j, hj, e⟩ := List.mem_iff_getElem.1 hx
 refine N0 (f := fun i => U.getD i 0) (x := x) (fun i k hik hk => ?_) ⟨j, hj, by simp [hj, e]⟩ fun i hi => ?_
 · have h1 : U.getD i 0 = U[i]'(by omega) := by simp [List.getD, show i < U.length by omega]
   have h2 : U.getD k 0 = U[k] := by simp [List.getD, hk]
   rw [h1, h2]
   rcases Nat.lt_or_ge i k with h | h
   · exact List.pairwise_iff_getElem.1 hs i k (by omega) hk h
   · have : i = k := by omega
     subst this; omega
 · have h1 : U.getD i 0 = U[i] := by simp [List.getD, hi]
   rw [h1]
   unfold KY
   rw [List.getElem?_eq_getElem hi]
   dsimp only
   by_cases c1 : U[i] < x
   · rw [if_pos c1]; omega
   · rw [if_neg c1]
     by_cases c2 : U[i] = x
     · rw [if_pos c2]; omega
     · rw [if_neg c2]; omega
theorem Oq {d : AI} {x : Int} (h0 : x ≠ 0) (hx : x ∈ AE.usL d.flow ++ d.«end».all) : (A7 (KY (GS d) x) (GS d).length).2 = true := by
 refine PS ?_ ?_
 · unfold GS Cg
   have := List.pairwise_mergeSort (le := fun x y : Int => decide (x ≤ y)) (fun a b c h1 h2 => by simp at *; omega) (fun a b => by simp; omega) ((BU [] (AE.usL d.flow ++ d.«end».all)).filter fun x => decide (x ≠ 0))
   exact this.imp fun h => by simpa using h
 · unfold GS Cg
   rw [List.mem_mergeSort, List.mem_filter]
   exact ⟨(HS x _ _).2 (.inr hx), by simpa using h0⟩
theorem Ld {L : List BF} (h : Cs L = 0) : ∀ i j, (hij : i < j) → (hj : j < L.length) → (L[i]'(by omega)).id < L[j].id := by
 have hl : ¬ 256 < L.length := fun g => by rw [Cs, if_pos g] at h; cases h
 rw [Cs, if_neg hl] at h
 have step : ∀ i, (hi : i + 1 < L.length) → (L[i]'(by omega)).id < L[i + 1].id := fun i hi => by
  have := Jd h (i + 1) hi
  unfold FW at this
  rw [List.getElem?_eq_getElem hi, Nat.add_sub_cancel, List.getElem?_eq_getElem (show i < L.length by omega)] at this
  dsimp only at this
  by_cases e : Cc L[i + 1] = 0
  · rw [if_pos e, if_neg (by omega)] at this
    unfold HU at this
    by_cases c1 : L[i + 1].id < (L[i]'(by omega)).id
    · simp [c1] at this
    · by_cases c2 : (L[i]'(by omega)).id < L[i + 1].id
      · exact c2
      · simp [c1, c2] at this
  · rw [if_neg e] at this; exact absurd this e
 intro i j
 induction j with
 | zero => intro hij; omega
 | succ j ih =>
  intro hij hj
  rcases Nat.lt_or_ge i j with g | g
  · have := ih g (by omega); have := step j hj; omega
  · have : i = j := by omega
    subst this; exact step i hj
theorem Le {L : List BF} {id : Int} (h : ∃ r ∈ L, r.id = id) : (B8 L id).2 = true := by
 unfold B8
 by_cases hc : Cs L = 0
 · rw [if_pos hc]
   have hs := Ld hc
   obtain ⟨r, hr, e⟩ := h
   obtain ⟨j, hj, e2⟩ := List.mem_iff_getElem.1 hr
   have : (A7 (Hq L id) L.length).2 = true := by
    have g : ∀ i, (hi : i < L.length) → (L.getD i GE).id = L[i].id := fun i hi => by simp [List.getD, hi]
    refine N0 (f := fun i => (L.getD i GE).id) (x := id) (fun i k hik hk => ?_) ⟨j, hj, by rw [g j hj, e2, e]⟩ fun i hi => ?_
    · rw [g i (by omega), g k hk]
      rcases Nat.lt_or_ge i k with q | q
      · have := hs i k q hk; omega
      · have : i = k := by omega
        subst this; omega
    · rw [g i hi]
      unfold Hq HU
      rw [List.getElem?_eq_getElem hi]
      dsimp only
      by_cases c1 : L[i].id < id
      · rw [if_pos c1]; omega
      · rw [if_neg c1]
        by_cases c2 : id < L[i].id
        · rw [if_pos c2]; omega
        · rw [if_neg c2]; omega
   rw [if_pos this]
 · rw [if_neg hc]
   obtain ⟨r, hr, e⟩ := h
   induction L with
   | nil => cases hr
   | cons a L ih =>
    clear hc
    have : ∀ L : List BF, r ∈ L → (GD id L).2 = true := fun L => by
     induction L with
     | nil => intro h; cases h
     | cons b L ih =>
      intro h
      rw [GD]
      split
      · rfl
      · rename_i hb
        rcases List.mem_cons.1 h with rfl | h
        · exact absurd e hb
        · exact ih h
    exact this _ hr
section
variable {P : Program} {E : Bl} {evs : Operand → SV} {o : Oper} {h : Hp} {n : Nat} {K : SV → Hp → Nat → Prop}
def Fb (P : Program) (kt : TypeId) (cs : List SV) : List (SV × SV) → Nat → Option (Option (Nat × SV))
 | [], _ => some none
 | e :: es, i => match e.1 with
  | .agg ds => match CV P cs ds (CR P kt) with
   | some true => some (some (i, e.2))
   | some false => Fb P kt cs es (i + 1)
   | none => none
  | _ => none
structure Th (P : Program) (kt : TypeId) : Prop where
 ht : P.underlying kt = some (.struct (P.fieldsOf kt))
 hp : P.stoodInHeld kt = false
theorem MS {c : Cx} {kt : TypeId} (hk : Th P kt) {cs ds : List SV} {v u : Value} {b : Bool} (hv : V c (.agg cs) v) (hu : V c (.agg ds) u) (hb : CV P cs ds (CR P kt) = some b) (w : World) : (Op.equal kt v u).run P w = .ok b w := by
 obtain ⟨vs, e1, h1, h2⟩ := Fp hv
 obtain ⟨us, e2, h3, h4⟩ := Fp hu
 have hr := G2 h1 h3 h2 h4 9998 w _ _ hb
 rw [e1, e2]
 show (Op.equalIn 10000 kt _ _).run P w = _
 rw [run_equalIn_struct w 9999 kt _ _ hk.ht hk.hp]; exact hr
theorem Jj {c : Cx} {kt : TypeId} (hk : Th P kt) {cs : List SV} {v : Value} (hv : V c (.agg cs) v) (w : World) :
 ∀ (es : List (SV × SV)) (ents : List MapEntry) (i : Nat) (r : Option (Nat × SV)), AQ (fun (p : SV × SV) (e : MapEntry) => V c p.1 e.key ∧ V c p.2 e.val) es ents → Fb P kt cs es i = some r →
  (r = none ∧ (Instr.findAsking kt v ents i).run P w = .ok none w) ∨ ∃ j x y e ds, r = some (i + j, x) ∧ (Instr.findAsking kt v ents i).run P w = .ok (some (i + j, y)) w ∧ V c x y ∧ ents[j]? = some e ∧ V c (.agg ds) e.key ∧ CV P cs ds (CR P kt) = some true
 | [], ents, i, r, h, hf => by
  simp only [Fb, Option.some.injEq] at hf
  subst hf
  rw [h.nil_left]
  exact .inl ⟨rfl, by simp [Instr.findAsking]⟩
 | p :: es, [], i, r, h, _ => h.elim
 | p :: es, e :: ents, i, r, h, hf => by
  obtain ⟨⟨h1, h2⟩, h3⟩ := h
  simp only [Fb] at hf
  split at hf <;> try cases hf
  rename_i ds hds
  rw [hds] at h1
  split at hf
  · rename_i he
    cases hf
    have := MS hk hv h1 he w
    exact .inr ⟨0, p.2, e.val, e, ds, rfl, by simp [Instr.findAsking, this], h2, rfl, h1, he⟩
  · rename_i he
    have := MS hk hv h1 he w
    rcases Jj hk hv w es ents (i + 1) r h3 hf with ⟨rfl, hg⟩ | ⟨j, x, y, e', ds', rfl, hg, hxy, hj, hs⟩
    · exact .inl ⟨rfl, by simp [Instr.findAsking, this, hg]⟩
    · exact .inr ⟨j + 1, x, y, e', ds', by congr 2; omega, by rw [show i + (j + 1) = i + 1 + j by omega]; simp [Instr.findAsking, this, hg], hxy, by simpa using hj, hs⟩
  · cases hf
end
theorem K3 (b : Bool) (x y : Int) (w : World) : (Instr.checkKey b 10000 89 (.agg #[.int .i64 x, .int .i64 y])).run Tryz.prog w = .ok () w := by
 have u89 : Tryz.prog.underlying 89 = _ := Tryz.underlying89
 have u3 : Tryz.prog.underlying 3 = _ := Tryz.underlying3
 have g3 : ∀ n z, (Instr.checkKey b (n + 1) 3 (.int .i64 z)).run Tryz.prog w = .ok () w := fun n z => by simp [Instr.checkKey, AJ u3]
 have ha : Fo Tryz.prog 3 = some false := by simp [go_sem]
 have p : ∀ (cs : Array Value) off v, cs[off]? = some v → (part 3 cs off).run Tryz.prog w = .ok v w := fun cs off v h => by simp [part, EJ ha, h]
 have gen : ∀ n, (Instr.checkKey b (n + 2) 89 (.agg #[.int .i64 x, .int .i64 y])).run Tryz.prog w = .ok () w := fun n => by
  rw [Instr.checkKey]
  simp only [Sem.run_bind, AJ u89, Result.andThen_ok]
  rw [← Array.forIn_toList]
  simp [List.forIn_cons, p #[.int .i64 x, .int .i64 y] 0 (.int .i64 x) rfl, p #[.int .i64 x, .int .i64 y] 1 (.int .i64 y) rfl, g3]
 exact gen 9998
section
variable {E : Bl} {evs : Operand → SV} {o : Oper} {h : Hp} {n : Nat} {K : SV → Hp → Nat → Prop}
theorem Fj {kt : TypeId} {fs : Array Field} {v : Value} {ents : List MapEntry} {r : Option (Nat × Value)} {w : World} (hu : Tryz.prog.underlying kt = some (.struct fs)) (hf : (Instr.findAsking kt v ents 0).run Tryz.prog w = .ok r w) : (Instr.findKey kt v ents).run Tryz.prog w = .ok r w := by
 cases ents with
 | nil =>
  simp [Instr.findAsking] at hf
  subst hf
  simp [Instr.findKey, AJ hu, Instr.findNow]
 | cons e es =>
  have : Instr.findNow (.struct fs) v (e :: es) 0 = none := by simp [Instr.findNow, Instr.sameNow]
  simp [Instr.findKey, AJ hu, this, hf]
theorem Tc : Th Tryz.prog 89 := ⟨by kernel_rfl, by kernel_rfl⟩
theorem Tl {c : Cx} {a b : Int} {v : Value} (h : V c (.agg [.int .i64 a, .int .i64 b]) v) : v = .agg #[.int .i64 a, .int .i64 b] := by
 simp only [V, VL] at h
 obtain ⟨vs, rfl, ⟨_, _, rfl, rfl, _, _, rfl, rfl, rfl⟩, _⟩ := h
 rfl
theorem NZ {m x : Operand} {q : Nat} {a b : Int} {es : List (SV × SV)} {r : Option (Nat × SV)} (ho : o.op = .lookup 85 m x false) (hm : evs m = .map q) (hq : h q = some (.map es)) (hx : evs x = .agg [.int .i64 a, .int .i64 b])
 {v : SV} (hv0 : (match r with | some p => p.2 | none => BN Tryz.prog 90) = v) (hf : Fb Tryz.prog 89 [.int .i64 a, .int .i64 b] es 0 = some r) (hk : K v h n) : Dw E Tryz.prog evs o h n K := by
 subst hv0
 refine ⟨by rw [ho]; simp, fun c ev _ _ R F hv => ?_⟩
 have hvm := hv m
 have hvx := hv x
 rw [hm, V] at hvm
 obtain ⟨bq, hρ, hev⟩ := hvm
 rw [hx] at hvx
 have hkey := Tl hvx
 obtain ⟨b', ents, clock, g1, g2, g3, _⟩ := R.obj _ _ hq
 rw [hρ] at g1; cases g1
 have hgo : (getObj bq).run Tryz.prog c.w = .ok (.map ents clock) c.w := by simp [getObj, Sem.run, g2]
 have u85 : Tryz.prog.underlying 85 = some (.map 89 90) := Tryz.underlying85
 have hck : ∀ em, (Instr.checkKey em 10000 89 (ev x)).run Tryz.prog c.w = .ok () c.w := fun em => by rw [hkey]; exact K3 em a b c.w
 have hst : (BN Tryz.prog 90).storable = true := by simp [go_sem]
 obtain ⟨i, z, hi, hzz, hze⟩ := Bp hst
 have hvz := Cj c z
 rw [← hze] at hvz
 rcases Jj Tc hvx c.w es ents.toList 0 r g3 hf with ⟨rfl, hg⟩ | ⟨j, x2, y2, e2, ds, rfl, hg, hxy, _, _⟩
 · have hfk := Fj Tryz.underlying89 hg
   refine ⟨z, BN Tryz.prog 90, h, n, c, ?_, hvz, R, F, FY.refl n c, hk⟩
   simp [execOp, ho, Instr.lookup, AJ u85, hev, hgo, hck, hfk, Ej hi hzz]
 · have hfk := Fj Tryz.underlying89 hg
   refine ⟨y2, x2, h, n, c, ?_, hxy, R, F, FY.refl n c, hk⟩
   simp [execOp, ho, Instr.lookup, AJ u85, hev, hgo, hck, hfk]
end
section
variable {E : Bl} {evs : Operand → SV} {o : Oper} {h : Hp} {n : Nat} {K : SV → Hp → Nat → Prop}
theorem fo89 : (CR Tryz.prog 89).map (fun f => (f.name == "_", f.type, f.offset)) = [(false, 3, 0), (false, 3, 1)] := by kernel_rfl
theorem UP {a b : Int} {ds : List SV} (hl : ds.length = 2) (hf : CV Tryz.prog [.int .i64 a, .int .i64 b] ds (CR Tryz.prog 89) = some true) : ds = [.int .i64 a, .int .i64 b] := by
 rw [Dk, fo89] at hf
 match ds, hl with
 | [x, y], _ =>
  have ti : (Kd Tryz.prog 3).isSome = true := by simp [go_sem]
  have ts : Bb Tryz.prog 3 = 1 := by simp [go_sem]
  have ta : Fo Tryz.prog 3 = some false := by simp [go_sem]
  have one : ∀ (c : Int) (z : SV) (r : Bool), Ds Tryz.prog 3 (.int .i64 c) z = some r → ∃ d, z = .int .i64 d ∧ r = (c == d) := fun c z r hc => by
   cases z with
   | int k d =>
    simp only [Ds, ti, ts, ta, and_true] at hc
    split at hc
    · rename_i e; subst e; cases hc; exact ⟨d, rfl, rfl⟩
    · cases hc
   | _ => simp [Ds] at hc
  simp only [EQ, Bool.false_eq_true, if_false, List.getElem?_cons_zero, List.getElem?_cons_succ] at hf
  cases h1 : Ds Tryz.prog 3 (.int .i64 a) x with
  | none => simp [h1] at hf
  | some r1 =>
   cases r1 with
   | false => simp [h1] at hf
   | true =>
    simp only [h1] at hf
    cases h2 : Ds Tryz.prog 3 (.int .i64 b) y with
    | none => simp [h2] at hf
    | some r2 =>
     cases r2 with
     | false => simp [h2] at hf
     | true =>
      obtain ⟨d1, rfl, e1⟩ := one a x true h1
      obtain ⟨d2, rfl, e2⟩ := one b y true h2
      have e1' : a = d1 := by simpa using e1.symm
      have e2' : b = d2 := by simpa using e2.symm
      rw [e1', e2']
theorem OE {kt : TypeId} {cs : List SV} : ∀ (es : List (SV × SV)) (i : Nat) (j : Nat) (x : SV), Fb Tryz.prog kt cs es i = some (some (i + j, x)) → ∃ ds v, es[j]? = some (.agg ds, v) ∧ CV Tryz.prog cs ds (CR Tryz.prog kt) = some true
 | [], i, j, x, h => by simp [Fb] at h
 | p :: es, i, j, x, h => by
  simp only [Fb] at h
  split at h <;> try cases h
  rename_i ds hds
  split at h
  · rename_i he
    simp only [Option.some.injEq, Prod.mk.injEq] at h
    have : j = 0 := by omega
    subst this
    exact ⟨ds, p.2, by simp [← hds], he⟩
  · cases j with
    | zero =>
     exfalso
     have hge : ∀ (es : List (SV × SV)) (i k : Nat) (x : SV), Fb Tryz.prog kt cs es i = some (some (k, x)) → i ≤ k := by
      intro es
      induction es with
      | nil => intro i k x h; simp [Fb] at h
      | cons p es ih =>
       intro i k x h
       simp only [Fb] at h
       split at h <;> try cases h
       split at h
       · simp only [Option.some.injEq, Prod.mk.injEq] at h; omega
       · have := ih _ _ _ h; omega
       · cases h
     have := hge _ _ _ _ h
     omega
    | succ j =>
     obtain ⟨ds', v, h1, h2⟩ := OE es (i + 1) j x (by rw [show i + 1 + j = i + (j + 1) by omega]; exact h)
     exact ⟨ds', v, by simpa using h1, h2⟩
  · cases h
end
section
variable {E : Bl} {evs : Operand → SV} {o : Oper} {h : Hp} {n : Nat} {K : SV → Hp → Nat → Prop}
def Ta (p : SV × SV) : Prop := ∃ a b : Int, p.1 = .agg [.int .i64 a, .int .i64 b]
theorem Kb {m y x : Operand} {q : Nat} {a b : Int} {es : List (SV × SV)} {r : Option (Nat × SV)} (ho : o.op = .mapUpdate 85 m y x) (hm : evs m = .map q) (hq : h q = some (.map es)) (hy : evs y = .agg [.int .i64 a, .int .i64 b]) (hes : ∀ p ∈ es, Ta p)
 {es2 : List (SV × SV)} (he2 : (match r with | some p => Fc es p.1 (.agg [.int .i64 a, .int .i64 b]) (evs x) | none => es ++ [(.agg [.int .i64 a, .int .i64 b], evs x)]) = es2) (hf : Fb Tryz.prog 89 [.int .i64 a, .int .i64 b] es 0 = some r)
 (hk : K (.tup []) (hset h q (some (.map es2))) n) : SemU E Tryz.prog evs o h n K := by
 subst he2
 refine ⟨by rw [ho]; simp, fun c ev _ _ R F hv => ?_⟩
 have hvm := hv m
 have hvy := hv y
 have hvx := hv x
 rw [hm, V] at hvm
 obtain ⟨bq, hρ, hev⟩ := hvm
 rw [hy] at hvy
 have hkey := Tl hvy
 obtain ⟨b', ents, clock, g1, g2, g3, hB⟩ := R.obj _ _ hq
 rw [hρ] at g1; cases g1
 have hgo : (getObj bq).run Tryz.prog c.w = .ok (.map ents clock) c.w := by simp [getObj, Sem.run, g2]
 have u85 : Tryz.prog.underlying 85 = some (.map 89 90) := Tryz.underlying85
 have hck : ∀ em, (Instr.checkKey em 10000 89 (ev y)).run Tryz.prog c.w = .ok () c.w := fun em => by rw [hkey]; exact K3 em a b c.w
 have hset' : ∀ ob : Obj, (setObj bq ob).run Tryz.prog c.w = .ok () { c.w with heap := c.w.heap.setIfInBounds bq ob } := fun ob => by
  simp [setObj, Sem.run, g2]
 have fin : ∀ (es' : List (SV × SV)) (ents' : Array MapEntry) (clock' : Nat), AQ (fun (p : SV × SV) (e : MapEntry) => V c p.1 e.key ∧ V c p.2 e.val) es' ents'.toList → HM ents'.toList clock' →
  (Instr.mapUpdate 85 (ev m) (ev y) (ev x)).run Tryz.prog c.w = .ok () { c.w with heap := c.w.heap.setIfInBounds bq (.map ents' clock') } → K (.tup []) (hset h q (some (.map es'))) n →
  ∃ h' n' c', (execOp ev o).run Tryz.prog c.w = .ok .skip c'.w ∧ Bq h' c' ∧ Fr n' c' ∧ FY n c n' c' ∧ K (.tup []) h' n' := fun es' ents' clock' he hB' hr hK => by
  obtain ⟨R', E'⟩ := Jp (clock' := clock') R hq hρ g2 he hB'
  exact ⟨_, n, _, by simp [execOp, ho, hr], R', F, ⟨E', Nat.le_refl n, fun _ _ => rfl⟩, hK⟩
 rcases Jj Tc hvy c.w es ents.toList 0 r g3 hf with ⟨rfl, hg⟩ | ⟨j, x2, y2, e2, ds, rfl, hg, hxy, hj, hds, hfe⟩
 · have hfk := Fj Tryz.underlying89 hg
   refine fin _ (ents.push { key := ev y, val := ev x, born := clock }) (clock + 1) (by rw [Array.toList_push]; exact AQ.append g3 (as' := [(_, evs x)]) ⟨⟨hvy, hvx⟩, trivial⟩) (by rw [Array.toList_push]; exact hB.push _ rfl) ?_ hk
   simp [Instr.mapUpdate, AJ u85, hev, hgo, hck, hfk, hset']
 · have hfk := Fj Tryz.underlying89 hg
   rw [Nat.zero_add] at hf hfk
   obtain ⟨ds', v', k1, k2⟩ := OE es 0 j x2 (by rw [Nat.zero_add]; exact hf)
   obtain ⟨a', b', k3⟩ := hes _ (List.mem_of_getElem? k1)
   have hd' : ds' = [.int .i64 a', .int .i64 b'] := by simpa using k3
   have hs := UP (by rw [hd']; rfl) k2
   obtain ⟨e3, k4, k5, _⟩ := AQ.get g3 k1
   have hee : e3 = e2 := by rw [hj] at k4; exact (Option.some.inj k4).symm
   subst hee
   simp only [hs] at k5
   have hek := Tl k5
   have hj' : ents[j]? = some e3 := by simpa using hj
   have hsb : Instr.sameBits 10000 e3.key (ev y) = true := by
    rw [hek, hkey]
    have : ∀ n, Instr.sameBits (n + 1) (.agg #[.int .i64 a, .int .i64 b]) (.agg #[.int .i64 a, .int .i64 b]) = true := fun n => by simp [Instr.sameBits]
    exact this 9999
   refine fin _ _ clock (OC j hvy hvx g3) (HM.modify hB j _ fun _ => rfl) ?_ (by simpa using hk)
   simp [Instr.mapUpdate, AJ u85, hev, hgo, hck, hfk, Instr.keyThatStays, hj', hsb, hset']
end
section
variable {P : Program} {E : Bl} {evs : Operand → SV} {o : Oper} {h : Hp} {n : Nat} {K : SV → Hp → Nat → Prop}
theorem Rz {t : TypeId} {x : Operand} {j off z len cap : Nat} (ho : o.op = .call { callee := .builtin .len, args := #[x], argTypes := #[t] }) (ht : (BA P t).isSome = true) (hx : evs x = .slc j off z len cap) (hk : K (.int .i64 len) h n) : Dw E P evs o h n K := by
 refine ⟨by rw [ho]; simp, fun c ev _ _ R F hv => ?_⟩
 have hvx := hv x
 rw [hx, V] at hvx
 obtain ⟨b, st, _, hu, _⟩ := hvx
 obtain ⟨e, he⟩ := Option.isSome_iff_exists.1 ht
 refine ⟨.int .i64 len, .int .i64 len, h, n, c, BW (P := P) (ev := ev) ho _ _ _ fun cs => ?_, by rw [V], R, F, FY.refl n c, hk⟩
 simp [builtin, Builtin.len_, AJ (As he), goInt, hu]
theorem Oe {t : TypeId} {x : Operand} {j off z len cap : Nat} (ho : o.op = .call { callee := .builtin .cap, args := #[x], argTypes := #[t] }) (ht : (BA P t).isSome = true) (hx : evs x = .slc j off z len cap) (hk : K (.int .i64 cap) h n) : Dw E P evs o h n K := by
 refine ⟨by rw [ho]; simp, fun c ev _ _ R F hv => ?_⟩
 have hvx := hv x
 rw [hx, V] at hvx
 obtain ⟨b, st, _, hu, _⟩ := hvx
 obtain ⟨e, he⟩ := Option.isSome_iff_exists.1 ht
 refine ⟨.int .i64 cap, .int .i64 cap, h, n, c, BW (P := P) (ev := ev) ho _ _ _ fun cs => ?_, by rw [V], R, F, FY.refl n c, hk⟩
 simp [builtin, Builtin.cap_, AJ (As he), goInt, hu]
theorem Oa {isS : Bool} {len cap l m : Nat} {lo hi : Option Value} (hlo : (lo = none ∧ l = 0) ∨ ∃ i, lo = some (.int i l)) (hhi : (hi = none ∧ m = len) ∨ ∃ i, hi = some (.int i m))
 (h1 : l ≤ m) (h2 : m ≤ cap) (w : World) : (Instr.sliceBounds isS len cap lo hi none).run P w = .ok (l, m, cap) w := by
 have hb := fun (code : BoundsCode) (i : IntKind) => E9 (P := P) (i := i) (n := (l : Int)) (y := m) (code := code) (by omega) (by omega) w
 have IB := fun (code : BoundsCode) (i : IntKind) => E9 (P := P) (i := i) (n := (m : Int)) (y := cap) (code := code) (by omega) (by omega) w
 simp only [Int.toNat_natCast] at hb IB
 rcases hlo with ⟨rfl, hl⟩ | ⟨i, rfl⟩ <;> rcases hhi with ⟨rfl, hm⟩ | ⟨j, rfl⟩
 · simp [Instr.sliceBounds, hl, hm]
 · simp [Instr.sliceBounds, hl, IB]
 · subst hm; simp [Instr.sliceBounds, hb]
 · simp [Instr.sliceBounds, hb, IB]
theorem Df {t e : TypeId} {x : Operand} {lo hi : Option Operand} {j off z len cap l m : Nat} (ho : o.op = .slice t x lo hi none) (ht : BA P t = some e) (hz : Bb P e = z) (hz0 : z ≠ 0) (hx : evs x = .slc j off z len cap)
 (hlo : (lo = none ∧ l = 0) ∨ ∃ y, lo = some y ∧ evs y = .int .i64 l) (hhi : (hi = none ∧ m = len) ∨ ∃ y, hi = some y ∧ evs y = .int .i64 m) (hlm : l ≤ m) (hm : m ≤ cap) (hl2 : l < cap ∨ l = 0)
 (hk : K (.slc j (off + l * z) z (m - l) (cap - l)) h n) : Dw E P evs o h n K := by
 refine ⟨by rw [ho]; simp, fun c ev _ _ R F hv => ?_⟩
 have hvx := hv x
 rw [hx, V] at hvx
 obtain ⟨b, st, hρ, hu, hcap, hroom⟩ := hvx
 obtain ⟨ii, hi', hsz⟩ := Es (P := P) (e := e) (by omega)
 have hL : (lo.map ev = none ∧ l = 0) ∨ ∃ i, lo.map ev = some (.int i l) := by
  rcases hlo with ⟨rfl, e1⟩ | ⟨y, rfl, e1⟩
  · exact .inl ⟨rfl, e1⟩
  · have := hv y; rw [e1] at this; exact .inr ⟨.i64, by simp [C9 this]⟩
 have hH : (hi.map ev = none ∧ m = len) ∨ ∃ i, hi.map ev = some (.int i m) := by
  rcases hhi with ⟨rfl, e1⟩ | ⟨y, rfl, e1⟩
  · exact .inl ⟨rfl, e1⟩
  · have := hv y; rw [e1] at this; exact .inr ⟨.i64, by simp [C9 this]⟩
 have hr := GR (P := P) (As ht) ⟨ii, hi', hsz.symm.trans hz⟩ (some ⟨b, st + off, none⟩) len cap l m cap (Oa (isS := true) hL hH hlm hm c.w)
 rw [← hu] at hr
 refine ⟨_, .slc j (off + l * z) z (m - l) (cap - l), h, n, c, by simp [execOp, ho, hr]; rfl, ?_, R, F, FY.refl n c, hk⟩
 rw [V]
 refine ⟨b, st, hρ, ?_, by omega, ?_⟩
 · split
   · rename_i e1
     have : l = 0 := by omega
     subst this; simp
   · simp [FI, Nat.add_assoc]
 · have : l * z + (cap - l) * z = cap * z := by rw [← Nat.add_mul]; congr 1; omega
   omega
theorem Rm {c : Cx} {q off : Nat} {cs xs : List SV} {ty : Option TypeId} {us : List Value} {b st : Nat} (R : Bq h c) (ho : h q = some (.cells cs ty)) (hρ : c.ρ q = some (b, st))
 (hle : off ≤ cs.length) (hge : cs.length ≤ off + xs.length) (hroom : st + off + us.length ≤ rm c.w b) (hx : AQ (V c) xs us) (h1 : ∀ x ∈ us, x.oneCell' = true) :
 ∃ w', (storeCells ⟨b, st + off, none⟩ us).run P c.w = .ok () w' ∧ Bq (hset h q (some (.cells (cs.take off ++ xs) ty))) { c with w := w' } ∧ DV c { c with w := w' } := by
 obtain ⟨b', st', arr, e, vs, g1, g2, g3, g4, g5, g6⟩ := R.obj _ _ ho
 rw [hρ] at g1; cases g1
 have hl := hx.length
 have hl2 := g4.length
 have hrm : rm c.w b = arr.size := by simp [rm, g2]
 rw [hrm] at hroom
 have hrun := run_storeCells_at (P := P) b (st + off) e us 0 arr c.w g2 (by simpa using hroom) h1
 simp only [Nat.add_zero] at hrun
 refine ⟨_, hrun, ?_⟩
 have hnew := setRow_heap c.w b arr (arr.toList.take (st + off) ++ us ++ arr.toList.drop (st + off + us.length)).toArray e (0, 0) g2
 refine R.write ho hρ (Ht _ _ _) (fun b' hb' => HD _ _ _ hb') ?_ rfl rfl (fun E => ?_)
 · simp only [rm, g2, hnew]; simp; omega
 · refine ⟨b, st, _, e, vs.take off ++ us, hρ, hnew, fun i x hx => ?_, V2.mono E (AQ.append (g4.take off) hx), fun x hx => ?_, g6⟩
   · simp only [List.getElem?_toArray, List.append_assoc]
     have eA : (arr.toList.take (st + off)).length = st + off := by simp; omega
     have eV : (vs.take off).length = off := by simp; omega
     by_cases hi : i < off
     · rw [List.getElem?_append_left (by omega)] at hx ⊢
       rw [List.getElem?_take, if_pos (by omega)] at hx ⊢
       simpa using g3 i x hx
     · rw [List.getElem?_append_right (by omega), eV] at hx
       have hi2 := (List.getElem?_eq_some_iff.1 hx).1
       rw [List.getElem?_append_right (by omega), eA, List.getElem?_append_left (by omega), show st + i - (st + off) = i - off by omega]
       exact hx
   · rcases List.mem_append.1 hx with hx | hx
     · exact g5 x (List.mem_of_mem_take hx)
     · exact h1 x hx
theorem Qf {t t2 e : TypeId} {x y : Operand} {j z offd dl dcap offs sl scap k : Nat} {cs : List SV} {ty : Option TypeId} (ho : o.op = .call { callee := .builtin .copy, args := #[x, y], argTypes := #[t, t2] }) (ht : BA P t = some e) (hz : Bb P e = z) (hz0 : z ≠ 0)
 (hx : evs x = .slc j offd z dl dcap) (hy : evs y = .slc j offs z sl scap) (hj : h j = some (.cells cs ty)) (hk : Nat.min sl dl = k) (hin : offs + k * z ≤ cs.length) (hle : offd ≤ cs.length) (hge : cs.length ≤ offd + k * z)
 (hK : K (.int .i64 k) (hset h j (some (.cells (cs.take offd ++ (cs.drop offs).take (k * z)) ty))) n) : Dw E P evs o h n K := by
 refine ⟨by rw [ho]; simp, fun c ev _ _ R F hv => ?_⟩
 have hvx := hv x
 have hvy := hv y
 rw [hx, V] at hvx
 rw [hy, V] at hvy
 obtain ⟨b, st, hρ, hu, hcap, hroom⟩ := hvx
 obtain ⟨b', st', hρ', hu', hcap', hroom'⟩ := hvy
 rw [hρ] at hρ'; cases hρ'
 obtain ⟨ii, hi', hsz⟩ := Es (P := P) (e := e) (by omega)
 obtain ⟨b', st', arr, e', vs, g1, g2, g3, g4, g5, g6⟩ := R.obj _ _ hj
 rw [hρ] at g1; cases g1
 have hvl := g4.length
 have hul : ((vs.drop offs).take (k * z)).length = k * z := by simp; omega
 have hxl : ((cs.drop offs).take (k * z)).length = k * z := by simp; omega
 have hone : ∀ x ∈ (vs.drop offs).take (k * z), x.oneCell' = true := fun x hx => g5 x (List.mem_of_mem_drop (List.mem_of_mem_take hx))
 have hkd : k * z ≤ dl * z := Nat.mul_le_mul_right _ (by rw [← hk]; exact Nat.min_le_right _ _)
 have hdc : dl * z ≤ dcap * z := Nat.mul_le_mul_right _ hcap
 obtain ⟨w', hst, R', X⟩ := Rm (P := P) (off := offd) R hj hρ hle (by rw [hxl]; exact hge) (by rw [hul]; omega) ((g4.drop offs).take (k * z)) hone
 have hfirst : (Builtin.firstCells z k (.slice (some ⟨b, st + offs, none⟩) sl scap)).run P c.w = .ok ((vs.drop offs).take (k * z)).toArray c.w := by
  have := run_loadCells_list (P := P) c.w ⟨b, st + offs, none⟩ ((vs.drop offs).take (k * z)) (fun i v hv => by
   rw [CY rfl]
   rw [List.getElem?_take] at hv
   split at hv
   · rw [List.getElem?_drop] at hv
     have := g3 _ _ hv
     simp only [World.cell?, g2, Nat.add_assoc]
     simpa using this
   · cases hv)
  rw [hul] at this
  simpa [Builtin.firstCells] using this
 refine ⟨.int .i64 k, .int .i64 k, _, n, _, BW (P := P) (ev := ev) ho _ _ _ fun c2 => ?_, by rw [V], R', F, ⟨X, Nat.le_refl _, fun _ _ => rfl⟩, hK⟩
 have hsz2 : ii.size = z := hsz.symm.trans hz
 simp [builtin, Builtin.copy_, AJ (As ht), sizeOf, typeInfo, hi', hsz2, Builtin.lenOf, hu, hu', hk, hfirst, hst, goInt]
theorem Od {t tn e : TypeId} {x y : Operand} {j off z len cap k : Nat} {cs : List SV} {ty : Option TypeId} (ho : o.op = .call { callee := .builtin .append, args := #[x, y], argTypes := #[t, tn] }) (ht : BA P t = some e) (htn : Kd P tn = some .i64)
 (hz : Bb P e = z) (hz0 : z ≠ 0) (hst : (BN P e).storable = true) (hzl : (BN P e).cells.length = z) (hby : Bj P e ≤ 65536) (hx : evs x = .slc j off z len cap) (hy : evs y = .int .i64 k) (hk0 : 0 < k) (hgt : cap < len + k) (hbig : len + k ≤ 1073741824)
 (hj : h j = some (.cells cs ty)) (hin : off + len * z ≤ cs.length)
 (hK : K (.sl n 0 z (len + k) false) (hset h n (some (.cells ((cs.drop off).take (len * z) ++ (List.replicate k (BN P e).cells).flatten)))) (n + 1)) : Dw E P evs o h n K := by
 refine ⟨by rw [ho]; simp, fun c ev _ _ R F hv => ?_⟩
 have hvx := hv x
 have hvy := hv y
 rw [hx, V] at hvx
 rw [hy] at hvy
 have hvy := C9 hvy
 obtain ⟨b, st, hρ, hu, hcap, hroom⟩ := hvx
 obtain ⟨ii, hi, hsz⟩ := Es (P := P) (e := e) (by omega)
 have hsz2 : ii.size = z := hsz.symm.trans hz
 obtain ⟨i', zv, hi', hzz, hze⟩ := Bp hst
 rw [hi] at hi'; cases hi'
 have hvz := Cj c zv
 rw [← hze] at hvz
 have hzsize : zv.cells.size = z := by have := (hvz.cells hst).1.length; simp at this; omega
 have hbb : ii.bytes ≤ 65536 := by have : Bj P e = ii.bytes := by simp [Bj, Program.bytesOf, hi]
                                   omega
 obtain ⟨b', st', arr, e', vs, g1, g2, g3, g4, g5, g6⟩ := R.obj _ _ hj
 rw [hρ] at g1; cases g1
 have hvl := g4.length
 have hul : ((vs.drop off).take (len * z)).length = len * z := by simp; omega
 obtain ⟨zr, z1⟩ := Gr hvz hst k
 have hold : (Builtin.firstCells ii.size len (.slice (some ⟨b, st + off, none⟩) len cap)).run P c.w.drew = .ok ((vs.drop off).take (len * z)).toArray c.w.drew := by
  have := run_loadCells_list (P := P) c.w.drew ⟨b, st + off, none⟩ ((vs.drop off).take (len * z)) (fun i v hv => by
   rw [CY rfl]
   rw [List.getElem?_take] at hv
   split at hv
   · rw [List.getElem?_drop] at hv
     have := g3 _ _ hv
     simp only [World.cell?, Fu, g2, Nat.add_assoc]
     simpa using this
   · cases hv)
  rw [hul] at this
  rw [hsz2]
  simpa [Builtin.firstCells] using this
 have hmul : (len + k) * ii.bytes ≤ 1073741824 * 65536 := Nat.mul_le_mul hbig hbb
 have hmul2 : k * ii.bytes ≤ 1073741824 * 65536 := Nat.mul_le_mul (by omega) hbb
 have hr := Lib.run_append_grow_zeros (P := P) c.w t tn o.type e ii zv .i64 .i64 (As ht) (Fw htn) hi hzz (some ⟨b, st + off, none⟩) len cap _ hold k hk0 (by omega) hgt (by omega) (by omega) (growslice_fits hgt (by omega))
 have hcell := EV zv.cells (by omega) k
 have hfr : c.ρ n = none := F n (Nat.le_refl n)
 have Rn := Ju (k := n) (e := e) (ty := none) (cs := (cs.drop off).take (len * z) ++ (List.replicate k (BN P e).cells).flatten) (vs := (vs.drop off).take (len * z) ++ (Builtin.zeroCells zv.cells k).toList) (arr := ((vs.drop off).take (len * z)).toArray ++ Builtin.zeroCells zv.cells k ++ Builtin.zeroCells zv.cells (grownCap c.w (len + k) cap e - (len + k))) R.drew (by exact hfr)
  (AQ.append (V2.mono c.drew_ext ((g4.drop off).take (len * z))) (by rw [show (Builtin.zeroCells zv.cells k).toList = (List.replicate k zv.cells.toList).flatten from hcell]; exact V2.mono c.drew_ext zr))
  (fun x hx => by
    rcases List.mem_append.1 hx with hx | hx
    · exact g5 x (List.mem_of_mem_drop (List.mem_of_mem_take hx))
    · rw [show (Builtin.zeroCells zv.cells k).toList = (List.replicate k zv.cells.toList).flatten from hcell] at hx; exact z1 x hx)
  (fun i x hx => by
    have hlt := (List.getElem?_eq_some_iff.1 hx).1
    rw [Array.getElem?_append_left (by simpa using hlt)]
    rw [← Array.getElem?_toList]
    simpa using hx) Ty.none
 have En := c.drew_ext.trans (c.drew.alloc_ext n (.cells (((vs.drop off).take (len * z)).toArray ++ Builtin.zeroCells zv.cells k ++ Builtin.zeroCells zv.cells (grownCap c.w (len + k) cap e - (len + k))) e) (by exact hfr))
 have hcap2 : len + k ≤ grownCap c.w (len + k) cap e := by unfold grownCap; exact Nat.le_add_right _ _
 refine ⟨.slice (some ⟨c.w.heap.size, 0, none⟩) (len + k) (grownCap c.w (len + k) cap e), .sl n 0 z (len + k) false, _, n + 1, _, BW (P := P) (ev := ev) ho _ _ _ fun c2 => ?_, ?_, Rn, ?_, ⟨En, by omega, fun j hj => ?_⟩, hK⟩
 · simp only [builtin, Sem.run_bind, List.map_toArray, List.map_cons, List.map_nil, hu, hvy]
   rw [hr]; rfl
 · rw [V]
   refine ⟨c.w.heap.size, 0, grownCap c.w (len + k) cap e, by simp [Cx.alloc, Cx.drew, Fu], by simp, hcap2, by simp, ?_⟩
   have e6 : (len + k) * z + (grownCap c.w (len + k) cap e - (len + k)) * z = grownCap c.w (len + k) cap e * z := by rw [← Nat.add_mul]; congr 1; omega
   have e8 : len * z + k * z = (len + k) * z := by rw [Nat.add_mul]
   have e7 : rm (c.drew.alloc n (.cells (((vs.drop off).take (len * z)).toArray ++ Builtin.zeroCells zv.cells k ++ Builtin.zeroCells zv.cells (grownCap c.w (len + k) cap e - (len + k))) e)).w c.w.heap.size =
    (((vs.drop off).take (len * z)).toArray ++ Builtin.zeroCells zv.cells k ++ Builtin.zeroCells zv.cells (grownCap c.w (len + k) cap e - (len + k))).size := by
    simp [rm, Cx.alloc, Cx.drew, BX, Fu]
   rw [e7]
   simp only [Array.size_append, List.size_toArray, hul, Builtin.zeroCells, Array.size_map, Array.size_range, hzsize]
   omega
 · intro j hj
   have : j ≠ n := by omega
   simp [Cx.alloc, Cx.drew, this]
   exact F j (by omega)
 · have : j ≠ n := by omega
   simp [Cx.alloc, Cx.drew, this]
def isX (o : Oper) : Bool := match o.op with | .call { callee := .value (.func f), .. } => f == 183 | _ => false
def JR (E : Bl) (P : Program) (ops : Array Oper) (Q : SA → Hp → Nat → Prop) : List Oper → SA → Hp → Nat → Prop
 | [], sa, h, n => Q sa h n
 | o :: rest, sa, h, n => o.guard = none ∧
  if isX o = true then Dw E P (GW sa) o h n fun v h' n' => JR E P ops Q rest (De sa o.dst v) h' n' else KS E P o sa h n fun v h' n' => JR E P ops Q rest (De sa o.dst v) h' n'
variable {N : Nat} {ops : Array Oper}
theorem KQ {Q : SA → Hp → Nat → Prop} (Qp : CZ) (hQ : ∀ sa h n, Q sa h n → Qp .normal sa h n) : ∀ (l : List Oper) (sa : SA) (h : Hp) (n n0 : Nat) (c0 c : Cx) (a : Act), (∀ o ∈ l, o.dst.all (· < N) = true) →
 JR E P ops Q l sa h n → E.inv c → Bq h c → Fr n c → FR E N sa c a → FY n0 c0 n c → wpListIn E.fc 0 P ops (Q9 E N n0 c0 Qp) l a c.w
 | [], sa, h, n, n0, c0, c, a, _, H, I, R, F, A, X => ⟨sa, h, n, c, hQ _ _ _ H, rfl, R, F, A, X⟩
 | o :: rest, sa, h, n, n0, c0, c, a, hd, H, I, R, F, A, X => by
  have hdo : ∀ d, o.dst = some d → d < N := fun d e => by have := hd o (by simp); rw [e] at this; simpa using this
  simp only [JR] at H
  simp only [wpListIn]
  obtain ⟨hg, H⟩ := H
  have hg2 : DI ops sa o = some true := by simp [DI, hg]
  rw [Gc A hg2, if_pos rfl]
  have fin : ∀ v h' n' c' u, JR E P ops Q rest (De sa o.dst v) h' n' → V c' v u → Bq h' c' → Fr n' c' → FY n c n' c' → wpListIn E.fc 0 P ops (Q9 E N n0 c0 Qp) rest (a.put o.dst u) c'.w := fun v h' n' c' u hk hv R' F' X' =>
   KQ Qp hQ rest _ h' n' n0 c0 c' _ (fun o ho => hd o (by simp [ho])) hk (E.ext X'.ext I) R' F' ((A.ext X'.ext).put hdo hv) (X.trans X')
  split at H
  · obtain ⟨hd2, H⟩ := H
    refine ⟨fun _ _ => trivial, ?_⟩
    rw [Oper.semAt_eq _ _ _ hd2]
    obtain ⟨u, v, h', n', c', hr, hv, R', F', X', hk⟩ := H c a.eval (fun _ => rfl) I R F A.ev
    rw [hr]
    exact fin v h' n' c' u hk hv R' F' X'
  · exact Hy H I R F A fun v h' n' c' u hk hv R' F' X' => fin v h' n' c' u hk hv R' F' X'
theorem Nw {id : Nat} {Q : CZ} {sa : SA} {h : Hp} {n : Nat} (H : JR E P ops (Q .normal) ops.toList sa h n) : HQ E P N (.region id ops false) Q sa h n := by
 intro hd c a I R F A
 simp only [Code.dok, List.all_eq_true] at hd
 exact wpIn_region_list (KQ Q (fun _ _ _ h => h) _ sa h n n c c a hd H I R F A (FY.refl n c))
end
section
variable {E : Bl} {evs : Operand → SV} {o : Oper} {h : Hp} {n : Nat} {K : SV → Hp → Nat → Prop}
theorem Na {f x y : Operand} {ts : Array TypeId} {k j off len cap : Nat} {a b c' : SV} {full : Bool} {ds : List SV} {ty ty' : Option TypeId} (ho : o.op = .call { callee := .value f, args := #[x, y], argTypes := ts }) (hf : evs f = .fn (.func 183) [] [])
 (hx : evs x = .sl k 0 3 1 full) (hy : evs y = .slc j off 3 len cap) (hne : k ≠ j) (hk : h k = some (.cells [a, b, c'] ty)) (hj : h j = some (.cells ds ty')) (hds : ds ≠ []) (hK : K (.bool false) h n) : Dw E Tryz.prog evs o h n K := by
 refine ⟨by rw [ho]; simp, fun c ev _ _ R F hv => ?_⟩
 have hvf := hv f
 have hvx := hv x
 have hvy := hv y
 rw [hf, V] at hvf
 obtain ⟨xs, ys, hvf, h1, h2⟩ := hvf
 simp only [VL] at h1 h2
 subst h1; subst h2
 rw [hx, V] at hvx
 rw [hy, V] at hvy
 obtain ⟨bk, sk, capk, hρk, huk, _⟩ := hvx
 obtain ⟨bj, sj, hρj, huj, _⟩ := hvy
 obtain ⟨b1, s1, arrk, ek, vk, p1, p2, p3, p4, _⟩ := R.obj _ _ hk
 rw [hρk] at p1; cases p1
 obtain ⟨b2, s2, arrj, ej, vj, q1, q2, q3, q4, _⟩ := R.obj _ _ hj
 rw [hρj] at q1; cases q1
 have hb : bk ≠ bj := by
  rintro rfl
  exact hne (R.inj k j _ _ bk sk sj hk hj hρk hρj)
 have hlj : arrj.size ≠ 0 := by
  have hl := q4.length
  have : 0 < ds.length := List.length_pos_iff.2 hds
  have h0 : vj[0]? = some vj[0] := List.getElem?_eq_getElem (by omega)
  have := (Array.getElem?_eq_some_iff.1 (q3 _ _ h0)).1
  omega
 obtain ⟨i42, hi42, h3⟩ := Option.map_eq_some_iff.1 (show (Tryz.prog.info? 42).map (·.size) = some 3 by kernel_rfl)
 have hsz : ∀ w, (Go.sizeOf 42).run Tryz.prog w = .ok 3 w := fun w => by simp [sizeOf, typeInfo, hi42, h3]
 have hov := Lib.run_overlaps_apart (P := Tryz.prog) c.w 30 4 42 Tryz.underlying30 3 hsz ⟨bk, sk + 0, none⟩ ⟨bj, sj + off, none⟩ 1 capk len cap hb ek ej arrk.size arrj.size (by simp [World.shape?, p2]) (by simp [World.shape?, q2]) hlj (by simp [World.frozen?, p2]) (by simp [World.frozen?, p2])
 have hcall := run_callFunc_extern (P := Tryz.prog) Tryz.func183 (by kernel_rfl) (by kernel_rfl) (by kernel_rfl) (e := Extern.SlicesOverlaps.overlaps #[30, 30] #[4]) (by kernel_rfl) #[.slice (some ⟨bk, sk + 0, none⟩) 1 capk, .slice (some ⟨bj, sj + off, none⟩) len cap] c.w
 rw [hov] at hcall
 refine ⟨.bool false, .bool false, h, n, c, ?_, by rw [V], R, F, FY.refl n c, hK⟩
 simp only [Result.andThen_ok] at hcall
 simp [execOp, ho, resolve, Deferred.ofValue, hvf, invoke, huk, huj]
 simpa using hcall
end
theorem Ag.cap {E : Bl} {P : Program} {f : FuncId} {us : List SV} {o off z len : Nat} {full : Bool} {h : Hp} {n : Nat} {Q : SV → Hp → Nat → Prop} (H : ∀ cap, len ≤ cap → Ag E P f (.slc o off z len cap :: us) h n Q) : Ag E P f (.sl o off z len full :: us) h n Q := by
 refine ⟨(H len (Nat.le_refl _)).1, fun c vs I R F A => ?_⟩
 match vs, A with
 | v :: vs, A =>
  obtain ⟨hv, hA⟩ := A
  rw [V] at hv
  obtain ⟨b, st, cap, h1, h2, h3, _, h4⟩ := hv
  exact (H cap h3).2 c (v :: vs) I R F ⟨by rw [V]; exact ⟨b, st, h1, h2, h3, h4⟩, hA⟩
def TI : Tr := .pure 0 (.pure 1 (.pure 2 (.pure 3 (.pure 5 (.pure 6 (.two 4 7 (.one 7 (.one 8 .nil)) (.one 4 (.one 8 .nil))))))))
def Bh (l : List BF) : List SV := (l.map BF.enc).flatMap SV.cells
theorem GC (l : List BF) : (Bh l).length = l.length * 3 := by
 have := BH (z := 3) (BF.E.size l)
 rw [List.length_map] at this; exact this
theorem Jv (l : List BF) (i : Nat) (hi : i ≤ l.length) : (Bh l).take (i * 3) = Bh (l.take i) := by
 have h1 : Bh l = Bh (l.take i) ++ Bh (l.drop i) := by
  unfold Bh; rw [← List.flatMap_append, ← List.map_append, List.take_append_drop]
 have h2 := GC (l.take i)
 rw [h1, List.take_append_of_le_length (by rw [h2]; simp; omega), List.take_of_length_le (by rw [h2]; simp; omega)]
theorem Mm (l : List BF) (i : Nat) (hi : i ≤ l.length) : (Bh l).drop (i * 3) = Bh (l.drop i) := by
 have h1 : Bh l = Bh (l.take i) ++ Bh (l.drop i) := by
  unfold Bh; rw [← List.flatMap_append, ← List.map_append, List.take_append_drop]
 have h2 := GC (l.take i)
 rw [h1, List.drop_append_of_le_length (by rw [h2]; simp; omega), List.drop_of_length_le (by rw [h2]; simp; omega)]
 rfl
theorem OX (a b : List BF) : Bh (a ++ b) = Bh a ++ Bh b := by unfold Bh; rw [List.map_append, List.flatMap_append]
def Ex (l : List BF) (i : Nat) (r : BF) : List BF := l.take i ++ r :: l.drop i
theorem Rc (l : List BF) (i : Nat) (r : BF) (hi : i ≤ l.length) : (Ex l i r).length = l.length + 1 := by unfold Ex; simp; omega
set_option maxHeartbeats 4000000 in
theorem d117c (l : List BF) (hl : l.length ≤ 1048576) (i : Nat) (hi : i < l.length) (r : BF) {H : Hp} {n o k cap : Nat} (hcap : l.length ≤ cap) (hH : H o = some (.cells (Bh l))) (hk : H k = some (.cells [AA r.id, .str r.author, AA r.time])) (hok : k ≠ o) :
 BO Tryz.prog 117 [.slc o 0 3 l.length cap, AA i, .sl k 0 3 1 true] H n (fun v h' n' => v = A3 (Ex l i r) ∧ h' = hset H o none ∧ n' = n) := by
 refine ED Tryz.func117 rfl fun ho => ?_
 have hHb := ho.lt
 have ht : BA Tryz.prog 30 = some 42 := by simp [go_sem]
 have hz : Bb Tryz.prog 42 = 3 := by simp [go_sem]
 have hst : (BN Tryz.prog 42).storable = true := by simp [go_sem]
 have hzl : (BN Tryz.prog 42).cells.length = 3 := by simp [go_sem]
 have hb : Bj Tryz.prog 42 ≤ 65536 := by simp [go_sem]
 have hti : Kd Tryz.prog 3 = some .i64 := by simp [go_sem]
 have ht2 : (BA Tryz.prog 30).isSome = true := by rw [ht]; rfl
 have hC := GC l
 have hon := hHb o _ hH
 have hkn := hHb k _ hk
 have w1 := wS i (by omega)
 have w2 : IntKind.i64.wrap ((l.length : Int) + 1) = ((l.length + 1 : Nat) : Int) := by rw [C8] <;> omega
 refine Fx 0 [(0, .slc o 0 3 l.length cap), (1, AA i), (2, .sl k 0 3 1 true)] H n (AH ?_) (fun m hm => ?_)
 · simp [go_sem, Fz.same]
 subst hm
 refine Fx 0 [(0, .slc o 0 3 l.length cap), (1, AA i), (2, .sl k 0 3 1 true)] H n (AH ?_) (fun m hm => ?_)
 · simp [go_sem]
   refine Df (j := o) (off := 0) (z := 3) (len := l.length) (cap := cap) (l := i) (m := l.length) rfl ht hz (by omega) (by simp [go_sem]) (.inr ⟨_, rfl, by simp [go_sem]⟩) (.inl ⟨rfl, rfl⟩) (by omega) hcap (by omega) ?_
   simp [go_sem, Fz.same]
 subst hm
 refine Fx 0 [(0, .slc o 0 3 l.length cap), (1, AA i), (2, .sl k 0 3 1 true), (7, AA 1)] H n (AH ?_) (fun m hm => ?_)
 · simp [go_sem, Fz.same]
 subst hm
 refine Fx 0 [(0, .slc o 0 3 l.length cap), (1, AA i), (2, .sl k 0 3 1 true), (7, AA 1)] H n (AH ?_) (fun m hm => ?_)
 · simp [go_sem, Fz.same]
 subst hm
 refine Fx 0 [(0, .slc o 0 3 l.length cap), (1, AA i), (2, .sl k 0 3 1 true), (7, AA 1), (8, AA l.length)] H n (AH ?_) (fun m hm => ?_)
 · simp [go_sem]
   refine Rz (j := o) (off := 0) (z := 3) (len := l.length) (cap := cap) rfl ht2 (by simp [go_sem]) ?_
   simp [go_sem, Fz.same]
 subst hm
 refine Fx 0 [(0, .slc o 0 3 l.length cap), (1, AA i), (2, .sl k 0 3 1 true), (7, AA 1), (8, AA l.length)] H n (AH ?_) (fun m hm => ?_)
 · have : ((i : Int) == l.length) = false := by simp; omega
   simp [go_sem, Fz.same, this]
 subst hm
 have fin : ∀ (q : Nat) (full : Bool) (h' : Hp) (n' : Nat), n ≤ q ∨ q = o → h' q = some (.cells (Bh (Ex l i r))) → (∀ j, j < n → j ≠ o → h' j = H j) → CG n h' n' (.sl q 0 3 (l.length + 1) full) (fun v h' n' => v = A3 (Ex l i r) ∧ h' = hset H o none ∧ n' = n) := fun q full h' n' hq hc hh => by
  have hcs := GC (Ex l i r)
  have hon : hset H o none q = none := by
   rcases hq with hq | rfl
   · rw [AD _ _ (by omega)]; exact ho.none hq
   · exact AC _ _ _
  refine .inr ⟨1, A3 (Ex l i r), hset H o none, ?_, BF.E.imm _ _ _ _, fun j y e2 => ?_, rfl, rfl, rfl⟩
  · have := Dq (h' := h') (h := hset H o none) (k := 0) (z := 3) (es := (Ex l i r).map BF.enc) (full := full) (full' := false) (o := q) hon (by simp) hc (BF.E.size _)
    rw [List.length_map, Rc _ _ _ (by omega)] at this; exact this
  · by_cases e1 : j = o
    · subst e1; rw [AC] at e2; cases e2
    · rw [AD _ _ e1] at e2
      have := hHb j y e2
      exact ⟨by rw [hh j this e1]; exact e2, ho j y e2⟩
 have hrc : Bh [r] = [AA r.id, .str r.author, AA r.time] := by simp [Bh, BF.enc, SV.cells]
 have hins : Bh (Ex l i r) = Bh (l.take i) ++ (Bh [r] ++ Bh (l.drop i)) := by
  rw [← OX, ← OX]; rfl
 have hlt : (Bh (l.take i)).length = i * 3 := by rw [GC]; simp; omega
 have hld : (Bh (l.drop i)).length = (l.length - i) * 3 := by rw [GC]; simp
 have hrl : (Bh [r]).length = 3 := by rw [hrc]; rfl
 by_cases hc : cap < l.length + 1
 · refine Gt ?_
   refine Fx 0 [(0, .slc o 0 3 l.length cap), (1, AA i), (2, .sl k 0 3 1 true), (7, AA 1), (8, AA l.length), (31, .bool true)] H n (AH ?_) (fun m hm => ?_)
   · simp [go_sem, w2]
     refine Oe (j := o) (off := 0) (z := 3) (len := l.length) (cap := cap) rfl ht2 (by simp [go_sem]) ?_
     have : (cap : Int) < (l.length : Int) + 1 := by omega
     simp [go_sem, Fz.same, this]
   subst hm
   refine Ak (b := true) (by simp [go_sem]) ?_
   simp only [if_true]
   obtain ⟨Z, hZ⟩ : ∃ Z, Z = (List.replicate (l.length + 1 - i) (BN Tryz.prog 42).cells).flatten := ⟨_, rfl⟩
   have hZl : Z.length = (l.length + 1 - i) * 3 := by rw [hZ, List.length_flatten]; simp [hzl]
   refine B5 1 [(0, .sl o 0 3 l.length false), (1, AA i), (2, .sl k 0 3 1 true), (7, AA 1), (9, .sl n 0 3 (l.length + 1) false)] (hset H n (some (.cells (Bh (l.take i) ++ Z)))) (fun m => n + 1 = m) (AH ?_) (fun m hm => ?_)
   · simp [go_sem]
     refine Df (j := o) (off := 0) (z := 3) (len := l.length) (cap := cap) (l := 0) (m := i) rfl ht hz (by omega) (by simp [go_sem]) (.inl ⟨rfl, rfl⟩) (.inr ⟨_, rfl, by simp [go_sem]⟩) (by omega) (by omega) (by omega) ?_
     have w3 : IntKind.i64.wrap (((l.length + 1 : Nat) : Int) - i) = ((l.length + 1 - i : Nat) : Int) := by rw [C8] <;> omega
     simp [go_sem, w2, w3, -Int.natCast_add]
     refine Od (j := o) (off := 0) (z := 3) (len := i) (cap := cap) (k := l.length + 1 - i) (e := 42) rfl ht hti hz (by omega) hst hzl hb (by simp [go_sem]) (by simp [go_sem]) (by omega) (by omega) (by omega) hH (by omega) ?_
     rw [← hZ]
     have e1 : ((Bh l).drop 0).take (i * 3) = Bh (l.take i) := by rw [List.drop_zero]; exact Jv l i (by omega)
     have e2 : i + (l.length + 1 - i) = l.length + 1 := by omega
     rw [e1, e2]
     simp [go_sem, Fz]
   subst hm
   have hio : ¬ ((i : Int) = l.length + 1) := by omega
   have hile : (i : Int) ≤ l.length + 1 := by omega
   have hGk : ∀ (y : Option BV), hset H n y k = some (.cells [AA r.id, .str r.author, AA r.time]) := fun y => by rw [AD _ _ (by omega)]; exact hk
   have hGo : ∀ (y : Option BV), hset H n y o = some (.cells (Bh l)) := fun y => by rw [AD _ _ (by omega)]; exact hH
   refine B5 0 [(0, .sl o 0 3 l.length false), (1, AA i), (7, AA 1), (9, .sl n 0 3 (l.length + 1) false)] (hset H n (some (.cells (Bh (l.take i) ++ (Bh [r] ++ Z.drop 3))))) (fun m => n + 1 = m) (AH ?_) (fun m hm => ?_)
   · have hmin : Nat.min 1 (l.length + 1 - i) = 1 := Nat.min_eq_left (by omega)
     have h0 : ¬ (l.length + 1 - i = 0) := by omega
     have h5 : i * 3 + 3 ≤ i * 3 + Z.length := by omega
     have hdd : (Bh (l.take i)).drop (i * 3 + 3) = [] := List.drop_of_length_le (by omega)
     simp [go_sem, hio, hile, hGk, AC, hmin, hlt, h5, Fz.same, Aq, List.drop_append, hrc, hdd]
   subst hm
   refine AX 0 (α := Unit) (fun _ => [(9, .sl n 0 3 (l.length + 1) false)]) (fun _ => hset H n (some (.cells (Bh (Ex l i r))))) (fun _ m => n + 1 = m) (CK TI rfl (by kernel_rfl) (by kernel_rfl) ?_) (fun _ m hm => ?_)
   · have hin : ¬ ((i : Int) = l.length) := by omega
     have hil : (i : Int) ≤ l.length := by omega
     have h6 : (i : Int) + 1 ≤ l.length + 1 := by omega
     have hmin : Nat.min (l.length - i) (l.length - i) = l.length - i := Nat.min_self _
     have h0 : ¬ (l.length - i = 0) := by omega
     have h1 : ((i : Int) + 1).toNat = i + 1 := by omega
     have h2 : (0 : Int) ≤ (i : Int) + 1 := by omega
     have h3 : ((l.length : Int) + 1 - ((i : Int) + 1)).toNat = l.length - i := by omega
     have h4 : i * 3 + (l.length - i) * 3 ≤ (Bh l).length := by omega
     have h5 : ((Bh l).drop (i * 3)).take ((l.length - i) * 3) = Bh (l.drop i) := by rw [Mm l i (by omega)]; exact List.take_of_length_le (by omega)
     have h6' : (Bh (l.take i) ++ (Bh [r] ++ Z.drop 3)).take ((i + 1) * 3) = Bh (l.take i) ++ Bh [r] := by
      rw [← List.append_assoc]; exact List.take_left' (by rw [List.length_append]; omega)
     have h7 : (Bh (l.take i) ++ (Bh [r] ++ Z.drop 3)).drop ((i + 1) * 3 + (l.length - i) * 3) = [] := List.drop_of_length_le (by simp only [List.length_append, List.length_drop]; omega)
     have h8 : (i + 1) * 3 + (l.length - i) * 3 ≤ (Bh (l.take i) ++ (Bh [r] ++ Z.drop 3)).length := by simp only [List.length_append, List.length_drop]; omega
     have h9 : (Bh (l.drop i)).take ((l.length - i) * 3) = Bh (l.drop i) := List.take_of_length_le (by omega)
     rw [hins, ← List.append_assoc]
     generalize (Bh (l.take i) ++ (Bh [r] ++ Z.drop 3)) = A at *
     simp [go_sem, TI, w1, hin, hil, h6, h1, h2, h3, h4, h5, h6', h7, h8, h9, hGo, AC, hmin, h0, hld, Fz.same, Aq]
   subst hm
   refine AH ?_
   simp [go_sem]
   exact fin n false _ _ (.inl (Nat.le_refl n)) (AC _ _ _) fun j hj _ => AD _ _ (by omega)
 · refine Fx 0 [(0, .slc o 0 3 l.length cap), (1, AA i), (2, .sl k 0 3 1 true), (7, AA 1), (8, AA l.length)] H n ?_ (fun m hm => ?_)
   · refine Fx 0 [(0, .slc o 0 3 l.length cap), (1, AA i), (2, .sl k 0 3 1 true), (7, AA 1), (8, AA l.length), (31, .bool false)] H n (AH ?_) (fun m hm => ?_)
     · simp [go_sem, w2]
       refine Oe (j := o) (off := 0) (z := 3) (len := l.length) (cap := cap) rfl ht2 (by simp [go_sem]) ?_
       have : ¬ ((cap : Int) < (l.length : Int) + 1) := by omega
       simp [go_sem, Fz.same, this]
     subst hm
     refine AH ?_
     simp [go_sem, Fz.same]
   subst hm
   refine Fx 0 [(0, .slc o 0 3 (l.length + 1) cap), (1, AA i), (2, .sl k 0 3 1 true), (7, AA 1), (8, AA l.length)] H n (AH ?_) (fun m hm => ?_)
   · simp [go_sem, w2, -Int.natCast_add]
     refine Df (j := o) (off := 0) (z := 3) (len := l.length) (cap := cap) (l := 0) (m := l.length + 1) rfl ht hz (by omega) (by simp [go_sem]) (.inl ⟨rfl, rfl⟩) (.inr ⟨_, rfl, by simp [go_sem]⟩) (by omega) (by omega) (by omega) ?_
     simp [go_sem, Fz.same]
   subst hm
   refine Gt ?_
   refine AX 0 (α := Unit) (fun _ => [(0, .slc o 0 3 (l.length + 1) cap), (1, AA i), (2, .sl k 0 3 1 true), (7, AA 1), (68, .bool true)]) (fun _ => H) (fun _ m => n = m) (Nw ?_) (fun _ m hm => ?_)
   · simp [go_sem, JR, isX, w1, -Int.natCast_add]
     refine Df (j := o) (off := 0) (z := 3) (len := l.length + 1) (cap := cap) (l := i + 1) (m := l.length + 1) rfl ht hz (by omega) (by simp [go_sem]) (.inr ⟨_, rfl, by simp [go_sem]⟩) (.inl ⟨rfl, rfl⟩) (by omega) (by omega) (by omega) ?_
     simp [go_sem]
     refine Na (k := k) (j := o) (off := (i + 1) * 3) (len := l.length - i) (cap := cap - (i + 1)) (full := true) rfl (by simp [go_sem]) (by simp [go_sem]) (by simp [go_sem]) hok hk hH (fun e => by rw [e] at hC; simp at hC; omega) ?_
     simp [go_sem, Fz.same]
   subst hm
   refine Ak (b := true) (by simp [go_sem]) ?_
   simp only [if_true]
   have g1 : (Bh l).take ((i + 1) * 3) = Bh (l.take (i + 1)) := Jv l (i + 1) (by omega)
   have g2 : ((Bh l).drop (i * 3)).take ((l.length - i) * 3) = Bh (l.drop i) := by rw [Mm l i (by omega)]; exact List.take_of_length_le (by omega)
   have A1 : ∀ {evs : Operand → SV} {x y : Operand} {o' : Oper} {Q : SV → Hp → Nat → Prop}, o'.op = .call { callee := .builtin .copy, args := #[x, y], argTypes := #[30, 30] } → evs x = .slc o ((i + 1) * 3) 3 (l.length - i) (cap - (i + 1)) → evs y = .slc o (i * 3) 3 (l.length + 1 - i) (cap - i) → Q (.int .i64 ↑(l.length - i)) (hset H o (some (.cells (Bh (l.take (i + 1)) ++ Bh (l.drop i))))) n → Dw (Bl.plain.call false 0) Tryz.prog evs o' H n Q := fun ho hx hy hq =>
    Qf (k := l.length - i) ho ht hz (by omega) hx hy hH (Nat.min_eq_right (by omega)) (by omega) (by omega) (by omega) (by rw [g1, g2]; exact hq)
   refine AX 1 (α := Unit) (fun _ => [(0, .sl o 0 3 (l.length + 1) false), (1, AA i), (2, .sl k 0 3 1 true)]) (fun _ => hset H o (some (.cells (Bh (l.take (i + 1)) ++ Bh (l.drop i))))) (fun _ m => n = m) (CK TI rfl (by kernel_rfl) (by kernel_rfl) ?_) (fun _ m hm => ?_)
   · simp [go_sem, TI, w1, -Int.natCast_add]
     have e1 : l.length + 1 - (i + 1) = l.length - i := by omega
     refine ⟨?_, ?_⟩
     · refine Df (j := o) (off := 0) (z := 3) (len := l.length + 1) (cap := cap) (l := i + 1) (m := l.length + 1) rfl ht hz (by omega) (by simp [go_sem]) (.inr ⟨_, rfl, by simp [go_sem]⟩) (.inl ⟨rfl, rfl⟩) (by omega) (by omega) (by omega) ?_
       simp [go_sem]
       refine Df (j := o) (off := 0) (z := 3) (len := l.length + 1) (cap := cap) (l := i) (m := l.length + 1) rfl ht hz (by omega) (by simp [go_sem]) (.inr ⟨_, rfl, by simp [go_sem]⟩) (.inl ⟨rfl, rfl⟩) (by omega) (by omega) (by omega) ?_
       simp [go_sem]
       refine A1 rfl (by simp [go_sem]) (by simp [go_sem]) ?_
       simp [go_sem, Fz]
     · refine Df (j := o) (off := 0) (z := 3) (len := l.length + 1) (cap := cap) (l := i) (m := l.length + 1) rfl ht hz (by omega) (by simp [go_sem]) (.inr ⟨_, rfl, by simp [go_sem]⟩) (.inl ⟨rfl, rfl⟩) (by omega) (by omega) (by omega) ?_
       simp [go_sem, -Int.natCast_add]
       refine Df (j := o) (off := 0) (z := 3) (len := l.length + 1) (cap := cap) (l := i + 1) (m := l.length + 1) rfl ht hz (by omega) (by simp [go_sem]) (.inr ⟨_, rfl, by simp [go_sem]⟩) (.inl ⟨rfl, rfl⟩) (by omega) (by omega) (by omega) ?_
       simp [go_sem]
       refine A1 rfl (by simp [go_sem]) (by simp [go_sem]) ?_
       simp [go_sem, Fz]
   subst hm
   have g3 : (Bh (l.take (i + 1))).length = (i + 1) * 3 := by rw [GC]; simp; omega
   refine Fx 0 [(0, .sl o 0 3 (l.length + 1) false)] (hset H o (some (.cells (Bh (Ex l i r))))) n (AH ?_) (fun m hm => ?_)
   · have hio : ¬ ((i : Int) = l.length + 1) := by omega
     have hile : (i : Int) ≤ l.length + 1 := by omega
     have hGk : ∀ (y : Option BV), hset H o y k = some (.cells [AA r.id, .str r.author, AA r.time]) := fun y => by rw [AD _ _ hok]; exact hk
     have hmin : Nat.min 1 (l.length + 1 - i) = 1 := Nat.min_eq_left (by omega)
     have h0 : ¬ (l.length + 1 - i = 0) := by omega
     have h5 : i * 3 + 3 ≤ (Bh (l.take (i + 1)) ++ Bh (l.drop i)).length := by rw [List.length_append]; omega
     have h6 : (Bh (l.take (i + 1)) ++ Bh (l.drop i)).take (i * 3) = Bh (l.take i) := by
      rw [List.take_append_of_le_length (by omega), Jv _ _ (by simp; omega), List.take_take, Nat.min_eq_left (by omega)]
     have h7 : (Bh (l.take (i + 1)) ++ Bh (l.drop i)).drop (i * 3 + 3) = Bh (l.drop i) := List.drop_left' (by omega)
     rw [hins, hrc]
     generalize Bh (l.take (i + 1)) ++ Bh (l.drop i) = A at *
     simp [go_sem, hio, hile, hGk, AC, hmin, h5, h6, h7, Fz.same, Aq]
   subst hm
   refine AH ?_
   simp [go_sem]
   exact fin o false _ _ (.inr rfl) (AC _ _ _) fun j hj e => AD _ _ e
theorem Rb (l : List BF) (r : BF) : Ex l l.length r = l ++ [r] := by unfold Ex; simp
theorem RM (l : List BF) (hl0 : l ≠ []) (hl : l.length ≤ 1048576) (i : Nat) (hi : i ≤ l.length) (r : BF) {H : Hp} {n o k : Nat} {full : Bool} (hH : H o = some (.cells ((l.map BF.enc).flatMap SV.cells))) (hk : H k = some (.cells [AA r.id, .str r.author, AA r.time])) (hok : o ≠ k) :
 BO Tryz.prog 117 [.sl o 0 3 l.length full, AA i, .sl k 0 3 1 true] H n (fun v h' n' => v = A3 (Ex l i r) ∧ h' = hset H o none ∧ n' = n) := by
 rcases Nat.lt_or_ge i l.length with h | h
 · exact Ag.cap fun cap hc => d117c l hl i h r hc hH hk hok.symm
 · have : i = l.length := by omega
   subst this
   have := Si l hl0 hl r (full := full) (n := n) hH hk hok
   rw [Rb]; exact this
set_option maxHeartbeats 2000000 in
theorem c45g (l : List BF) (hl0 : l ≠ []) (hl : l.length < 256) (r : BF) (h0 : Cs l = 0) (h1 : Cc r = 0) (i : Nat) (hi : i ≤ l.length) (hb : A7 (Hq l r.id) l.length = (i, false)) : PC 45 [A3 l, r.enc] (.tup [A3 (Ex l i r), AA 0]) := by
 intro h n
 refine ED Tryz.func45 rfl fun ho => ?_
 have hHb := ho.lt
 refine Ae 1 [(0, A3 l), (3, .iptr [AA r.id, .str r.author, AA r.time])] h n ?_ (fun m hm => ?_)
 · simp [go_sem, BF.enc, Fz.same]
   exact ⟨Ac (Af hHb (Nat.le_refl _)) (AC _ _ _), AL hHb AB⟩
 refine Bs 0 [(0, A3 l), (3, .iptr [AA r.id, .str r.author, AA r.time])] h n (AH ?_) (fun m hm => ?_)
 · simp [go_sem]
   refine PC.use (c71 l (by omega)) ?_
   rw [h0]
   simp [go_sem, Fz.same, hm]
 refine Bs 0 [(0, A3 l), (3, .iptr [AA r.id, .str r.author, AA r.time])] h n (AH ?_) (fun m hm => ?_)
 · simp [go_sem]
   refine PC.use (by simpa [BF.enc] using c42 r) ?_
   rw [h1]
   simp [go_sem, Fz.same, hm]
 refine Ae 0 [(0, A3 l), (3, .iptr [AA r.id, .str r.author, AA r.time]), (8, AA i), (9, .bool false)] h n ?_ (fun m hm => ?_)
 · simp [go_sem]
   refine PC.use (c72 l (by omega) r.id) ?_
   rw [hb]
   simp [go_sem, Fz.same, hm]
 refine Bs 0 [(0, A3 l), (3, .iptr [AA r.id, .str r.author, AA r.time]), (8, AA i)] h n (AH ?_) (fun m hm => ?_)
 · have : ¬ (256 : Int) ≤ l.length := by omega
   simp [go_sem, Fz.same, hm, this]
 refine AX 0 (α := Unit) (fun _ => [(4, A3 (Ex l i r)), (5, AA 0)]) (fun _ => h) (fun _ m => n ≤ m) (CK TE rfl (by kernel_rfl) (by kernel_rfl) ?_) (fun _ m hm => ?_)
 · have hHm : ∀ j y, h j = some y → j < m := fun j y e => by have := hHb j y e; omega
   simp [go_sem, TE]
   refine ⟨?_, ?_, ?_⟩
   · refine LC.use (Td l (by omega)) ?_
     rintro v h' n' ⟨g1, g2, ⟨g3, _⟩ | ⟨o, full, g3, g4, rfl, g5⟩⟩
     · exact absurd (by simpa using g3) hl0
     simp [go_sem]
     have e1 : o ≠ n' := by omega
     refine SC.use (RM l hl0 (by omega) i hi r (by rw [AD _ _ e1]; exact g5) (AC _ _ _) e1) ?_
     rintro v H2 n2 ⟨rfl, rfl, rfl⟩
     simp [go_sem, Fz.same]
     exact ⟨by omega, AL (fun j z e => by have := hHm j z e; omega) (AL (fun j z e => by have := hHm j z e; omega) g2)⟩
   · refine LC.use (Td l (by omega)) ?_
     rintro v h' n' ⟨g1, g2, ⟨g3, _⟩ | ⟨o, full, g3, g4, rfl, g5⟩⟩
     · exact absurd (by simpa using g3) hl0
     simp [go_sem]
     have e1 : o ≠ n' := by omega
     refine SC.use (RM l hl0 (by omega) i hi r (by rw [AD _ _ e1]; exact g5) (AC _ _ _) e1) ?_
     rintro v H2 n2 ⟨rfl, rfl, rfl⟩
     simp [go_sem, Fz.same]
     exact ⟨by omega, AL (fun j z e => by have := hHm j z e; omega) (AL (fun j z e => by have := hHm j z e; omega) g2)⟩
   · refine LC.use (Td l (by omega)) ?_
     rintro v h' n' ⟨g1, g2, ⟨g3, _⟩ | ⟨o, full, g3, g4, rfl, g5⟩⟩
     · exact absurd (by simpa using g3) hl0
     simp [go_sem]
     refine SC.use (RM l hl0 (by omega) i hi r g5 (g2 _ _ (AC _ _ _)) (by omega)) ?_
     rintro v H2 n2 ⟨rfl, rfl, rfl⟩
     simp [go_sem, Fz.same]
     exact ⟨by omega, AL (fun j z e => by have := hHm j z e; omega) fun j z e => g2 _ _ (AL hHm AB j z e)⟩
 refine AH ?_
 simp [go_sem]
 exact Av ho AB rfl (by rw [closed, closedL, closedL, BF.E.imm]; rfl)
def Fg (p : Int × Int) : SV := .agg [AA p.1, AA p.2]
def AF.mv0 (h : AF) : List (Int × Int) := if h.move = 0 then [] else [(h.ins, h.move)]
def KE (l : List CF) : List (Int × Int) := (l.filter fun x => decide (x.move ≠ 0)).map fun x => (x.rev, x.move)
def AF.moves (h : AF) : List (Int × Int) := h.mv0 ++ KE h.dels
theorem MQ (l : List CF) : (KE l).length ≤ l.length := by
 unfold KE; rw [List.length_map]; exact List.length_filter_le _ _
theorem RD {H : Hp} {n m k p : Nat} {es : List SV} {x : Int × Int} {o : Option Nat} (hA : BZ n m 2 o es) (hl : es.length ≤ 1073741823) (h1 : H k = some (.cells [AA x.1, AA x.2])) (h2 : ∀ j, o = some j → H j = some (.cells (es.flatMap SV.cells))) :
 AZ Tryz.prog H p .append [86, 86] [Aa 2 o es, .sl k 0 2 1 true] = some { val := .sl p 0 2 (es.length + 1) false, upd := o.map fun j => (j, none), new := some (.cells (es.flatMap SV.cells ++ [AA x.1, AA x.2])) } := by
 have := HH (P := Tryz.prog) (H := H) (t := 86) (t2 := 86) (el := 89) (z := 2) (by simp [go_sem]) (by simp [go_sem]) (by simp [go_sem]) (by simp) (by simp [go_sem]) (by simp [go_sem]) (by simp [go_sem]) (by omega) hA (e := Fg x) rfl h1 h2 p
 exact this
theorem PH (l : List CF) (i : Nat) (hi : i < l.length) : KE (l.take (i + 1)) = KE (l.take i) ++ if l[i].move = 0 then [] else [(l[i].rev, l[i].move)] := by
 unfold KE
 rw [List.take_succ_eq_append_getElem hi, List.filter_append, List.map_append]
 congr 1
 by_cases e : l[i].move = 0 <;> simp [e]
set_option maxHeartbeats 2000000 in
theorem c44g (x : AF) (hs : x.sized) : PC 44 [x.enc] (.imm 2 (x.moves.map Fg) false) := by
 intro h n
 refine ED Tryz.func44 rfl fun ho => ?_
 have hHb := ho.lt
 refine Ae 1 [(1, .iptr x.flat)] h n ?_ (fun m hm => ?_)
 · simp [go_sem, AF.enc, AF.flat]
   exact ⟨Ac (Af hHb (Nat.le_refl _)) (AC _ _ _), AL hHb AB⟩
 refine Ae 0 [(1, .iptr x.flat), (3, .imm 0 [] true)] h n ?_ (fun m hm => ?_)
 · simp [go_sem, Fz.same, hm]
 refine AX 0 (α := Option Nat) (fun o => [(1, .iptr x.flat), (3, Aa 2 o (x.mv0.map Fg))]) (fun o => Aj o (x.mv0.map Fg) h) (fun o m => n ≤ m ∧ BZ n m 2 o (x.mv0.map Fg)) ?_ (fun o m hm => ?_)
 · refine Ae 1 [(1, .iptr x.flat), (3, .imm 0 [] true), (4, .iptr [AA x.ins, AA x.move, Ao x.dels, AV x.layers])] h n ?_ (fun m hm => ?_)
   · have hHm : ∀ j y, h j = some y → j < m := fun j y e => by have := hHb j y e; omega
     simp [go_sem, AF.flat, Fz.same, AC, Aq]
     exact ⟨by omega, Ac (Af hHm (Nat.le_refl _)) (AC _ _ _), AL hHm AB⟩
   refine AH ?_
   by_cases m0 : x.move = 0
   · simp [go_sem, m0, AF.mv0, Fz.same, Aa, Aj]
     exact ⟨none, ⟨hm, BZ.nil _ _ _⟩, rfl, AB⟩
   · have hm0 : (x.move != 0) = true := by simpa using m0
     have hap := fun (H : Hp) (k p : Nat) (h1 : H k = some (.cells [AA x.ins, AA x.move])) => RD (H := H) (k := k) (p := p) (es := []) (x := (x.ins, x.move)) (BZ.nil 0 0 2) (by simp) h1 (by simp)
     simp only [List.length_nil, Option.map_none, List.flatMap_nil, List.nil_append, Aa] at hap
     simp [go_sem, m0, hm0, AF.mv0]
     rw [hap _ _ _ (by simp [AC])]
     simp [go_sem]
     have hpush := (BZ.nil n (m + 1) 2).push (j := m + 1) (m' := m + 1 + 1) (e := Fg (x.ins, x.move)) rfl rfl (by omega) (by omega)
     have hvv : Aa 2 (some (m + 1)) [Fg (x.ins, x.move)] = .sl (m + 1) 0 2 1 false := by simp [Aa]
     refine ⟨some (m + 1), ⟨by omega, by simpa using hpush⟩, hvv.symm, fun j y => ?_⟩
     have := hHb j y
     simp only [Aj, hset, Fg, SV.cells, List.flatMap_cons, List.flatMap_nil, List.append_nil]; grind
 obtain ⟨hm, hA⟩ := hm
 obtain ⟨M, hM⟩ : ∃ M : Nat → List SV, ∀ i, M i = (x.mv0 ++ KE (x.dels.take i)).map Fg := ⟨_, fun _ => rfl⟩
 have hM0 : x.mv0.map Fg = M 0 := by rw [hM]; simp [KE]
 have hMs : ∀ i x', (hi : i < x.dels.length) → x.dels[i] = x' → M (i + 1) = M i ++ if x'.move = 0 then [] else [Fg (x'.rev, x'.move)] := fun i x' hi e => by
  rw [hM, hM, PH _ _ hi, e]
  by_cases e0 : x'.move = 0 <;> simp [e0]
 have hMl : M x.dels.length = x.moves.map Fg := by rw [hM, List.take_length]; rfl
 have hMn : ∀ i, (M i).length ≤ 1 + i := fun i => by
  rw [hM, List.length_map, List.length_append]
  have h1 := MQ (x.dels.take i)
  have h2 : x.mv0.length ≤ 1 := by unfold AF.mv0; split <;> simp
  have h3 := List.length_take_le i x.dels
  omega
 rw [hM0] at hA ⊢
 have hsd := hs.dels
 refine AX 0 (α := Option Nat) (fun o => [(3, Aa 2 o (M x.dels.length))]) (fun o => Aj o (M x.dels.length) h) (fun o m => n ≤ m ∧ BZ n m 2 o (M x.dels.length)) ?_ (fun o m hm => ?_)
 · refine Ae 0 [(1, .iptr x.flat), (3, Aa 2 o (M 0)), (22, Ao x.dels), (23, AA x.dels.length), (24, AA 0)] (Aj o (M 0) h) m ?_ (fun m2 hm2 => ?_)
   · simp [go_sem, Fz.same, AF.flat]
   refine Ab (Bf 0 (α := Nat × Option Nat) (fun q => [(1, .iptr x.flat), (3, Aa 2 q.2 (M q.1)), (22, Ao x.dels), (23, AA x.dels.length), (24, AA q.1)]) (fun q => Aj q.2 (M q.1) h)
    (fun q m => q.1 ≤ x.dels.length ∧ n ≤ m ∧ BZ n m 2 q.2 (M q.1)) (fun q => x.dels.length - q.1) (0, o) ⟨Nat.zero_le _, by omega, hA.mono hm2⟩ ?_ AB ?_)
   · simp [go_sem, Ai, Fz.same]
   clear hA hm hm2 m2 m o
   rintro ⟨i, o⟩ m ⟨hi, hnm, hA⟩
   dsimp only at hi hA ⊢
   have hEn := hMn i
   by_cases hlt : i < x.dels.length
   · have w1 := wS i (by omega)
     obtain ⟨y, hy⟩ : ∃ y, x.dels[i] = y := ⟨_, rfl⟩
     have hst := hMs i y hlt hy
     generalize hE : M i = E at hA hEn hst
     have hXb : ∀ j y, Aj o E h j = some y → j < m := M7 hHb hnm hA
     refine DA 0 [(1, .iptr x.flat), (3, Aa 2 o E), (22, Ao x.dels), (23, AA x.dels.length), (24, AA i), (25, .bool true)] (Aj o E h) m ?_ (fun m2 hm2 => ?_)
     · simp [go_sem, Fz.same, hlt]
     subst hm2
     refine DA 0 [(1, .iptr x.flat), (3, Aa 2 o E), (22, Ao x.dels), (23, AA x.dels.length), (24, AA i)] (Aj o E h) m ?_ (fun m2 hm2 => ?_)
     · simp [go_sem, Fz.same]
     subst hm2
     refine AX 0 (α := Option Nat) (fun o => [(1, .iptr x.flat), (3, Aa 2 o (M (i + 1))), (22, Ao x.dels), (23, AA x.dels.length), (24, AA i)]) (fun o => Aj o (M (i + 1)) h) (fun o m => n ≤ m ∧ BZ n m 2 o (M (i + 1))) (Ab ?_) (fun o m hm => ?_)
     · refine Ae 1 [(1, .iptr x.flat), (3, Aa 2 o E), (22, Ao x.dels), (23, AA x.dels.length), (24, AA i), (6, .iptr [AA y.rev, AA y.move])] (Aj o E h) m ?_ (fun m2 hm2 => ?_)
       · simp [go_sem, Fz.same, hlt, hy, CF.enc, AC]
         exact ⟨Ac (Af hXb (Nat.le_refl _)) (AC _ _ _), AL hXb (AL hXb AB)⟩
       rw [hst]
       refine AH ?_
       by_cases m0 : y.move = 0
       · simp [go_sem, m0, Fz.same]
         exact ⟨o, ⟨by omega, hA.mono hm2⟩, rfl, AB⟩
       · have hm0 : (y.move != 0) = true := by simpa using m0
         simp [go_sem, m0, hm0]
         rw [RD (x := (y.rev, y.move)) hA (by omega) (by simp [AC]) (by
          intro j e
          have := (hA.lt j e).2
          rw [AD _ _ (by omega)]; exact HR j e)]
         have hpush := hA.push (j := m2 + 1) (m' := m2 + 1 + 1) (e := Fg (y.rev, y.move)) rfl rfl (by omega) (by omega)
         have hlive := H3 (p := m2 + 1) (v := .sl (m2 + 1) 0 2 (E.length + 1) false) (e := Fg (y.rev, y.move)) hHb (by omega) hA (H := hset (Aj o E h) m2 (some (.cells [AA y.rev, AA y.move]))) (AL (fun j z e => by have := hHb j z e; omega) (It hHb hA))
         have hvv : Aa 2 (some (m2 + 1)) (E ++ [Fg (y.rev, y.move)]) = .sl (m2 + 1) 0 2 (E.length + 1) false := by simp [Aa]
         simp [go_sem]
         exact ⟨some (m2 + 1), ⟨by omega, hpush⟩, hvv.symm, by simpa [DC.app, SV.cells, Fg] using hlive⟩
     · refine AH ?_
       simp [go_sem, w1, Fz.same, -Int.natCast_add]
       exact ⟨i + 1, by omega, o, ⟨by omega, hm.1, hm.2⟩, ⟨Fz.same, Fz.same⟩, AB⟩
   · have : i = x.dels.length := by omega
     subst this
     refine AH ?_
     simp [go_sem]
     exact ⟨o, ⟨hnm, hA⟩, rfl, AB⟩
 refine AH ?_
 simp [go_sem]
 rw [hMl] at hm ⊢
 exact Lc ho hm.2 (fun e he => by obtain ⟨p, _, rfl⟩ := List.mem_map.1 he; simp [Fg, closed, closedL])
abbrev Eb := List ((Int × Int) × (Bool × Bool))
def KW (b : Bool × Bool) : SV := .agg [.bool b.1, .bool b.2]
def B9 (s : Eb) : List (SV × SV) := s.map fun e => (Fg e.1, KW e.2)
def Jt (v : Bool × Bool) (mid : Bool) : Bool × Bool := (v.1 || mid, v.2 || !mid)
def Hr : Eb → Int × Int → Bool → Eb
 | [], k, mid => [(k, Jt (false, false) mid)]
 | (k', v) :: r, k, mid => if k' = k then (k, Jt v mid) :: r else (k', v) :: Hr r k mid
def KP (s : Eb) (l : List (Int × Int)) (mid : Bool) : Eb := l.foldl (fun s k => Hr s k mid) s
def sdF (s : Eb) (p : Br) : Eb := KP s p.head.moves p.mid
theorem fe89 (a b c d : Int) : CV Tryz.prog [.int .i64 a, .int .i64 b] [.int .i64 c, .int .i64 d] (CR Tryz.prog 89) = some (a == c && b == d) := by
 rw [Dk, fo89]
 have ti : (Kd Tryz.prog 3).isSome = true := by simp [go_sem]
 have ts : Bb Tryz.prog 3 = 1 := by simp [go_sem]
 have ta : Fo Tryz.prog 3 = some false := by simp [go_sem]
 have one : ∀ x y : Int, Ds Tryz.prog 3 (.int .i64 x) (.int .i64 y) = some (x == y) := fun x y => by simp [Ds, ti, ts, ta]
 simp only [EQ, Bool.false_eq_true, if_false, List.getElem?_cons_zero, List.getElem?_cons_succ, one]
 cases h1 : (a == c) <;> cases h2 : (b == d) <;> simp
theorem Qj (s : Eb) : ∀ p ∈ B9 s, Ta p := fun p hp => by
 obtain ⟨e, _, rfl⟩ := List.mem_map.1 hp
 exact ⟨e.1.1, e.1.2, rfl⟩
theorem Lj (a b : Int) (mid : Bool) : ∀ (s : Eb) (i : Nat),
 (Fb Tryz.prog 89 [.int .i64 a, .int .i64 b] (B9 s) i = some none ∧ B9 (Hr s (a, b) mid) = B9 s ++ [(Fg (a, b), KW (Jt (false, false) mid))]) ∨
 ∃ j v, Fb Tryz.prog 89 [.int .i64 a, .int .i64 b] (B9 s) i = some (some (i + j, KW v)) ∧ B9 (Hr s (a, b) mid) = Fc (B9 s) j (Fg (a, b)) (KW (Jt v mid))
 | [], i => .inl ⟨rfl, rfl⟩
 | ((c, d), v) :: r, i => by
  have hs : B9 (((c, d), v) :: r) = (Fg (c, d), KW v) :: B9 r := rfl
  rw [hs]
  simp only [Fb, Fg, fe89]
  by_cases e : a = c ∧ b = d
  · obtain ⟨rfl, rfl⟩ := e
    have e1 : (a == a && b == b) = true := by simp
    rw [e1]
    exact .inr ⟨0, v, rfl, by simp [Hr, B9, Fc, Fg]⟩
  · have e1 : (a == c && b == d) = false := by
     cases h1 : (a == c) <;> cases h2 : (b == d) <;> simp_all
    have e2 : ¬ ((c, d) = (a, b)) := by
     intro h; cases h; exact e ⟨rfl, rfl⟩
    rw [e1]
    have hu : B9 (Hr (((c, d), v) :: r) (a, b) mid) = (Fg (c, d), KW v) :: B9 (Hr r (a, b) mid) := by
     rw [Hr, if_neg e2]; rfl
    rcases Lj a b mid r (i + 1) with ⟨h1, h2⟩ | ⟨j, w, h1, h2⟩
    · exact .inl ⟨h1, by rw [hu, h2]; rfl⟩
    · exact .inr ⟨j + 1, w, by rw [show i + (j + 1) = i + 1 + j by omega]; exact h1, by rw [hu, h2]; rfl⟩
def Nq (k : Nat) (s : Eb) (o : Nat) : Option BV := if o = k then some (.map (B9 s)) else if o = k + 1 then some (.cells [.map k]) else none
theorem Pk (k : Nat) (s : Eb) (H : Hp) (h1 : H (k + 1) = some (.cells [.map k])) : Az (Nq k) s H = hset H k (some (.map (B9 s))) := by
 funext j
 simp only [Az, Nq, hset]
 by_cases e : j = k
 · simp [e]
 · by_cases e2 : j = k + 1
   · subst e2; simp [h1]
   · simp [e, e2]
theorem SE (k : Nat) (s : Eb) : ∀ o y, Nq k s o = some y → BJ (k + 2) y = true := fun o y e => by
 simp only [Nq] at e
 split at e
 · cases e
   simp only [BJ, List.all_eq_true, B9, Bool.and_eq_true]
   intro p hp
   obtain ⟨x, _, rfl⟩ := List.mem_map.1 hp
   exact ⟨by simp [Fg, closed, closedL], by simp [KW, closed, closedL]⟩
 · split at e
   · cases e; simp [BJ, closed, closedL]
   · cases e
set_option maxHeartbeats 4000000 in
theorem v43g (k : Nat) : Vis (Nq k) (k + 2) 43 [] [.ptr (k + 1) 0] sdF (fun h => h.sized) where
 lt s o h := by simp only [Nq]; rw [if_neg (by omega), if_neg (by omega)]
 dom s s' o h := by
  simp only [Nq] at h ⊢
  by_cases e1 : o = k
  · rw [if_pos e1] at h; cases h
  · by_cases e2 : o = k + 1
    · rw [if_neg e1, if_pos e2] at h; cases h
    · rw [if_neg e1, if_neg e2]
 cl s o y h := SE k s o y h
 call s p H n hp hn hs := by
  refine ED Tryz.func43 rfl fun ho => ?_
  have a2 : H (k + 1) = some (.cells [.map k]) := hs (k + 1) _ (by simp [Nq])
  obtain ⟨U, hU⟩ : ∃ U : Eb → Hp, ∀ s', U s' = Az (Nq k) s' H := ⟨_, fun _ => rfl⟩
  have hUk : ∀ s', U s' k = some (.map (B9 s')) := fun s' => by rw [hU]; simp [Az, Nq]
  have hUk1 : ∀ s', U s' (k + 1) = some (.cells [.map k]) := fun s' => by rw [hU]; simp [Az, Nq]
  have hUs : ∀ s' s'', hset (U s') k (some (.map (B9 s''))) = U s'' := fun s' s'' => by rw [hU, hU, Pk _ _ _ a2, Pk _ _ _ a2]; funext j; simp only [hset]; grind
  have hU0 : U s = H := by
   rw [hU]; funext j
   simp only [Az]
   split
   · rename_i y e; exact (hs j y e).symm
   · rfl
  have hOld : ∀ s', Fd (U s') n := fun s' j y e => by
   rw [hU] at e
   simp only [Az] at e
   split at e
   · rename_i z e2
     have := SE k s' j z e2
     cases e
     simp only [Nq] at e2
     refine ⟨?_, Gw (by omega) this⟩
     split at e2
     · omega
     · split at e2
       · omega
       · cases e2
   · exact ho j y e
  have hUb : ∀ s' j y, U s' j = some y → j < n := fun s' j y e => (hOld s' j y e).1
  have hUU : ∀ s'', Az (Nq k) s'' (U s) = U s'' := fun s'' => by rw [hU0, hU]
  rw [← hU0]
  refine Ae 1 [(1, .ptr (k + 1) 0), (2, .iptr (p.head.flat ++ [.bool p.mid, AA p.units]))] (U s) n ?_ (fun m hm => ?_)
  · simp [go_sem, Br.enc, AF.flat, Fz.same]
    refine ⟨Ac (Af (hUb s) (Nat.le_refl n)) (by simp [hset]), AL (hUb s) AB⟩
  have hL : p.head.moves.length ≤ 1048577 := by
   have h1 := MQ p.head.dels
   have h2 := hp.dels
   have h3 : p.head.mv0.length ≤ 1 := by unfold AF.mv0; split <;> simp
   simp only [AF.moves, List.length_append]; omega
  obtain ⟨l, hl⟩ : ∃ l, p.head.moves = l := ⟨_, rfl⟩
  have hf : sdF s p = KP s (l.take l.length) p.mid := by rw [List.take_length, ← hl]; rfl
  rw [hl] at hL
  refine Bs 0 [(1, .ptr (k + 1) 0), (2, .iptr (p.head.flat ++ [.bool p.mid, AA p.units])), (8, .imm 2 (l.map Fg) false), (9, AA l.length), (10, AA 0)] (U s) n (AH ?_) (fun m hm => ?_)
  · have c := c44g p.head hp
    rw [hl] at c
    simp [go_sem, AF.flat]
    refine PC.use (by simpa [AF.enc, AF.flat] using c) ?_
    simp [go_sem, Fz.same, hm]
  refine Ab (Bf 0 (α := Nat) (fun i => [(1, .ptr (k + 1) 0), (2, .iptr (p.head.flat ++ [.bool p.mid, AA p.units])), (8, .imm 2 (l.map Fg) false), (9, AA l.length), (10, AA i)]) (fun i => U (KP s (l.take i) p.mid))
   (fun i m => i ≤ l.length ∧ n ≤ m) (fun i => l.length - i) 0 ⟨Nat.zero_le _, by omega⟩ ?_ ?_ ?_)
  · simp [go_sem, Ai, Fz.same]
  · simp [KP]
  rintro i m ⟨hi, hm⟩
  by_cases hlt : i < l.length
  · have w1 := wS i (by omega)
    obtain ⟨x, hx⟩ : ∃ x, l[i] = x := ⟨_, rfl⟩
    have hnext : KP s (l.take (i + 1)) p.mid = Hr (KP s (l.take i) p.mid) x p.mid := by
     rw [List.take_succ_eq_append_getElem hlt, hx]; simp [KP, List.foldl_append]
    generalize hS : KP s (l.take i) p.mid = S at hnext
    refine DA 0 [(1, .ptr (k + 1) 0), (2, .iptr (p.head.flat ++ [.bool p.mid, AA p.units])), (8, .imm 2 (l.map Fg) false), (9, AA l.length), (10, AA i), (11, .bool true)] (U S) m ?_ (fun m2 hm2 => ?_)
    · simp [go_sem, Fz.same, hlt]
    subst hm2
    refine DA 0 [(1, .ptr (k + 1) 0), (2, .iptr (p.head.flat ++ [.bool p.mid, AA p.units])), (8, .imm 2 (l.map Fg) false), (9, AA l.length), (10, AA i)] (U S) m ?_ (fun m2 hm2 => ?_)
    · simp [go_sem, Fz.same]
    subst hm2
    refine AX 0 (α := Unit) (fun _ => [(1, .ptr (k + 1) 0), (2, .iptr (p.head.flat ++ [.bool p.mid, AA p.units])), (8, .imm 2 (l.map Fg) false), (9, AA l.length), (10, AA i)]) (fun _ => U (Hr S x p.mid)) (fun _ m2 => m ≤ m2) (Ab ?_) (fun _ m2 hm2 => ?_)
    · have hb : ∀ j y, U S j = some y → j < m := fun j y e => by have := hUb S j y e; omega
      refine Ae 1 [(1, .ptr (k + 1) 0), (2, .iptr (p.head.flat ++ [.bool p.mid, AA p.units])), (8, .imm 2 (l.map Fg) false), (9, AA l.length), (10, AA i), (4, .iptr [AA x.1, AA x.2])] (U S) m ?_ (fun m2 hm2 => ?_)
      · simp [go_sem, Fz.same, hlt, hx, Fg, AC]
        exact ⟨Ac (Af hb (Nat.le_refl _)) (AC _ _ _), AL hb (AL hb AB)⟩
      have hmE : Fg x = .agg [.int .i64 x.1, .int .i64 x.2] := rfl
      obtain ⟨v, r, hfind, hval, hput⟩ : ∃ (v : Bool × Bool) (r : Option (Nat × SV)), Fb Tryz.prog 89 [.int .i64 x.1, .int .i64 x.2] (B9 S) 0 = some r ∧ (match r with | some pr => pr.2 | none => BN Tryz.prog 90) = KW v ∧
       (match r with | some pr => Fc (B9 S) pr.1 (Fg x) (KW (Jt v p.mid)) | none => B9 S ++ [(Fg x, KW (Jt v p.mid))]) = B9 (Hr S x p.mid) := by
       rcases Lj x.1 x.2 p.mid S 0 with ⟨h1, h2⟩ | ⟨j, w, h1, h2⟩
       · exact ⟨(false, false), none, h1, by simp [go_sem, KW], h2.symm⟩
       · exact ⟨w, some (0 + j, KW w), h1, rfl, by rw [Nat.zero_add]; exact h2.symm⟩
      refine AX 0 (α := Nat) (fun q => [(1, .ptr (k + 1) 0), (2, .iptr (p.head.flat ++ [.bool p.mid, AA p.units])), (8, .imm 2 (l.map Fg) false), (9, AA l.length), (10, AA i), (4, .iptr [AA x.1, AA x.2]), (5, .ptr q 0)]) (fun q => hset (U S) q (some (.cells [.bool v.1, .bool v.2]))) (fun q m2 => m ≤ q ∧ q < m2) (AH ?_) (fun q m3 hm3 => ?_)
      · simp [go_sem, hUk1]
        refine NZ (q := k) (a := x.1) (b := x.2) rfl (by simp [go_sem]) (hUk S) (by simp [go_sem]) hval hfind ?_
        simp [go_sem, Fz.same, KW, Aq, AC]
        exact ⟨m2, ⟨by omega, by omega⟩, Fz.same, AB⟩
      obtain ⟨hq1, hq2⟩ := hm3
      have hUq : U S q = none := Af hb hq1
      refine B5 0 [(1, .ptr (k + 1) 0), (2, .iptr (p.head.flat ++ [.bool p.mid, AA p.units])), (8, .imm 2 (l.map Fg) false), (9, AA l.length), (10, AA i), (4, .iptr [AA x.1, AA x.2]), (5, .ptr q 0)] (hset (U S) q (some (.cells [.bool (v.1 || p.mid), .bool (v.2 || !p.mid)]))) (fun m2 => q < m2) (AH ?_) (fun m4 hm4 => ?_)
      · obtain ⟨v1, v2⟩ := v
        cases v1 <;> cases v2 <;> cases hmid : p.mid <;> simp [go_sem, AF.flat, AC, Aq]
        all_goals (repeat first | refine nq ?_ | refine sq ?_ | refine aq ?_)
        all_goals exact hq2
      refine AH ?_
      have hkq : k ≠ q := by omega
      have hk1 : k + 1 ≠ q := by omega
      simp [go_sem, AD _ _ hk1, hUk1, AC]
      refine Kb (q := k) (a := x.1) (b := x.2) rfl (by simp [go_sem]) (by rw [AD _ _ hkq]; exact hUk S) (by simp [go_sem]) (Qj S) hput hfind ?_
      simp [go_sem, Fz.same]
      refine ⟨by omega, fun j y e => ?_⟩
      rw [← hUs S] at e
      simp only [hset] at e ⊢
      have := hUb S j y
      grind
    · refine AH ?_
      simp [go_sem, w1, Fz.same, -Int.natCast_add]
      exact ⟨i + 1, by omega, ⟨by omega, by omega⟩, Fz.same, by rw [hnext]; exact AB⟩
  · have : i = l.length := by omega
    subst this
    refine AH ?_
    simp [go_sem]
    rw [hUU, hf, List.take_length]
    exact Cb (hOld _) (by simp [closed, closedL]) AB
end Go.Proofs.YtgakninlhfkkmaaGreat.Sh
