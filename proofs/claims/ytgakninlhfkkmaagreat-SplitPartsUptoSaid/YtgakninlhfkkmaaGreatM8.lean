/- SplitPartsUptoSaid: a part of its proof (part 8 of 14). -/
import Derived.Test.YtgakninlhfkkmaaGreatM7
namespace Go.Proofs.YtgakninlhfkkmaaGreat.Sh
open Proofs
set_option maxRecDepth 10000
theorem AE.setText_sized {y : AE} (h : y.sized) (a b : Nat) : (y.setText (y.text.extract a b)).sized := by
 cases y with
 | mk k c i t hd f r =>
  simp only [AE.setText, AE.sized, AE.text, AE.kind, AE.code, AE.id, AE.head, AE.flow, AE.rows] at h ⊢
  refine ⟨?_, h.2⟩
  have := h.1
  simp; omega
theorem L5 (cu : Int) (s : List AE × List AE) (p : Int × AE) (hp : p.2.sized) (h1 : ∀ x ∈ s.1, x.sized) (h2 : ∀ x ∈ s.2, x.sized) : (∀ x ∈ (Bk cu s p).1, x.sized) ∧ ∀ x ∈ (Bk cu s p).2, x.sized := by
 unfold Bk
 split
 · refine ⟨fun x hx => ?_, h2⟩
   rcases List.mem_append.1 hx with hx | hx
   · exact h1 x hx
   · rw [List.mem_singleton.1 hx]; exact hp
 · split
   · refine ⟨h1, fun x hx => ?_⟩
     rcases List.mem_append.1 hx with hx | hx
     · exact h2 x hx
     · rw [List.mem_singleton.1 hx]; exact hp
   · refine ⟨fun x hx => ?_, fun x hx => ?_⟩
     · rcases List.mem_append.1 hx with hx | hx
       · exact h1 x hx
       · rw [List.mem_singleton.1 hx]; exact AE.setText_sized hp _ _
     · rcases List.mem_append.1 hx with hx | hx
       · exact h2 x hx
       · rw [List.mem_singleton.1 hx]; exact AE.setText_sized hp _ _
theorem IU (l : List AE) (cu : Int) (hs : ∀ x ∈ l, x.sized) : ∀ k, k ≤ l.length → (∀ x ∈ (By l cu k).1, x.sized) ∧ ∀ x ∈ (By l cu k).2, x.sized
 | 0, _ => by simp [By]
 | k + 1, h => by
  rw [E7 l cu k h]
  have h2 := IU l cu hs k (by omega)
  exact L5 _ _ _ (hs _ (List.getElem_mem _)) h2.1 h2.2
theorem HJ (l : List AE) (cu : Int) (hs : AE.sizedL l) : AE.sizedL (Am l cu).1 ∧ AE.sizedL (Am l cu).2 :=
 ⟨AE.sizedL_of (IU l cu (AE.sizedL_mem hs) _ (Nat.le_refl _)).1, AE.sizedL_of (IU l cu (AE.sizedL_mem hs) _ (Nat.le_refl _)).2⟩
theorem DS (l : List AE) (cu : Int) : (Am l cu).1.length ≤ l.length ∧ (Am l cu).2.length ≤ l.length := K7 l cu _ (Nat.le_refl _)
theorem AE.sizedL_text {l : List AE} (h : AE.sizedL l) : ∀ x ∈ l, x.text.size ≤ 1048576 := fun x hx => by
 have := AE.sizedL_mem h x hx
 cases x; simp only [AE.sized, AE.text] at this ⊢; exact this.1
def AR (l : List AE) (a b : Int) : List AE × Int := if DR l a b = 0 then (AU (Am (Am l b).1 a).2, 0) else ([], DR l a b)
theorem Tq (l : List AE) (a b : Int) (hl : l.length ≤ 1048576) (hs : AE.sizedL l) : PC 180 [AG l, AA a, AA b] (.tup [AG (AR l a b).1, AA (AR l a b).2]) := by
 intro h n
 refine gq Tryz.func180 rfl fun ho => ?_
 simp [go_sem]
 refine (c250 l a b hl (AE.sizedL_text hs)).use ?_
 by_cases hc : DR l a b = 0
 · have s1 := (HJ l b hs).1
   have l1 := (DS l b).1
   have s2 := (HJ _ a s1).2
   have l2 := (DS (Am l b).1 a).2
   simp [go_sem, hc]
   refine (c251 l b hl (AE.sizedL_text hs)).use ?_
   simp [go_sem]
   refine (c251 _ a (by omega) (AE.sizedL_text s1)).use ?_
   simp [go_sem]
   refine (c73 _ (by omega) s2).use ?_
   simp [go_sem]
   refine BC ho (by simp [closed, closedL, AE.E.closedL]) ?_
   simp [AR, hc]
 · simp [go_sem, hc]
   have e : AR l a b = ([], DR l a b) := by simp [AR, hc]
   rw [e]
   exact Dp 2 ho AB (.inr ⟨Ba (by simp), Fz.same, trivial⟩) (by simp [closed, closedL])
def AF.revs (h : AF) : List Int := (if h.ins = 0 then [] else [h.ins]) ++ h.dels.map (·.rev) ++ h.layers.map (·.rev)
def AF.revsK (h : AF) (i j : Nat) : List Int := (if h.ins = 0 then [] else [h.ins]) ++ (h.dels.take i).map (·.rev) ++ (h.layers.take j).map (·.rev)
theorem AF.revsK_len (h : AF) (i j : Nat) (hi : i ≤ h.dels.length) (hj : j ≤ h.layers.length) : (h.revsK i j).length ≤ 1 + i + j := by
 unfold AF.revsK
 split <;> simp <;> omega
theorem Ki {H : Hp} {n m k p : Nat} {es : List Int} {x : Int} {o : Option Nat} (hA : BZ n m 1 o (es.map AA)) (hl : es.length ≤ 1073741823) (h1 : H k = some (.cells [AA x])) (h2 : ∀ j, o = some j → H j = some (.cells (es.map AA))) :
 AZ Tryz.prog H p .append [61, 61] [Aa 1 o (es.map AA), .sl k 0 1 1 true] = some { val := .sl p 0 1 (es.length + 1) false, upd := o.map fun j => (j, none), new := some (.cells (es.map AA ++ [AA x])) } := by
 have := HH (P := Tryz.prog) (H := H) (t := 61) (t2 := 61) (el := 3) (by simp [go_sem]) (by simp [go_sem]) (by simp [go_sem]) (by simp) (by simp [go_sem]) (by simp [go_sem]) (by simp [go_sem]) (by simp; omega) hA (e := AA x) rfl h1 (fun j e => by rw [h2 j e, Db]) p
 rw [this, Db]; simp [SV.cells]
theorem Iq (o : Option Nat) (l : List Int) (h : Hp) : Aj o (l.map AA) h = match o with | none => h | some j => hset h j (some (.cells (l.map AA))) := by
 cases o <;> simp [Aj, Db]
theorem c114 (hd : AF) (hs : hd.sized) (hrl : hd.revs.length ≤ 1048576) : PC 114 [hd.enc] (.imm 1 ((Cg (CP hd.revs)).map AA) false) := by
 intro h n
 refine ED Tryz.func114 rfl fun ho => ?_
 have hn0 := ho.none (Nat.le_refl n)
 refine Bn 2 [(1, .iptr hd.flat)] h (fun m => m = n + 1) ?_ (fun m hm => ?_)
 · simp [go_sem, AF.enc]
   exact ⟨Ac hn0 (by simp [AC]), AO ho (Nat.le_refl _) AB⟩
 subst hm
 refine BM 1 (α := Unit) (fun _ => [(1, .iptr hd.flat), (3, Aa 1 none [])]) (fun _ => h) (fun _ m => m = n + 1) (by simp [go_sem, Aa]) (fun _ m hm => ?_)
 subst hm
 refine BM 1 (α := Option Nat) (fun o => [(1, .iptr hd.flat), (3, Aa 1 o ((hd.revsK 0 0).map AA))]) (fun o => Aj o ((hd.revsK 0 0).map AA) h) (fun o m => n < m ∧ BZ (n + 1) m 1 o ((hd.revsK 0 0).map AA)) ?_ (fun o m hm => ?_)
 · by_cases e : hd.ins = 0
   · simp [go_sem, AF.flat, e, AF.revsK]
     exact ⟨none, BZ.nil _ _ _, Fz.same, AB⟩
   · have hap := fun (H : Hp) (k p : Nat) (h1 : H k = some (.cells [AA hd.ins])) => Ki (H := H) (k := k) (p := p) (es := []) (x := hd.ins) (BZ.nil 0 0 1) (by simp) h1 (by simp)
     simp only [List.map_nil, List.length_nil, Option.map_none, List.nil_append] at hap
     simp [go_sem, AF.flat, e, AF.revsK]
     rw [hap _ _ _ (by simp [AC])]
     simp [go_sem]
     refine ⟨some (n + 1 + 1), ?_, ?_, ?_⟩
     · exact (BZ.nil (n + 1) (n + 1) 1).push (e := AA hd.ins) rfl rfl (by omega) (by omega)
     · simp [Aa, Fz.same]
     · intro j y; have := ho j y; simp only [Aj, hset, SV.cells, List.flatMap_cons, List.flatMap_nil, List.append_nil]; grind
 obtain ⟨hnm, hA⟩ := hm
 refine AH ?_
 simp [go_sem, AF.flat]
 refine An 1 (α := Nat × Option Nat) (fun q => [(1, .iptr hd.flat), (3, Aa 1 q.2 ((hd.revsK q.1 0).map AA)), (20, Ao hd.dels), (21, AA hd.dels.length), (22, AA q.1)]) (fun q => Aj q.2 ((hd.revsK q.1 0).map AA) h)
  (fun q m => q.1 ≤ hd.dels.length ∧ n < m ∧ BZ (n + 1) m 1 q.2 ((hd.revsK q.1 0).map AA)) (fun q => hd.dels.length - q.1) (0, o) ?_ ?_ AB ?_
 · exact ⟨Nat.zero_le _, hnm, hA⟩
 · simp [Ai, AF.flat]
 clear hA hnm
 rintro ⟨i, o⟩ m ⟨hi, hnm, hA⟩
 dsimp only at hi hA ⊢
 have hsd := hs.dels
 have hsl := hs.layers
 have hlen := hd.revsK_len i 0 hi (Nat.zero_le _)
 have hon : ∀ j, o = some j → n < j ∧ j < m := fun j e => by have := hA.lt j e; omega
 by_cases hlt : i < hd.dels.length
 · have w1 := wS i (by omega)
   obtain ⟨x, hx⟩ : ∃ x, hd.dels[i] = x := ⟨_, rfl⟩
   have hsn : hd.revsK (i + 1) 0 = hd.revsK i 0 ++ [x.rev] := by
    unfold AF.revsK
    rw [List.take_succ_eq_append_getElem hlt, hx]; simp
   simp [go_sem, hlt, hx, CF.enc, AC, Aq, AF.flat]
   rw [Ki (x := x.rev) hA (by omega) (by simp [AC]) (by
    intro j e
    have := hon j e
    subst e
    simp only [Iq, hset]
    grind)]
   simp [go_sem, w1, -Int.natCast_add]
   refine ⟨i + 1, by omega, some (m + 1 + 1), ⟨by omega, by omega, ?_⟩, ⟨?_, Fz.same⟩, ?_⟩
   · rw [hsn, List.map_append]; exact hA.push rfl rfl (by omega) (by omega)
   · rw [hsn]; simp [Aa, Fz.same]
   · rw [hsn]; intro j y; have := ho j y; have := hon j
     simp only [Iq]; simp only [hset, List.map_append, List.map_cons, List.map_nil]
     cases o <;> simp only [Option.map_none, Option.map_some, hset] <;> grind
 · have : i = hd.dels.length := by omega
   subst this
   simp [go_sem, AF.flat]
   refine An 1 (α := Nat × Option Nat) (fun q => [(1, .iptr hd.flat), (3, Aa 1 q.2 ((hd.revsK hd.dels.length q.1).map AA)), (34, AV hd.layers), (35, AA hd.layers.length), (36, AA q.1)]) (fun q => Aj q.2 ((hd.revsK hd.dels.length q.1).map AA) h)
    (fun q m => q.1 ≤ hd.layers.length ∧ n < m ∧ BZ (n + 1) m 1 q.2 ((hd.revsK hd.dels.length q.1).map AA)) (fun q => hd.layers.length - q.1) (0, o) ?_ ?_ AB ?_
   · exact ⟨Nat.zero_le _, hnm, hA⟩
   · simp [Ai, AF.flat]
   clear hA hnm hlen hon
   rintro ⟨i, o⟩ m ⟨hi, hnm, hA⟩
   dsimp only at hi hA ⊢
   have hlen := hd.revsK_len hd.dels.length i (Nat.le_refl _) hi
   have hon : ∀ j, o = some j → n < j ∧ j < m := fun j e => by have := hA.lt j e; omega
   by_cases hlt : i < hd.layers.length
   · have w1 := wS i (by omega)
     obtain ⟨x, hx⟩ : ∃ x, hd.layers[i] = x := ⟨_, rfl⟩
     have hsn : hd.revsK hd.dels.length (i + 1) = hd.revsK hd.dels.length i ++ [x.rev] := by
      unfold AF.revsK
      rw [List.take_succ_eq_append_getElem hlt, hx]; simp
     simp [go_sem, hlt, hx, BD.enc, AC, Aq, AF.flat]
     rw [Ki (x := x.rev) hA (by omega) (by simp [AC]) (by
      intro j e
      have := hon j e
      subst e
      simp only [Iq, hset]
      grind)]
     simp [go_sem, w1, -Int.natCast_add]
     refine ⟨i + 1, by omega, some (m + 1 + 1), ⟨by omega, by omega, ?_⟩, ⟨?_, Fz.same⟩, ?_⟩
     · rw [hsn, List.map_append]; exact hA.push rfl rfl (by omega) (by omega)
     · rw [hsn]; simp [Aa, Fz.same]
     · rw [hsn]; intro j y; have := ho j y; have := hon j
       simp only [Iq]; simp only [hset, List.map_append, List.map_cons, List.map_nil]
       cases o <;> simp only [Option.map_none, Option.map_some, hset] <;> grind
   · have : i = hd.layers.length := by omega
     subst this
     have hR : hd.revsK hd.dels.length hd.layers.length = hd.revs := by simp [AF.revsK, AF.revs]
     rw [hR] at hA hlen ⊢
     cases o with
     | none =>
      have he := hA.none rfl
      simp only [List.map_eq_nil_iff] at he
      simp [go_sem, AF.flat, Aa, Aj]
      refine Ag.fz (bs := [.imm 1 [.imm 1 (hd.revs.map AA) false] false]) (h2 := h) 2 (AO ho (by omega) AB) ⟨?_, trivial⟩ ((c179 hd.revs hrl).use ?_)
      · rw [he]
        refine .inr ⟨ho.none (show n ≤ m by omega), by simp, rfl, rfl, [.imm 0 [] true], [.imm 0 [] true], AC _ _ _, by simp [Bi], by simp [SV.storable, SV.cells], ?_⟩
        exact ⟨Ba (by simp), trivial⟩
      · simp [go_sem]
        exact BC ho (by simp [closed, LN.closedL]) rfl
     | some q =>
      have hq := hon q rfl
      simp [go_sem, AF.flat, Aa]
      refine Ag.fz (bs := [.imm 1 [.imm 1 (hd.revs.map AA) false] false]) (h2 := h) 2 (by intro j y; have := ho j y; simp only [Aj, hset]; grind) ⟨?_, trivial⟩ ((c179 hd.revs hrl).use ?_)
      · refine .inr ⟨ho.none (show n ≤ m by omega), by simp, rfl, rfl, _, _, AC _ _ _, by simp [Bi]; rfl, by simp [SV.storable, SV.cells], ?_⟩
        refine ⟨?_, trivial⟩
        have := Dq (h' := hset (Aj (some q) (hd.revs.map AA) h) m (some (.cells [.sl q 0 1 hd.revs.length false]))) (h := h) (k := 0) (z := 1) (o := q) (es := hd.revs.map AA) (full := false) (full' := false) (ho.none (by omega)) (by simp) (by rw [AD _ _ (by omega)]; simp [Aj, hset]) (LN.size _)
        simpa using this
      · simp [go_sem]
        exact BC ho (by simp [closed, LN.closedL]) rfl
theorem QW (l : List Int) (x : Int) : x ∈ Cg l ↔ x ∈ l := (List.mergeSort_perm l _).mem_iff
theorem NG (l : List Int) : (CP l).length ≤ l.length := by have := H4 l l.length (Nat.le_refl _); simpa using this
def AF.uses (h : AF) (rev : Int) : Bool := decide (rev ∈ h.revs)
theorem c38 (hd : AF) (hs : hd.sized) (hrl : hd.revs.length ≤ 1048576) (rev : Int) : PC 38 [hd.enc, AA rev] (.bool (hd.uses rev)) := by
 intro h n
 refine gq Tryz.func38 rfl fun ho => ?_
 simp [go_sem, AF.enc, AF.flat, AC]
 refine PC.use (by simpa [AF.enc, AF.flat] using c114 hd hs hrl) ?_
 simp [go_sem]
 have hl : (Cg (CP hd.revs)).length ≤ 1048576 := by
  have h1 : (Cg (CP hd.revs)).length = (CP hd.revs).length := List.length_mergeSort _
  have := NG hd.revs
  omega
 refine (c113 _ rev hl).use ?_
 simp [go_sem]
 exact Av ho (AO ho (Nat.le_refl _) AB) (by simp [AF.uses, QW, QM]) rfl
def Eh (out : List Int) (x : Int) : List Int := if x ∈ out then out else out ++ [x]
def BU (out l : List Int) : List Int := l.foldl Eh out
theorem Bv (out a b : List Int) : BU out (a ++ b) = BU (BU out a) b := List.foldl_append
theorem HS (x : Int) : ∀ (l out : List Int), x ∈ BU out l ↔ x ∈ out ∨ x ∈ l
 | [], out => by simp [BU]
 | a :: l, out => by
  have ih := HS x l (Eh out a)
  have e : BU out (a :: l) = BU (Eh out a) l := rfl
  rw [e, ih]
  unfold Eh
  split
  · rename_i h
    constructor
    · rintro (h1 | h1)
      · exact .inl h1
      · exact .inr (List.mem_cons_of_mem _ h1)
    · rintro (h1 | h1)
      · exact .inl h1
      · rcases List.mem_cons.1 h1 with rfl | h1
        · exact .inl h
        · exact .inr h1
  · simp only [List.mem_append, List.mem_cons, List.not_mem_nil, or_false, or_assoc]
theorem IN : ∀ (l out : List Int), out.Nodup → (BU out l).Nodup
 | [], _, h => h
 | a :: l, out, h => by
  have e : BU out (a :: l) = BU (Eh out a) l := rfl
  rw [e]
  refine IN l _ ?_
  unfold Eh
  split
  · exact h
  · rename_i hn
    rw [List.nodup_append]
    refine ⟨h, by simp, fun x hx y hy => ?_⟩
    simp at hy
    rintro rfl
    subst hy
    exact hn hx
theorem Nx : ∀ (l out : List Int), (BU out l).length ≤ out.length + l.length
 | [], out => by simp [BU]
 | a :: l, out => by
  have e : BU out (a :: l) = BU (Eh out a) l := rfl
  rw [e]
  have := Nx l (Eh out a)
  have h2 : (Eh out a).length ≤ out.length + 1 := by unfold Eh; split <;> simp
  simp; omega
theorem Po (out : List Int) (x : Int) :
 (∃ i v, Cq (AA x) (EI out) 0 = some (some (i, v)) ∧ (EI out).modify i (fun _ => (AA x, .bool true)) = EI (Eh out x)) ∨ (Cq (AA x) (EI out) 0 = some none ∧ EI out ++ [(AA x, .bool true)] = EI (Eh out x)) := by
 by_cases hm : x ∈ out
 · obtain ⟨j, h1, h2⟩ := Cw 0 hm
   refine .inl ⟨0 + j, _, h1, ?_⟩
   have := Im h2
   rw [Nat.zero_add, Eh, if_pos hm]
   exact this
 · refine .inr ⟨Da 0 hm, ?_⟩
   rw [Eh, if_neg hm]; simp [EI]
def AF.all (h : AF) : List Int := h.ins :: (h.dels.map (·.rev) ++ h.layers.map (·.rev))
theorem Sj (hd : AF) (hsz : hd.sized) (out : List Int) {H : Hp} {n p s : Nat} (hp : H p = some (.cells [.map s])) (hs : H s = some (.map (EI out))) :
 BO Tryz.prog 137 [hd.enc, .ptr p 0] H n (fun v h' n' => v = .tup [] ∧ h' = hset H s (some (.map (EI (BU out hd.all)))) ∧ n' = n) := by
 refine ED Tryz.func137 rfl fun ho => ?_
 have hpn := (ho p _ hp).1
 have hsn := (ho s _ hs).1
 have hps : p ≠ s := by rintro rfl; rw [hp] at hs; cases hs
 have e1 : p ≠ n := by omega
 have e2 : s ≠ n := by omega
 have hsd := hsz.dels
 have hsl := hsz.layers
 have A : ∀ l : List Int, hd.all = hd.ins :: l → BU out hd.all = BU (Eh out hd.ins) l := fun l e => by rw [e]; rfl
 refine Bn 2 [(1, .ptr p 0), (2, .iptr hd.flat)] H (fun m => m = n + 1) ?_ (fun m hm => ?_)
 · simp [go_sem, AF.enc, Fz.same]
   exact ⟨Ac (ho.none (Nat.le_refl n)) (by simp [AC]), AO ho (Nat.le_refl _) AB⟩
 subst hm
 refine Bn 1 [(1, .ptr p 0), (2, .iptr hd.flat)] (hset H s (some (.map (EI (Eh out hd.ins))))) (fun m => m = n + 1) ?_ (fun m hm => ?_)
 · rcases Po out hd.ins with ⟨i, v, h1, h2⟩ | ⟨h1, h2⟩ <;> simp [go_sem, AF.flat, hp, hs, h1, h2, CD]
 subst hm
 refine AH ?_
 simp [go_sem, AF.flat]
 refine An 1 (α := Nat) (fun i => [(1, .ptr p 0), (2, .iptr hd.flat), (13, Ao hd.dels), (14, AA hd.dels.length), (15, AA i)]) (fun i => hset H s (some (.map (EI (BU (Eh out hd.ins) ((hd.dels.take i).map (·.rev)))))))
  (fun i m => i ≤ hd.dels.length ∧ n < m) (fun i => hd.dels.length - i) 0 ?_ ?_ ?_ ?_
 · exact ⟨Nat.zero_le _, Nat.lt_succ_self n⟩
 · simp [Ai, AF.flat]
 · exact AB
 rintro i m ⟨hi, hnm⟩
 have e3 : p ≠ m := by omega
 have e4 : s ≠ m := by omega
 by_cases hlt : i < hd.dels.length
 · have w1 := wS i (by omega)
   obtain ⟨x, hx⟩ : ∃ x, hd.dels[i] = x := ⟨_, rfl⟩
   have hsn : BU (Eh out hd.ins) ((hd.dels.take (i + 1)).map (·.rev)) = Eh (BU (Eh out hd.ins) ((hd.dels.take i).map (·.rev))) x.rev := by
    rw [List.take_succ_eq_append_getElem hlt, hx, List.map_append, Bv]; rfl
   generalize BU (Eh out hd.ins) ((hd.dels.take i).map (·.rev)) = o2 at hsn ⊢
   rcases Po o2 x.rev with ⟨k, v, h1, h2⟩ | ⟨h1, h2⟩ <;> simp [go_sem, AF.flat, hlt, hx, CF.enc, hp, h1, h2, CD, w1, AC, AD, e3, e4, hps, -Int.natCast_add]
   all_goals
    refine ⟨i + 1, by omega, ⟨by omega, by omega⟩, Fz.same, ?_⟩
    rw [← List.map_take, hsn]; intro j y; have := ho j y; simp only [hset]; grind
 · have : i = hd.dels.length := by omega
   subst this
   rw [List.take_length]
   generalize hO : BU (Eh out hd.ins) (hd.dels.map (·.rev)) = out1
   simp [go_sem, AF.flat]
   refine An 1 (α := Nat) (fun i => [(1, .ptr p 0), (2, .iptr hd.flat), (25, AV hd.layers), (26, AA hd.layers.length), (27, AA i)]) (fun i => hset H s (some (.map (EI (BU out1 ((hd.layers.take i).map (·.rev)))))))
    (fun i m => i ≤ hd.layers.length ∧ n < m) (fun i => hd.layers.length - i) 0 ?_ ?_ ?_ ?_
   · exact ⟨Nat.zero_le _, hnm⟩
   · simp [Ai, AF.flat]
   · exact AB
   clear hi hnm e3 e4 m hlt
   rintro i m ⟨hi, hnm⟩
   have e3 : p ≠ m := by omega
   have e4 : s ≠ m := by omega
   by_cases hlt : i < hd.layers.length
   · have w1 := wS i (by omega)
     obtain ⟨x, hx⟩ : ∃ x, hd.layers[i] = x := ⟨_, rfl⟩
     have hsn : BU out1 ((hd.layers.take (i + 1)).map (·.rev)) = Eh (BU out1 ((hd.layers.take i).map (·.rev))) x.rev := by
      rw [List.take_succ_eq_append_getElem hlt, hx, List.map_append, Bv]; rfl
     generalize BU out1 ((hd.layers.take i).map (·.rev)) = o2 at hsn ⊢
     rcases Po o2 x.rev with ⟨k, v, h1, h2⟩ | ⟨h1, h2⟩ <;> simp [go_sem, AF.flat, hlt, hx, BD.enc, hp, h1, h2, CD, w1, AC, AD, e3, e4, hps, -Int.natCast_add]
     all_goals
      refine ⟨i + 1, by omega, ⟨by omega, by omega⟩, Fz.same, ?_⟩
      rw [← List.map_take, hsn]; intro j y; have := ho j y; simp only [hset]; grind
   · have : i = hd.layers.length := by omega
     subst this
     rw [List.take_length]
     simp [go_sem, AF.flat]
     have hfin : BU out1 (hd.layers.map (·.rev)) = BU out hd.all := by
      rw [← hO, ← Bv]; exact (A _ rfl).symm
     rw [hfin]
     refine .inr ⟨0, .tup [], _, Fz.same, by simp [closed, closedL], fun o x e => ⟨e, ?_⟩, rfl, rfl, rfl⟩
     have := ho o x
     simp only [hset] at e
     split at e
     · subst_vars
       cases e
       refine ⟨hsn, ?_⟩
       simp [BJ, EI, closed]
     · exact this e
mutual
def AE.us : AE → List Int
 | .mk k _ _ _ h f r => h.all ++ (if k = 6 then AE.usL f else if k = 7 then AS.usL r else [])
def AE.usL : List AE → List Int
 | [] => []
 | x :: l => x.us ++ AE.usL l
def AS.us : AS → List Int
 | .mk h c => h.all ++ AK.usL c
def AS.usL : List AS → List Int
 | [] => []
 | x :: l => x.us ++ AS.usL l
def AK.us : AK → List Int
 | .mk _ h f => h.all ++ AE.usL f
def AK.usL : List AK → List Int
 | [] => []
 | x :: l => x.us ++ AK.usL l
end
theorem AE.usL_append : ∀ a b : List AE, AE.usL (a ++ b) = AE.usL a ++ AE.usL b
 | [], b => by simp [AE.usL]
 | x :: a, b => by rw [List.cons_append, AE.usL, AE.usL_append a b, AE.usL, List.append_assoc]
theorem AS.usL_append : ∀ a b : List AS, AS.usL (a ++ b) = AS.usL a ++ AS.usL b
 | [], b => by simp [AS.usL]
 | x :: a, b => by rw [List.cons_append, AS.usL, AS.usL_append a b, AS.usL, List.append_assoc]
theorem AK.usL_append : ∀ a b : List AK, AK.usL (a ++ b) = AK.usL a ++ AK.usL b
 | [], b => by simp [AK.usL]
 | x :: a, b => by rw [List.cons_append, AK.usL, AK.usL_append a b, AK.usL, List.append_assoc]
theorem TA {H h' : Hp} {n n' s : Nat} {y : BV} (ho : Fd H n) (hsn : s < n) (hc : BJ n y = true) (hh : ∀ j z, hset H s (some y) j = some z → h' j = some z) :
 CG n h' n' (.tup []) (fun v h2 n2 => v = .tup [] ∧ h2 = hset H s (some y) ∧ n2 = n) := by
 refine .inr ⟨0, .tup [], _, Fz.same, by simp [closed, closedL], fun o x e => ⟨hh o x e, ?_⟩, rfl, rfl, rfl⟩
 simp only [hset] at e
 split at e
 · subst_vars; cases e; exact ⟨hsn, hc⟩
 · exact ho o x e
theorem G5 (n : Nat) (out : List Int) : BJ n (.map (EI out)) = true := by simp [BJ, EI, closed]
theorem d138 : ∀ (N : Nat) (l : List AE), SizeOf.sizeOf l < N → l.length ≤ 1048576 → AE.sizedL l → ∀ (out : List Int) (H : Hp) (n p s : Nat), H p = some (.cells [.map s]) → H s = some (.map (EI out)) →
 BO Tryz.prog 138 [AG l, .fn (.func 137) [] [.ptr p 0]] H n (fun v h' n' => v = .tup [] ∧ h' = hset H s (some (.map (EI (BU out (AE.usL l))))) ∧ n' = n) := by
 intro N
 induction N with
 | zero => intro l h; omega
 | succ N ih =>
 intro l hN hl hs out H n p s hp hsm
 refine gq Tryz.func138 rfl fun ho => ?_
 have hpn := (ho p _ hp).1
 have hsn := (ho s _ hsm).1
 have hps : p ≠ s := by rintro rfl; rw [hp] at hsm; cases hsm
 simp [go_sem]
 refine An 1 (α := Nat) (fun i => [(1, .fn (.func 137) [] [.ptr p 0]), (10, AG l), (11, AA l.length), (12, AA i)]) (fun i => hset H s (some (.map (EI (BU out (AE.usL (l.take i)))))))
  (fun i m => i ≤ l.length ∧ n ≤ m) (fun i => l.length - i) 0 ?_ ?_ ?_ ?_
 · exact ⟨Nat.zero_le _, Nat.le_refl n⟩
 · simp [Ai]
 · intro j y; simp only [hset, List.take_zero, AE.usL, BU, List.foldl_nil]; grind
 rintro i m ⟨hi, hnm⟩
 have e3 : p ≠ m := by omega
 have e4 : s ≠ m := by omega
 by_cases hlt : i < l.length
 · have w1 := wS i (by omega)
   obtain ⟨x, hx⟩ : ∃ x, l[i] = x := ⟨_, rfl⟩
   have hxm : x ∈ l := by rw [← hx]; exact List.getElem_mem hlt
   have hxs := AE.sizedL_mem hs x hxm
   have hxp := Dg hxs
   have htk : AE.usL (l.take (i + 1)) = AE.usL (l.take i) ++ x.us := by
    rw [List.take_succ_eq_append_getElem hlt, hx, AE.usL_append]; simp [AE.usL]
   have hA : BU out (AE.usL (l.take (i + 1))) = BU (BU out (AE.usL (l.take i))) x.us := by rw [htk, Bv]
   generalize BU out (AE.usL (l.take i)) = o2 at hA ⊢
   simp [go_sem, hlt, hx, AE.enc_eq, AC]
   refine SC.use (by simpa [AF.enc, AF.flat] using Sj x.head hxp.1 o2 (p := p) (s := s) (by simp [hset, e3, hps, hp]) (by simp [hset, e4])) ?_
   rintro v h' n' ⟨rfl, rfl, rfl⟩
   have hxu : x.us = x.head.all ++ (if x.kind = 6 then AE.usL x.flow else if x.kind = 7 then AS.usL x.rows else []) := by cases x; rfl
   by_cases k6 : x.kind = 6
   · have hxf : x.flow.length ≤ 1048576 ∧ AE.sizedL x.flow := by cases x; rw [AE.sized] at hxs; exact ⟨hxs.2.2.1, hxs.2.2.2.2.1⟩
     simp [go_sem, AC, AD, e4.symm, k6]
     refine SC.use (ih x.flow (by have := MX hxm; omega) hxf.1 hxf.2 (BU o2 x.head.all) _ _ p s (by simp [hset, e3, hps, hp]) (by simp [hset])) ?_
     rintro v h' n' ⟨rfl, rfl, rfl⟩
     simp [go_sem, w1, -Int.natCast_add]
     refine ⟨i + 1, by omega, ⟨by omega, by omega⟩, Fz.same, ?_⟩
     rw [hA, hxu, if_pos k6, Bv]
     intro j y; have := ho j y; simp only [hset]; grind
   · by_cases k7 : x.kind = 7
     · have hxr : x.rows.length ≤ 1048576 ∧ AS.sizedL x.rows := by cases x; rw [AE.sized] at hxs; exact ⟨hxs.2.2.2.1, hxs.2.2.2.2.2⟩
       rw [if_neg k6, if_pos k7] at hxu
       simp [go_sem, AC, AD, e4.symm, k7]
       generalize hO3 : BU o2 x.head.all = o3
       refine An 1 (α := Nat) (fun q => [(1, .fn (.func 137) [] [.ptr p 0]), (10, AG l), (11, AA l.length), (12, AA i), (31, Ay x.rows), (32, AA x.rows.length), (33, AA q)]) (fun q => hset H s (some (.map (EI (BU o3 (AS.usL (x.rows.take q)))))))
        (fun q m => q ≤ x.rows.length ∧ n ≤ m) (fun q => x.rows.length - q) 0 ?_ ?_ ?_ ?_
       · exact ⟨Nat.zero_le _, by omega⟩
       · simp [Ai]
       · intro j y; have := ho j y; simp only [hset, List.take_zero, AS.usL, BU, List.foldl_nil]; grind
       clear e3 e4 hnm m
       rintro q m ⟨hq, hnm⟩
       have e3 : p ≠ m := by omega
       have e4 : s ≠ m := by omega
       by_cases hqt : q < x.rows.length
       · have w2 := wS q (by omega)
         obtain ⟨r, hr⟩ : ∃ r, x.rows[q] = r := ⟨_, rfl⟩
         have hrm : r ∈ x.rows := by rw [← hr]; exact List.getElem_mem hqt
         have hrs := AS.sizedL_mem hxr.2 r hrm
         have hrk : AS.usL (x.rows.take (q + 1)) = AS.usL (x.rows.take q) ++ r.us := by
          rw [List.take_succ_eq_append_getElem hqt, hr, AS.usL_append]; simp [AS.usL]
         have hB : BU o3 (AS.usL (x.rows.take (q + 1))) = BU (BU o3 (AS.usL (x.rows.take q))) r.us := by rw [hrk, Bv]
         have hru : r.us = r.head.all ++ AK.usL r.cells := by cases r; rfl
         have hrc : r.head.sized ∧ r.cells.length ≤ 1048576 ∧ AK.sizedL r.cells := by cases r; rw [AS.sized] at hrs; exact hrs
         generalize BU o3 (AS.usL (x.rows.take q)) = o4 at hB ⊢
         simp [go_sem, hqt, hr, AS.enc_eq, AC]
         refine SC.use (by simpa [AF.enc, AF.flat] using Sj r.head hrc.1 o4 (p := p) (s := s) (by simp [hset, e3, hps, hp]) (by simp [hset, e4])) ?_
         rintro v h' n' ⟨rfl, rfl, rfl⟩
         simp [go_sem, AC, AD, e4.symm]
         generalize hO5 : BU o4 r.head.all = o5
         refine An 1 (α := Nat) (fun w => [(1, .fn (.func 137) [] [.ptr p 0]), (10, AG l), (11, AA l.length), (12, AA i), (31, Ay x.rows), (32, AA x.rows.length), (33, AA q), (42, Bt r.cells), (43, AA r.cells.length), (44, AA w)]) (fun w => hset H s (some (.map (EI (BU o5 (AK.usL (r.cells.take w)))))))
          (fun w m => w ≤ r.cells.length ∧ n ≤ m) (fun w => r.cells.length - w) 0 ?_ ?_ ?_ ?_
         · exact ⟨Nat.zero_le _, by omega⟩
         · simp [Ai]
         · intro j y; have := ho j y; simp only [hset, List.take_zero, AK.usL, BU, List.foldl_nil]; grind
         clear e3 e4 hnm m
         rintro w m ⟨hw, hnm⟩
         have e3 : p ≠ m := by omega
         have e4 : s ≠ m := by omega
         by_cases hwt : w < r.cells.length
         · have w3 := wS w (by omega)
           obtain ⟨c, hc⟩ : ∃ c, r.cells[w] = c := ⟨_, rfl⟩
           have hcm : c ∈ r.cells := by rw [← hc]; exact List.getElem_mem hwt
           have hcs := AK.sizedL_mem hrc.2.2 c hcm
           have hck : AK.usL (r.cells.take (w + 1)) = AK.usL (r.cells.take w) ++ c.us := by
            rw [List.take_succ_eq_append_getElem hwt, hc, AK.usL_append]; simp [AK.usL]
           have hC : BU o5 (AK.usL (r.cells.take (w + 1))) = BU (BU o5 (AK.usL (r.cells.take w))) c.us := by rw [hck, Bv]
           have hcu : c.us = c.head.all ++ AE.usL c.flow := by cases c; rfl
           have hcc : c.head.sized ∧ c.flow.length ≤ 1048576 ∧ AE.sizedL c.flow := by cases c; rw [AK.sized] at hcs; exact hcs
           generalize BU o5 (AK.usL (r.cells.take w)) = o6 at hC ⊢
           simp [go_sem, hwt, hc, AK.enc_eq, AC]
           refine SC.use (by simpa [AF.enc, AF.flat] using Sj c.head hcc.1 o6 (p := p) (s := s) (by simp [hset, e3, hps, hp]) (by simp [hset, e4])) ?_
           rintro v h' n' ⟨rfl, rfl, rfl⟩
           simp [go_sem, AC, AD, e4.symm]
           refine SC.use (ih c.flow (by have := MM hxm hrm hcm; omega) hcc.2.1 hcc.2.2 (BU o6 c.head.all) _ _ p s (by simp [hset, e3, hps, hp]) (by simp [hset])) ?_
           rintro v h' n' ⟨rfl, rfl, rfl⟩
           simp [go_sem, w3, -Int.natCast_add]
           refine ⟨w + 1, by omega, ⟨by omega, by omega⟩, Fz.same, ?_⟩
           rw [hC, hcu, Bv]
           intro j y; have := ho j y; simp only [hset]; grind
         · have : w = r.cells.length := by omega
           subst this
           rw [List.take_length]
           simp [go_sem, w2, -Int.natCast_add]
           refine ⟨q + 1, by omega, ⟨by omega, by omega⟩, Fz.same, ?_⟩
           rw [hB, hru, Bv, hO5]
           exact AB
       · have : q = x.rows.length := by omega
         subst this
         rw [List.take_length]
         simp [go_sem, w1, -Int.natCast_add]
         refine ⟨i + 1, by omega, ⟨by omega, by omega⟩, Fz.same, ?_⟩
         rw [hA, hxu, Bv, hO3]
         exact AB
     · simp [go_sem, AC, AD, e4.symm, k6, k7, w1, -Int.natCast_add]
       refine ⟨i + 1, by omega, ⟨by omega, by omega⟩, Fz.same, ?_⟩
       rw [hA, hxu, if_neg k6, if_neg k7, List.append_nil]
       intro j y; have := ho j y; simp only [hset]; grind
 · have : i = l.length := by omega
   subst this
   rw [List.take_length]
   simp [go_sem]
   exact TA ho hsn (G5 _ _) fun _ _ e => e
section
variable {P : Program} {E : Bl} {evs : Operand → SV} {o : Oper} {h : Hp} {n : Nat} {K : SV → Hp → Nat → Prop}
theorem I5 {α : Type} (f : α → Nat) : ∀ (L : List α), (L.map f).Nodup → ∀ (i : Nat) (hi : i < L.length), L.filter (fun x => f x != f L[i]) = L.eraseIdx i
 | a :: L, hn, 0, hi => by
  rw [List.map_cons, List.nodup_cons] at hn
  rw [List.filter_cons]
  simp only [List.getElem_cons_zero, bne_self_eq_false, Bool.false_eq_true, if_false, List.eraseIdx_cons_zero]
  exact List.filter_eq_self.2 fun x hx => by
   simp only [bne_iff_ne, ne_eq]
   intro e
   exact hn.1 (e ▸ List.mem_map.2 ⟨x, hx, rfl⟩)
 | a :: L, hn, i + 1, hi => by
  rw [List.map_cons, List.nodup_cons] at hn
  rw [List.filter_cons]
  simp only [List.getElem_cons_succ, List.eraseIdx_cons_succ]
  have ha : (f a != f (L[i]'(by simpa using hi))) = true := by
   simp only [bne_iff_ne, ne_eq]
   intro e
   exact hn.1 (e ▸ List.mem_map.2 ⟨_, List.getElem_mem _, rfl⟩)
  rw [if_pos ha, I5 f L hn.2 i (by simpa using hi)]
theorem Jz {t : TypeId} {x : Operand} {m : Nat} {es : List (SV × SV)} (ho : o.op = .range t x) (ht : (Ke P t).isSome = true) (hx : evs x = .map m) (hm : h m = some (.map es))
 (hk : K (.ptr n 0) (hset (hset h m none) n (some (.iter es none))) (n + 1)) : Dw E P evs o h n K := by
 refine ⟨by rw [ho]; simp, fun c ev _ _ R F hv => ?_⟩
 have hvx := hv x
 rw [hx, V] at hvx
 obtain ⟨bm, hρ, hev⟩ := hvx
 obtain ⟨b', ents, clock, g1, g2, g3, g4⟩ := R.obj _ _ hm
 rw [hρ] at g1; cases g1
 obtain ⟨⟨kt, e⟩, ht⟩ := Option.isSome_iff_exists.1 ht
 have hu := Do ht
 have hgo : (getObj bm).run P c.w = .ok (.map ents clock) c.w := by simp [getObj, Sem.run, g2]
 have hrun : (execOp ev o).run P c.w = .ok (.value (.pointer (some ⟨c.w.heap.size, 0, none⟩))) (c.w.alloc (.mapIter (some bm) clock #[] clock)) := by
  simp [execOp, ho, Instr.range, AJ hu, hev, hgo]
 have R1 := R.kill m hm
 have hn1 : (c.kill m).ρ n = none := F n (Nat.le_refl _)
 have X1 := c.kill_ext m
 have hlt : bm < c.w.heap.size := (Array.getElem?_eq_some_iff.1 g2).1
 have X2 := (c.kill m).alloc_ext n (.mapIter (some bm) clock #[] clock) hn1
 have R2 := R1.alloc hn1 (x := .iter es none) (b := .mapIter (some bm) clock #[] clock) ⟨c.w.heap.size, bm, ents, clock, #[], by simp [Cx.alloc, Cx.kill], by simp [Cx.alloc, Cx.kill, BX],
  by simp [Cx.alloc, Cx.kill, BX, Array.getElem?_push, Nat.ne_of_lt hlt, g2], by
   simp only [Cx.alloc, Cx.kill]
   rintro (h1 | h1)
   · exact h1.2 0 hρ
   · omega, g4, by
   have : (ents.toList.filter fun e => !(#[] : Array Nat).contains e.born) = ents.toList := List.filter_eq_self.2 fun _ _ => by simp
   rw [this]
   exact AQ.mono (fun _ _ g => ⟨V.mono (X1.trans X2) g.1, V.mono (X1.trans X2) g.2⟩) g3, by simp⟩
 refine ⟨_, .ptr n 0, _, n + 1, (c.kill m).alloc n (.mapIter (some bm) clock #[] clock), by rw [hrun]; rfl, ?_, R2, fun j hj => ?_, ⟨X1.trans X2, Nat.le_succ n, fun j hj => ?_⟩, hk⟩
 · rw [V]; exact ⟨c.w.heap.size, 0, by simp [Cx.alloc, Cx.kill], rfl⟩
 · simp only [Cx.alloc, Cx.kill]
   rw [if_neg (by omega)]; exact F j (by omega)
 · simp only [Cx.alloc, Cx.kill]
   rw [if_neg (by omega)]
theorem Mp {x : Operand} {q : Nat} {left : List (SV × SV)} {p : SV × SV} (ho : o.op = .entry x) (hx : evs x = .ptr q 0) (hq : h q = some (.iter left (some p)))
 (hk : K (.tup [p.1, p.2]) h n) : Dw E P evs o h n K := by
 refine ⟨by rw [ho]; simp, fun c ev _ _ R F hv => ?_⟩
 have hvx := hv x
 rw [hx, V] at hvx
 obtain ⟨b, st, hρ, hev⟩ := hvx
 obtain ⟨b', bm, ents, clock, seen, g1, g2, g3, g4, g5, g6, g7⟩ := R.obj _ _ hq
 rw [hρ] at g1; cases g1
 obtain ⟨e, k1, k2, k3, k4⟩ := g7 p rfl
 have hgo : (getObj b).run P c.w = .ok (.mapIter (some bm) clock seen clock) c.w := by simp [getObj, Sem.run, g2]
 have hgm : (getObj bm).run P c.w = .ok (.map ents clock) c.w := by simp [getObj, Sem.run, g3]
 have hfind : ents.find? (fun y => y.born == e.born) = some e := by
  rw [← Array.find?_toList]
  have : ∀ l : List MapEntry, (l.map (·.born)).Nodup → e ∈ l → l.find? (fun y => y.born == e.born) = some e := by
   intro l
   induction l with
   | nil => intro _ h; cases h
   | cons a l ih =>
    intro hn he
    rw [List.map_cons, List.nodup_cons] at hn
    rw [List.find?_cons]
    rcases List.mem_cons.1 he with rfl | he
    · simp
    · have : (a.born == e.born) = false := by
       simp only [beq_eq_false_iff_ne, ne_eq]
       intro h2
       exact hn.1 (h2 ▸ List.mem_map.2 ⟨e, he, rfl⟩)
      rw [this]; exact ih hn.2 he
  exact this _ g5.2 k1
 refine ⟨.tuple #[e.key, e.val], .tup [p.1, p.2], h, n, c, ?_, by simp only [V, VL]; exact ⟨_, rfl, _, _, rfl, k3, _, _, rfl, k4, rfl⟩, R, F, FY.refl n c, hk⟩
 simp [execOp, ho, Instr.entry, hev, hgo, k2, hgm, hfind]
theorem Lg {x : Operand} {q : Nat} {left : List (SV × SV)} {last : Option (SV × SV)} (ho : o.op = .next x false) (hx : evs x = .ptr q 0) (hq : h q = some (.iter left last))
 (hk : ∀ (i : Nat) (hi : i < left.length), K (.tup [.bool true, left[i].1, left[i].2]) (hset h q (some (.iter (left.eraseIdx i) (some left[i])))) n) (h0 : left = [] → K (.tup [.bool false]) h n) : Dw E P evs o h n K := by
 refine ⟨by rw [ho]; simp, fun c ev _ _ R F hv => ?_⟩
 have hvx := hv x
 rw [hx, V] at hvx
 obtain ⟨b, st, hρ, hev⟩ := hvx
 obtain ⟨b', bm, ents, clock, seen, g1, g2, g3, g4, g5, g6, g7⟩ := R.obj _ _ hq
 rw [hρ] at g1; cases g1
 have hgo : (getObj b).run P c.w = .ok (.mapIter (some bm) clock seen clock) c.w := by simp [getObj, Sem.run, g2]
 have hgm : (getObj bm).run P c.w = .ok (.map ents clock) c.w := by simp [getObj, Sem.run, g3]
 have hgone : (!seen.isEmpty && !ents.isEmpty && ents.all fun y => decide (y.born ≥ clock)) = false := by
  cases he : ents.isEmpty with
  | true => simp
  | false =>
   have hne : 0 < ents.size := by rcases Nat.eq_zero_or_pos ents.size with h | h; simp [Array.isEmpty, h] at he; exact h
   have : (ents.all fun y => decide (y.born ≥ clock)) = false := by
    rw [Array.all_eq_false]
    refine ⟨0, hne, ?_⟩
    have := g5.1 ents[0] (by simp)
    simp; exact this
   simp [this]
 generalize hL : ents.filter (fun y => !seen.contains y.born) = L
 have hLl : L.toList = ents.toList.filter fun e => !seen.contains e.born := by rw [← hL]; simp
 have hold : L.filter (fun y => decide (y.born < clock)) = L := by
  apply Array.ext'
  rw [Array.toList_filter]
  exact List.filter_eq_self.2 fun y hy => by
   rw [hLl] at hy
   simpa using g5.1 y (List.mem_filter.1 hy).1
 have hnew : L.filter (fun y => decide (y.born ≥ clock)) = #[] := by
  apply Array.ext'
  rw [Array.toList_filter]
  exact List.filter_eq_nil_iff.2 fun y hy => by
   rw [hLl] at hy
   simpa using g5.1 y (List.mem_filter.1 hy).1
 rw [← hLl] at g6
 have hlen : left.length = L.size := by have := g6.length; simpa using this
 by_cases hz : L.size = 0
 · have hl0 : left = [] := List.eq_nil_of_length_eq_zero (by omega)
   have hL0 : L = #[] := Array.eq_empty_of_size_eq_zero hz
   refine ⟨.tuple #[.bool false], .tup [.bool false], h, n, c, ?_, by simp [V, VL], R, F, FY.refl n c, h0 hl0⟩
   subst hL0
   simp only [execOp, ho, Instr.next, hev, Nat.add_zero, Sem.run_bind, Sem.run_pure, hgo, Result.andThen_ok, hgm, hgone, Bool.false_eq_true, if_false, hL, hold, hnew]
   simp [Question.forced]
 · have hch : ∃ i w1, (choose (.mapNext L.size)).run P c.w = .ok i w1 ∧ i < L.size ∧ (w1 = c.w ∨ w1 = c.w.drew) := by
    rw [run_choose_drew]
    by_cases hf : (Question.mapNext L.size).forced = true
    · rw [if_pos hf]; exact ⟨0, _, rfl, by omega, .inl rfl⟩
    · rw [if_neg hf]; exact ⟨_, _, rfl, Nat.mod_lt _ (by omega), .inr rfl⟩
   obtain ⟨i, w1, hch, hi, hw1⟩ := hch
   obtain ⟨c1, hc1, X1, R1, F1, hρ1⟩ : ∃ c1 : Cx, c1.w = w1 ∧ DV c c1 ∧ Bq h c1 ∧ Fr n c1 ∧ c1.ρ = c.ρ := by
    rcases hw1 with rfl | rfl
    · exact ⟨c, rfl, DV.refl c, R, F, rfl⟩
    · exact ⟨c.drew, rfl, c.drew_ext, R.drew, fun j hj => F j hj, rfl⟩
   subst hc1
   have hh1 : c1.w.heap = c.w.heap := by rcases hw1 with e | e <;> rw [e] <;> rfl
   have hil : i < left.length := by omega
   obtain ⟨e, he, hr1, hr2⟩ := g6.get (i := i) (a := left[i]) (by simp [hil])
   have heL : L[i]? = some e := by simpa using he
   have hemem : e ∈ ents.toList := by
    have := List.mem_of_getElem? he
    rw [hLl] at this; exact (List.mem_filter.1 this).1
   have hisE : L.isEmpty = false := by cases hb : L.isEmpty with | false => rfl | true => (simp at hb; subst hb; simp at hz)
   have hblt : b < c.w.heap.size := (Array.getElem?_eq_some_iff.1 g2).1
   have hset' : ∀ ob : Obj, (setObj b ob).run P c1.w = .ok () { c1.w with heap := c1.w.heap.setIfInBounds b ob } := fun ob => by simp [setObj, Sem.run, hh1, g2]
   have hrun : (execOp ev o).run P c.w = .ok (.value (.tuple #[.bool true, e.key, e.val])) { c1.w with heap := c1.w.heap.setIfInBounds b (.mapIter (some bm) clock (seen.push e.born) clock) } := by
    have hcand : ((if L.isEmpty then #[none] else #[]) ++ (L ++ #[]).map some : Array (Option MapEntry)) = L.map some := by simp [hisE]
    simp only [execOp, ho, Instr.next, hev, Nat.add_zero, Sem.run_bind, Sem.run_pure, hgo, Result.andThen_ok, hgm, hgone, Bool.false_eq_true, if_false, hL, hold, hnew, hcand, Array.size_map, hch]
    simp [heL, hset']
   have hbm : bm ≠ b := by rintro rfl; rw [g2] at g3; cases g3
   obtain ⟨R2, X2⟩ := R1.write (w' := { c1.w with heap := c1.w.heap.setIfInBounds b (.mapIter (some bm) clock (seen.push e.born) clock) }) (y := .iter (left.eraseIdx i) (some left[i])) hq (by rw [hρ1]; exact hρ) (by simp)
    (fun b' hb' => by simp [Array.getElem?_setIfInBounds_ne (Ne.symm hb')]) (by simp [rm, hh1, g2]) rfl rfl (fun X => by
      have XX := X1.trans X
      refine ⟨b, bm, ents, clock, seen.push e.born, by show c1.ρ q = _; rw [hρ1]; exact hρ, by simp [hh1, hblt], ?_, ?_, g5, ?_, ?_⟩
      · show (c1.w.heap.setIfInBounds b _)[bm]? = _
        rw [Array.getElem?_setIfInBounds_ne hbm.symm, hh1]; exact g3
      · exact fun hb => (XX.keep bm (Array.getElem?_eq_some_iff.1 g3).1 g4).1 hb
      · have hnd : (L.toList.map (·.born)).Nodup := by rw [hLl]; exact g5.2.sublist (List.filter_sublist.map _)
        have hee : L.toList[i]'(by simpa using hi) = e := by
         have := (List.getElem?_eq_some_iff.1 he).2; exact this
        have h1 := I5 (fun x : MapEntry => x.born) L.toList hnd i (by simpa using hi)
        rw [hee] at h1
        have h2 : (ents.toList.filter fun x => !(seen.push e.born).contains x.born) = L.toList.filter fun x => x.born != e.born := by
         rw [hLl, List.filter_filter]
         congr 1; funext x
         by_cases hx : x.born = e.born <;> simp [hx]
        rw [h2, h1]
        exact AQ.mono (fun _ _ g => ⟨V.mono XX g.1, V.mono XX g.2⟩) (AQ.eraseIdx i g6)
      · intro p hp
        cases hp
        exact ⟨e, hemem, by simp, V.mono XX hr1, V.mono XX hr2⟩)
   exact ⟨_, .tup [.bool true, left[i].1, left[i].2], _, n, _, hrun, by
    have XX := X1.trans X2
    simp only [V, VL]
    exact ⟨_, rfl, _, _, rfl, rfl, _, _, rfl, V.mono XX hr1, _, _, rfl, V.mono XX hr2, rfl⟩, R2, fun j hj => F1 j hj, ⟨X1.trans X2, Nat.le_refl _, fun j _ => by show c1.ρ j = _; rw [hρ1]⟩, hk i hil⟩
end
structure YK (E : Bl) (l : Nat) (ks0 : List Int) (J : List Int → (Nat → Prop) → Hp → Nat → Prop) : Prop where
 step : ∀ ks x D h m, (∃ rest, (ks ++ [x] ++ rest).Perm ks0) → J ks D h m → Ez E Tryz.prog l [AA x] h m (HG (J (ks ++ [x])) (fun _ _ _ => False) D h m)
 keep : ∀ ks D h m h' m', J ks D h m → m ≤ m' → (∀ o, D o → h' o = h o) → J ks D h' m'
 lt : ∀ ks D h m, J ks D h m → ∀ o, D o → o < m
theorem G1 {α β : Type} (f : α → β) : ∀ (l : List α) (i : Nat), (l.eraseIdx i).map f = (l.map f).eraseIdx i
 | [], _ => by simp
 | a :: l, 0 => by simp
 | a :: l, i + 1 => by simp [G1 f l i]
theorem KI {α : Type} : ∀ (l : List α) (i : Nat) (hi : i < l.length), (l[i] :: l.eraseIdx i).Perm l
 | a :: l, 0, _ => by simp
 | a :: l, i + 1, hi => by
  have ih := KI l i (by simpa using hi)
  simp only [List.getElem_cons_succ, List.eraseIdx_cons_succ]
  exact (List.Perm.swap _ _ _).trans (ih.cons a)
theorem LY {ks lk ks0 : List Int} (h : (ks ++ lk).Perm ks0) {i : Nat} (hi : i < lk.length) : (ks ++ [lk[i]] ++ lk.eraseIdx i).Perm ks0 := by
 refine List.Perm.trans ?_ h
 rw [List.append_assoc]
 refine List.Perm.append_left ks ?_
 exact KI lk i hi
section
variable {E : Bl} {yl : Nat} {J : List Int → (Nat → Prop) → Hp → Nat → Prop}
theorem c198 {ks0 : List Int} (Y : YK E yl ks0 J) (es : List (SV × SV)) (hk : es.map (·.1) = ks0.map AA) {H : Hp} {n q s : Nat} {D : Nat → Prop} (hq : H q = some (.cells [.map s])) (hs : H s = some (.map es)) (hDs : ¬ D s) (hJ : J [] D H n) :
 Ag E Tryz.prog 198 [.fn (.yield yl) [] [], .ptr q 0] H n (fun _ h' m' => ∃ ks D', ks.Perm ks0 ∧ n ≤ m' ∧ (∀ o, D' o → D o ∨ (n ≤ o ∧ o < m')) ∧ (∀ o, ¬ D o → o < n → o ≠ s → h' o = H o) ∧ J ks D' h' m') := by
 refine gq Tryz.func198 rfl fun ho => ?_
 have hqn := (ho q _ hq).1
 have hsn := (ho s _ hs).1
 have hDn := Y.lt _ _ _ _ hJ
 simp [go_sem, hq]
 refine Jz (m := s) (es := es) rfl (by simp [go_sem]) (by simp [go_sem]) hs ?_
 simp [go_sem]
 refine An 1 (α := (List Int × List Int) × (List (SV × SV) × Option (SV × SV)) × (Nat → Prop) × Hp) (fun a => [(0, .fn (.yield yl) [] []), (5, .ptr n 0)]) (fun a => a.2.2.2)
  (fun a m => n < m ∧ a.2.2.2 n = some (.iter a.2.1.1 a.2.1.2) ∧ a.2.1.1.map (·.1) = a.1.2.map AA ∧ (a.1.1 ++ a.1.2).Perm ks0 ∧ J a.1.1 a.2.2.1 a.2.2.2 m ∧ (∀ o, a.2.2.1 o → D o ∨ (n < o ∧ o < m)) ∧ (∀ o, ¬ D o → o < n → o ≠ s → a.2.2.2 o = H o)) (fun a => a.1.2.length)
  (([], ks0), (es, none), D, hset (hset H s none) n (some (.iter es none))) ?_ ?_ AB ?_
 · refine ⟨Nat.lt_succ_self n, AC _ _ _, hk, List.Perm.refl _, Y.keep _ _ _ _ _ _ hJ (Nat.le_succ n) fun o g => ?_, fun o g => .inl g, fun o g1 g2 g3 => ?_⟩
   · have := hDn o g
     show hset (hset H s none) n _ o = H o
     rw [AD _ _ (by omega), AD _ _ (by rintro rfl; exact hDs g)]
   · show hset (hset H s none) n _ o = H o
     rw [AD _ _ (by omega), AD _ _ g3]
 · simp [Ai]
 rintro ⟨⟨ks, lk⟩, ⟨left, last⟩, D2, h2⟩ m ⟨hnm, hit, hlk, hperm, hJ2, hD2, hold⟩
 dsimp only at hit hlk hperm hJ2 hD2 hold ⊢
 have hn2 : ¬ D2 n := fun g => by rcases hD2 n g with g | g; have := hDn n g; omega; omega
 have hll : left.length = lk.length := by have := congrArg List.length hlk; simpa using this
 simp [go_sem]
 refine Lg (q := n) (left := left) (last := last) rfl (by simp [go_sem]) hit (fun i hi => ?_) fun h0 => ?_
 · have hil : i < lk.length := by omega
   have hx : left[i].1 = AA lk[i] := by
    have := congrArg (fun l => l[i]?) hlk
    simpa [hi, hil] using this
   simp [go_sem]
   refine Mp (q := n) (left := left.eraseIdx i) (p := left[i]) rfl (by simp [go_sem]) (AC _ _ _) ?_
   simp [go_sem, hx]
   refine Ez.mono (Y.step ks lk[i] D2 _ _ ⟨_, LY hperm hil⟩ (Y.keep _ _ _ _ _ _ hJ2 (Nat.le_refl m) fun o g => AD _ _ (by rintro rfl; exact hn2 g))) ?_
   rintro v h3 m3 ⟨hm3, D3, hDD, hh3, ⟨rfl, hj⟩ | ⟨_, hj⟩⟩
   · simp [go_sem]
     refine ⟨ks ++ [lk[i]], lk.eraseIdx i, by rw [List.length_eraseIdx]; simp [hil]; omega, left.eraseIdx i, some left[i], D3, h3, ⟨by omega, ?_, ?_, ?_, hj, fun o g => ?_, fun o g1 g2 g3 => ?_⟩, AB⟩
     · rw [hh3 n hn2 hnm]; exact AC _ _ _
     · rw [G1, G1, hlk]
     · exact LY hperm hil
     · rcases hDD o g with g | g
       · rcases hD2 o g with g | g
         · exact .inl g
         · exact .inr (by omega)
       · exact .inr (by omega)
     · have : ¬ D2 o := fun g => by rcases hD2 o g with g | g; exact g1 g; omega
       rw [hh3 o this (by omega), AD _ _ (by omega)]; exact hold o g1 g2 g3
   · exact hj.elim
 · have hlk0 : lk = [] := List.eq_nil_of_length_eq_zero (by rw [← hll, h0]; rfl)
   subst hlk0
   simp [go_sem]
   refine .inl ⟨ks, by simpa using hperm, by omega, D2, fun o g => ?_, hold, hJ2⟩
   rcases hD2 o g with g | g
   · exact .inl g
   · exact .inr (by omega)
end
theorem d260 (es : List (SV × SV)) (ks0 : List Int) (hk : es.map (·.1) = ks0.map AA) (hlen : ks0.length ≤ 1048576) {H : Hp} {n q s : Nat} (hq : H q = some (.cells [.map s])) (hs : H s = some (.map es)) :
 BO Tryz.prog 260 [.imm 0 [] true, .fn (.func 198) [] [.ptr q 0]] H n (fun v h' n' => ∃ ks : List Int, ks.Perm ks0 ∧ Nu 1 (ks.map AA) (hset H s none) n v h' n') := by
 refine goM Tryz.func260 rfl (by kernel_rfl) (by kernel_rfl) (by simp [go_sem]) fun ho B => ?_
 have hqn := (ho q _ hq).1
 have hsn := (ho s _ hs).1
 have hqs : q ≠ s := by rintro rfl; rw [hq] at hs; cases hs
 simp [go_sem]
 refine FC rfl rfl rfl fun E1 l R hY => ?_
 let J : List Int → (Nat → Prop) → Hp → Nat → Prop := fun ks D hh m => ∃ o : Option Nat, D = (fun j => j = n ∨ j = n + 1 ∨ o = some j) ∧ n + 1 < m ∧ hh n = some (.cells [Aa 1 o (ks.map AA)]) ∧ hh (n + 1) = some (.loop (R .ready none)) ∧ BZ (n + 2) m 1 o (ks.map AA) ∧ ∀ j, o = some j → hh j = some (.cells (ks.map AA))
 have Y : YK E1 l ks0 J := by
  refine ⟨?_, ?_, ?_⟩
  · rintro ks x D hh m ⟨rest, hp⟩ ⟨o, hDe, g0, g1, g2, g3, g4⟩
    have hkl : ks.length + 1 ≤ 1048576 := by have := hp.length_eq; simp at this; omega
    refine hY _ _ _ _ g2 rfl (IF ?_)
    have e1 : n ≠ m := by omega
    have e2 : n + 1 ≠ m := by omega
    have e4 : n ≠ m + 1 := by omega
    have hon : ∀ j, o = some j → n + 2 ≤ j ∧ j < m := fun j e => g3.lt j e
    simp [go_sem, JY, AD, g1, g2]
    rw [Ki (x := x) g3 (by omega) (by simp [hset]) (by
     intro j e
     have := hon j e
     have := g4 j e
     simp only [hset]
     grind)]
    have done : ∀ (H2 : Hp) (o2 : Nat), o2 = m + 1 → (∀ j, ¬ (j = n ∨ j = n + 1 ∨ o = some j) → j < m → H2 j = hh j) → H2 n = some (.cells [.sl o2 0 1 (ks.length + 1) false]) → H2 o2 = some (.cells (ks.map AA ++ [AA x])) → H2 (n + 1) = some (.loop (R .busy none)) →
     ∀ sa, Hl (n + 1) R (HG (J (ks ++ [x])) (fun _ _ _ => False) D hh m) .normal sa H2 (m + 1 + 1) := by
     rintro H2 o2 rfl k0 k1 k2 k3 sa
     subst hDe
     refine ⟨k3, by omega, fun j => j = n ∨ j = n + 1 ∨ some (m + 1) = some j, fun j g => ?_, fun j g1 g2 => ?_, .inl ⟨rfl, some (m + 1), rfl, by omega, ?_, AC _ _ _, ?_, fun j e => ?_⟩⟩
     · rcases g with g | g | g
       · exact .inl (.inl g)
       · exact .inl (.inr (.inl g))
       · cases g; exact .inr (by omega)
     · rw [AD _ _ (fun e => g1 (.inr (.inl e)))]; exact k0 j g1 g2
     · rw [AD _ _ (by omega), k1]; simp [Aa]
     · rw [List.map_append]; exact g3.push rfl rfl (by omega) (by omega)
     · cases e; rw [AD _ _ (by omega), k2, List.map_append]; rfl
    cases o with
    | none =>
     simp [go_sem, AD, g1, e1, e4, Aa]
     refine done _ _ rfl (fun j h1 h2 => ?_) ?_ ?_ ?_ _
     · simp only [hset]; grind
     · simp only [hset]; grind
     · simp only [hset]; grind
     · simp only [hset]; grind
    | some j =>
     have hj := hon j rfl
     have e3 : n ≠ j := by omega
     simp [go_sem, AD, g1, e1, e3, e4, Aa]
     refine done _ _ rfl (fun j h1 h2 => ?_) ?_ ?_ ?_ _
     · simp only [hset]; grind
     · simp only [hset]; grind
     · simp only [hset]; grind
     · simp only [hset]; grind
  · rintro ks D hh m h' m' ⟨o, rfl, g0, g1, g2, g3, g4⟩ hm hD
    exact ⟨o, rfl, by omega, by rw [hD _ (.inl rfl)]; exact g1, by rw [hD _ (.inr (.inl rfl))]; exact g2, g3.mono hm, fun j e => by rw [hD _ (.inr (.inr e))]; exact g4 j e⟩
  · rintro ks D hh m ⟨o, rfl, g0, g1, g2, g3, g4⟩ j (rfl | rfl | e)
    · omega
    · omega
    · exact (g3.lt j e).2
 refine Ag.mono (c198 Y es hk (D := fun j => j = n ∨ j = n + 1) (s := s) ?_ ?_ ?_ ?_) ?_
 · simp [hset]; rw [if_neg (by omega), if_neg (by omega)]; exact hq
 · simp [hset]; rw [if_neg (by omega), if_neg (by omega)]; exact hs
 · omega
 · exact ⟨none, by simp, by omega, by simp [hset, Aa], by simp [hset], BZ.nil _ _ _, by simp⟩
 rintro _ h' m' ⟨ks, D', hperm, hm, hD, hold, o, rfl, g0, g1, g2, g3, g4⟩
 refine ⟨_, _, g2, by simp, ?_⟩
 simp [go_sem, AD, g1]
 refine .inl ⟨ks, hperm, by omega, fun j y e => ?_, ?_⟩
 · have hjs : j ≠ s := by rintro rfl; simp [hset] at e
   rw [AD _ _ hjs] at e
   have := (ho j y e).1
   rw [AD _ _ (by omega), hold j (by omega) (by omega) hjs, AD _ _ (by omega), AD _ _ (by omega), e]
 · cases o with
   | none =>
    have he := g3.none rfl
    exact .inl ⟨he, 0, true, rfl⟩
   | some j =>
    have := g3.lt j rfl
    exact .inr ⟨j, false, by omega, by omega, by simp [Aa], by rw [AD _ _ (by omega), Db]; exact g4 j rfl⟩
theorem d196 (es : List (SV × SV)) (ks0 : List Int) (hk : es.map (·.1) = ks0.map AA) (hlen : ks0.length ≤ 1048576) {H : Hp} {n q s : Nat} (hq : H q = some (.cells [.map s])) (hs : H s = some (.map es)) :
 BO Tryz.prog 196 [.fn (.func 198) [] [.ptr q 0]] H n (fun v h' n' => ∃ ks : List Int, ks.Perm ks0 ∧ Nu 1 (ks.map AA) (hset H s none) n v h' n') := by
 refine gq Tryz.func196 rfl fun ho => ?_
 simp [go_sem]
 refine SC.use (d260 es ks0 hk hlen hq hs) ?_
 rintro v h' n' ⟨ks, hp, hn⟩
 simp [go_sem]
 exact .inl ⟨ks, hp, hn⟩
theorem Ll {a b : List Int} (h : a.Perm b) : Cg a = Cg b := by
 have tr : ∀ x y z : Int, decide (x ≤ y) = true → decide (y ≤ z) = true → decide (x ≤ z) = true := fun x y z h1 h2 => by simp only [decide_eq_true_eq] at *; exact Int.le_trans h1 h2
 have to : ∀ x y : Int, (decide (x ≤ y) || decide (y ≤ x)) = true := fun x y => by simp only [Bool.or_eq_true, decide_eq_true_eq]; exact Int.le_total x y
 refine List.Perm.eq_of_pairwise (le := fun x y => decide (x ≤ y) = true) (fun x y _ _ h1 h2 => ?_) (List.pairwise_mergeSort tr to a) (List.pairwise_mergeSort tr to b) (((List.mergeSort_perm a _).trans h).trans (List.mergeSort_perm b _).symm)
 simp only [decide_eq_true_eq] at h1 h2
 exact Int.le_antisymm h1 h2
theorem d139 (es : List (SV × SV)) (ks0 : List Int) (hk : es.map (·.1) = ks0.map AA) (hlen : ks0.length ≤ 1048576) {H : Hp} {n q s : Nat} (hq : H q = some (.cells [.map s])) (hs : H s = some (.map es)) :
 BO Tryz.prog 139 [.fn (.func 198) [] [.ptr q 0]] H n (Nu 1 ((Cg ks0).map AA) (hset H s none) n) := by
 refine gq Tryz.func139 rfl fun ho => ?_
 simp [go_sem]
 refine SC.use (d196 es ks0 hk hlen hq hs) ?_
 rintro v h' n' ⟨ks, hp, hle, hold, hv⟩
 have hkl := hp.length_eq
 rcases hv with ⟨he, z', full, rfl⟩ | ⟨o, full, h1, h2, rfl, h3⟩
 · simp [go_sem]
   refine (TU z' full).use ?_
   simp [go_sem]
   simp only [List.map_eq_nil_iff] at he
   subst he
   have : ks0 = [] := by simpa using hp.symm
   subst this
   exact .inl ⟨hle, hold, .inl ⟨by simp [Cg], z', full, rfl⟩⟩
 · simp [go_sem]
   rw [Db] at h3
   refine SC.use (d197 ks (by omega) h3) ?_
   rintro v h4 n4 ⟨rfl, rfl, rfl⟩
   simp [go_sem]
   have hos : o ≠ s := by have := (ho s _ hs).1; omega
   refine .inl ⟨hle, fun j y e => ?_, .inr ⟨o, full, h1, h2, ?_, ?_⟩⟩
   · have hjs : j ≠ s := by rintro rfl; simp [hset] at e
     have e2 := e
     rw [AD _ _ hjs] at e2
     have := (ho j y e2).1
     rw [AD _ _ (by omega)]; exact hold j y e
   · have : (Cg ks0).length = ks.length := by rw [← Ll hp]; exact List.length_mergeSort _
     simp [this]
   · rw [AC, Ll hp, Db]
theorem d140 {H : Hp} {n s : Nat} : BO Tryz.prog 140 [.map s] H n (fun v h' n' => v = .fn (.func 198) [] [.ptr n 0] ∧ h' = hset H n (some (.cells [.map s])) ∧ n' = n + 1) := by
 refine gq Tryz.func140 rfl fun ho => ?_
 simp [go_sem]
 exact .inl ⟨rfl, rfl, rfl⟩
def GS (d : AI) : List Int := Cg ((BU [] (AE.usL d.flow ++ d.«end».all)).filter fun x => decide (x ≠ 0))
theorem Rf : ∀ {l : List Int} (x : Int), l.Nodup → ∀ (_i j : Nat), l[j]? = some x → (EI l).eraseIdx j = EI (l.filter fun y => decide (y ≠ x))
 | [], x, _, i, j, h => by simp at h
 | a :: l, x, hn, i, 0, h => by
  rw [List.nodup_cons] at hn
  simp only [List.getElem?_cons_zero, Option.some.injEq] at h
  subst h
  have : (a :: l).filter (fun y => decide (y ≠ a)) = l := by
   rw [List.filter_cons]
   simp only [ne_eq, not_true, decide_false, Bool.false_eq_true, if_false]
   exact List.filter_eq_self.2 fun y hy => by simp only [decide_eq_true_eq]; rintro rfl; exact hn.1 hy
  rw [this]; simp [EI]
 | a :: l, x, hn, i, j + 1, h => by
  rw [List.nodup_cons] at hn
  have hx : l[j]? = some x := by simpa using h
  have hax : a ≠ x := by rintro rfl; exact hn.1 (List.mem_of_getElem? hx)
  have ih := Rf x hn.2 i j hx
  rw [List.filter_cons]
  simp only [ne_eq, hax, not_false_eq_true, decide_true, if_true]
  simp only [EI, List.map_cons, List.eraseIdx_cons_succ] at ih ⊢
  rw [ih]
theorem Rg {l : List Int} {x : Int} (h : x ∉ l) : (l.filter fun y => decide (y ≠ x)) = l := List.filter_eq_self.2 fun y hy => by simp only [decide_eq_true_eq]; rintro rfl; exact h hy
theorem c74 (d : AI) (hl : d.flow.length ≤ 1048576) (hs : AE.sizedL d.flow) (he : d.«end».sized) (hu : (BU [] (AE.usL d.flow ++ d.«end».all)).length ≤ 1048576) : PC 74 [d.enc] (.imm 1 ((GS d).map AA) false) := by
 intro h n
 refine gq Tryz.func74 rfl fun ho => ?_
 have e1 : n + 1 + 1 ≠ n := by omega
 have e2 : n + 1 ≠ n := by omega
 have e3 : n + 1 + 1 ≠ n + 1 := by omega
 simp [go_sem, AI.enc, AF.flat, AM.flat, AC, AD, Nat.add_assoc]
 refine SC.use (d138 (SizeOf.sizeOf d.flow + 1) d.flow (Nat.lt_succ_self _) hl hs [] _ _ (n + 2) (n + 1) (by simp [hset]) (by simp [hset, EI])) ?_
 rintro v h' n' ⟨rfl, rfl, rfl⟩
 simp [go_sem, AC, AD]
 refine SC.use (by simpa [AF.enc, AF.flat] using Sj d.«end» he (BU [] (AE.usL d.flow)) (p := n + 2) (s := n + 1) (by simp [hset]) (by simp [hset])) ?_
 rintro v h' n' ⟨rfl, rfl, rfl⟩
 rw [← Bv]
 have hnd := IN (AE.usL d.flow ++ d.«end».all) [] List.nodup_nil
 have hU : GS d = Cg ((BU [] (AE.usL d.flow ++ d.«end».all)).filter fun x => decide (x ≠ 0)) := rfl
 generalize BU [] (AE.usL d.flow ++ d.«end».all) = out at hnd hu hU ⊢
 have fin : ∀ (H2 : Hp), H2 (n + 2) = some (.cells [.map (n + 1)]) → H2 (n + 1) = some (.map (EI (out.filter fun x => decide (x ≠ 0)))) → (∀ j, j < n → H2 j = h j) → (∀ K : SV → Hp → Nat → Prop, (∀ v h' n', CG n h' n' v (Is (.imm 1 ((GS d).map AA) false) h n) → K v h' n') →
  Ag (Bl.plain.call false 0) Tryz.prog 139 [.fn (.func 198) [] [.ptr (n + 3) 0]] (hset H2 (n + 3) (some (.cells [.map (n + 1)]))) (n + 4) K) := fun H2 a1 a2 a3 K hK => by
  have hfl : (out.filter fun x => decide (x ≠ 0)).length ≤ 1048576 := by have := List.length_filter_le (fun x => decide (x ≠ 0)) out; omega
  refine SC.use (d139 (EI (out.filter fun x => decide (x ≠ 0))) (out.filter fun x => decide (x ≠ 0)) (by simp [EI]) hfl (s := n + 1) (by simp [hset]) (by rw [AD _ _ (show n + 1 ≠ n + 3 by omega)]; exact a2)) ?_
  rintro v h' n' ⟨hle, hold, hv⟩
  rw [← hU] at hv
  have hh : ∀ j y, h j = some y → h' j = some y := fun j y e => by
   have := (ho j y e).1
   refine hold j y ?_
   rw [AD _ _ (by omega), AD _ _ (by omega), a3 j this, e]
  refine hK _ _ _ ?_
  rcases hv with ⟨h1, z', full, rfl⟩ | ⟨o, full, h1, h2, rfl, h3⟩
  · rw [h1]; exact JP ho hh (by simp) rfl
  · exact Rv LN (full := full) ho hh (show n ≤ o by omega) (by simp) h3
 by_cases hm : (0 : Int) ∈ out
 · obtain ⟨j, h1, h2⟩ := Cw 0 hm
   rw [Nat.zero_add] at h1
   have hkd := Rf 0 hnd 0 j h2
   simp [go_sem, AC, AD, h1, CD]
   refine SC.use d140 ?_
   rintro v h' n' ⟨rfl, rfl, rfl⟩
   simp [go_sem]
   refine fin _ ?_ ?_ ?_ _ ?_
   · simp [hset]
   · rw [← hkd]; simp [hset]
   · intro j hj; simp only [hset]; grind
   · intro v h' n' hr
     simp [go_sem]; exact hr
 · have h1 := Da 0 hm
   have hkd := Rg hm
   simp [go_sem, AC, AD, h1, CD]
   refine SC.use d140 ?_
   rintro v h' n' ⟨rfl, rfl, rfl⟩
   simp [go_sem]
   refine fin _ ?_ ?_ ?_ _ ?_
   · simp [hset]
   · rw [hkd]; simp [hset]
   · intro j hj; simp only [hset]; grind
   · intro v h' n' hr
     simp [go_sem]; exact hr
def Gs (z : Nat) (es : List SV) (v : SV) (o : Option Nat) (n m : Nat) : Prop :=
 (o = none ∧ es = [] ∧ ∃ z' f, v = .imm z' [] f) ∨ ∃ j f, o = some j ∧ n ≤ j ∧ j < m ∧ v = .sl j 0 z es.length f
def Dh (es : List SV) (o : Option Nat) (h : Hp) : Hp := match o with | none => h | some j => hset h j (some (.cells (es.flatMap SV.cells)))
theorem Gs.st {z : Nat} {es : List SV} {v : SV} {o : Option Nat} {n m : Nat} (H : Gs z es v o n m) : v.storable = true ∧ v.cells = [v] := by
 rcases H with ⟨_, _, z', f, rfl⟩ | ⟨j, f, _, _, _, rfl⟩ <;> exact ⟨rfl, rfl⟩
theorem Nu.own {z : Nat} {es : List SV} {h h' : Hp} {n n' : Nat} {v : SV} (H : Nu z es h n v h' n') : ∃ o, Gs z es v o n n' ∧ (∀ j y, h j = some y → h' j = some y) ∧ ∀ j, o = some j → h' j = some (.cells (es.flatMap SV.cells)) := by
 obtain ⟨h1, h2, ⟨rfl, z', f, rfl⟩ | ⟨o, f, h3, h4, rfl, h5⟩⟩ := H
 · exact ⟨none, .inl ⟨rfl, rfl, z', f, rfl⟩, h2, by simp⟩
 · exact ⟨some o, .inr ⟨o, f, rfl, h3, h4, rfl⟩, h2, by rintro j e; cases e; exact h5⟩
theorem Gs.mono {z : Nat} {es : List SV} {v : SV} {o : Option Nat} {n n' m m' : Nat} (H : Gs z es v o n m) (hn : n' ≤ n) (hm : m ≤ m') : Gs z es v o n' m' := by
 rcases H with ⟨h1, h2, z', f, h3⟩ | ⟨j, f, h1, h2, h3, h4⟩
 · exact .inl ⟨h1, h2, z', f, h3⟩
 · exact .inr ⟨j, f, h1, by omega, by omega, h4⟩
theorem Gs.lt {z : Nat} {es : List SV} {v : SV} {o : Option Nat} {n m : Nat} (H : Gs z es v o n m) : ∀ j, o = some j → n ≤ j ∧ j < m := by
 rcases H with ⟨rfl, _⟩ | ⟨j, f, rfl, h2, h3, _⟩
 · simp
 · rintro i e; cases e; exact ⟨h2, h3⟩
theorem Kl {z k i : Nat} {es : List SV} {e c : SV} (hs : ∀ e ∈ es, e.storable = true ∧ e.cells.length = z) (h : es[i]? = some e) (hk : e.cells[k]? = some c) :
 i * z + k + 1 ≤ (es.flatMap SV.cells).length ∧ ((es.flatMap SV.cells).drop (i * z + k)).take 1 = [c] := by
 obtain ⟨g1, g2⟩ := LG hs h
 have he := (hs e (List.mem_of_getElem? h)).2
 have hlt := (List.getElem?_eq_some_iff.1 hk).1
 refine ⟨by omega, ?_⟩
 have h1 : (((es.flatMap SV.cells).drop (i * z)).take z).drop k = e.cells.drop k := by rw [g2]
 rw [List.drop_take, List.drop_drop] at h1
 have h2 : (((es.flatMap SV.cells).drop (i * z + k)).take (z - k)).take 1 = (e.cells.drop k).take 1 := by rw [h1]
 rw [List.take_take, Nat.min_eq_left (by omega)] at h2
 rw [h2, List.drop_eq_getElem_cons hlt]
 simp only [List.take_succ_cons, List.take_zero]
 rw [(List.getElem?_eq_some_iff.1 hk).2]
theorem KR {cs : List SV} {off : Nat} {c : SV} (h1 : off + 1 ≤ cs.length) (h2 : (cs.drop off).take 1 = [c]) : cs.take off ++ c :: cs.drop (off + 1) = cs := by
 have : cs.drop off = c :: cs.drop (off + 1) := by
  rw [List.drop_eq_getElem_cons (by omega)] at h2 ⊢
  simp only [List.take_succ_cons, List.take_zero, List.cons.injEq, and_true] at h2; rw [h2]
 rw [← this, List.take_append_drop]
def trC : Tr := .pure 0 <| .pure 1 <| .pure 3 <| .pure 4 <| .pure 6 <| .pure 7 <| .pure 9 <| .pure 10 <|
 .two 2 13
  (.two 5 13 (.two 8 13 (.two 11 13 (.two 12 13 (.one 13 (.one 14 .nil)) (.one 12 (.one 14 .nil))) (.one 11 (.one 12 (.one 14 .nil)))) (.one 8 (.one 11 (.one 12 (.one 14 .nil))))) (.one 5 (.one 8 (.one 11 (.one 12 (.one 14 .nil))))))
  (.one 2 (.one 5 (.one 8 (.one 11 (.one 12 (.one 14 .nil))))))
set_option maxHeartbeats 2000000 in
theorem c144 (s : AM) (h1 : s.styles.length ≤ 1048576) (h2 : s.lists.length ≤ 1048576) (h3 : s.comments.length ≤ 1048576) (h4 : s.vars.length ≤ 1048576) (h5 : ∀ x ∈ s.styles, x.props.length ≤ 1048576) (h6 : ∀ x ∈ s.lists, x.levels.length ≤ 1048576) :
 PC 144 [s.enc] s.enc := by
 intro h n
 refine ED Tryz.func144 rfl fun ho => ?_
 refine Bn 2 [(1, .iptr s.flat), (2, .ptr (n + 1) 0)] (hset h (n + 1) (some (.cells [.imm 0 [] true, .imm 0 [] true, .imm 0 [] true, .imm 0 [] true]))) (fun m => m = n + 2) ?_ (fun m hm => ?_)
 · simp [go_sem, AM.enc, Nat.add_assoc, Fz.same]
   refine ⟨Ac (by rw [AD _ _ (by omega)]; exact ho.none (Nat.le_refl n)) (by simp [hset]), fun j y => ?_⟩
   have := ho j y; simp only [hset]; grind
 subst hm
 refine AX 1 (α := SV × Option Nat × SV × Option Nat × Nat) (fun a => [(2, .ptr (n + 1) 0), (3, .ptr a.2.2.2.2 0)])
  (fun a => hset (Dh (s.styles.map A6.enc) a.2.1 (Dh (s.lists.map GY.enc) a.2.2.2.1 (hset h (n + 1) (some (.cells [.imm 0 [] true, .imm 0 [] true, .imm 0 [] true, .imm 0 [] true]))))) a.2.2.2.2 (some (.cells [a.1, a.2.2.1, BQ s.comments, Ey s.vars])))
  (fun a m => Gs 6 (s.styles.map A6.enc) a.1 a.2.1 (n + 2) m ∧ Gs 2 (s.lists.map GY.enc) a.2.2.1 a.2.2.2.1 (n + 2) m ∧ n + 2 ≤ a.2.2.2.2 ∧ a.2.2.2.2 < m ∧ a.2.1 ≠ some a.2.2.2.2 ∧ a.2.2.2.1 ≠ some a.2.2.2.2 ∧ (∀ j, a.2.1 = some j → a.2.2.2.1 ≠ some j)) (CK trC rfl (by kernel_rfl) (by kernel_rfl) ?_) ?_
 · simp [go_sem, trC, AM.flat]
   iterate 14 (all_goals (try first
    | (refine LC.use (l199 _ h1) ?_; intro v1 H1 m1 W1; have lt1 := W1.1; obtain ⟨o1, a1, b1, c1⟩ := W1.own; obtain ⟨s1, t1⟩ := a1.st; simp only [SV.storable, SV.cells] at s1 t1; simp [go_sem])
    | (refine LC.use (l200 _ h2) ?_; intro v2 H2 m2 W2; have LT := W2.1; obtain ⟨o2, a2, b2, c2⟩ := W2.own; obtain ⟨s2, t2⟩ := a2.st; simp only [SV.storable, SV.cells] at s2 t2; simp [go_sem])
    | (refine (c201 _ h3).use ?_; simp [go_sem])
    | (refine (c202 _ h4).use ?_; simp [go_sem, s1, t1, s2, t2])
    | refine ⟨?_, ?_⟩))
   all_goals
    have L1 := a1.lt
    have L2 := a2.lt
    have ZZ : BV := .cells [.imm 0 [] true, .imm 0 [] true, .imm 0 [] true, .imm 0 [] true]
    first
     | (have hq := b2 (n + 2) _ (b1 (n + 2) _ (AC _ _ _)); simp [go_sem, hq])
     | (have hq := b2 m1 _ (AC _ _ _); simp [go_sem, hq])
     | simp [go_sem, AC]
    refine ⟨v1, o1, v2, o2, _, ⟨a1.mono (by omega) (by omega), a2.mono (by omega) (by omega), ?_, ?_, fun e => ?_, fun e => ?_, fun j e e' => ?_⟩, Fz.same, fun j y => ?_⟩
    · omega
    · omega
    · have := L1 _ e; omega
    · have := L2 _ e; omega
    · have := L1 _ e; have := L2 _ e'; omega
    · intro hy
      have q1 := b1 j y
      have q2 := b2 j y
      have q3 := c1 j
      have q4 := c2 j
      have r1 := L1 j
      have r2 := L2 j
      have q5 := b2 j (.cells ((s.styles.map A6.enc).flatMap SV.cells))
      have q6 := ho j y
      clear b1 b2 c1 c2 L1 L2 W1 W2 a1 a2
      simp only [hset] at *
      cases o1 <;> cases o2 <;> simp only [Dh, hset] at hy <;> grind
 rintro ⟨v1, o1, v2, o2, q⟩ m ⟨a1, a2, hq1, hq2, hn1, hn2, hn12⟩
 dsimp only at a1 a2 hq1 hq2 hn1 hn2 hn12 ⊢
 have L1 := a1.lt
 have L2 := a2.lt
 obtain ⟨s1, t1⟩ := a1.st
 obtain ⟨s2, t2⟩ := a2.st
 simp only [SV.storable, SV.cells] at s1 t1 s2 t2
 generalize hB : Dh (s.styles.map A6.enc) o1 (Dh (s.lists.map GY.enc) o2 (hset h (n + 1) (some (.cells [.imm 0 [] true, .imm 0 [] true, .imm 0 [] true, .imm 0 [] true])))) = B
 have B1 : ∀ j, o1 = some j → B j = some (.cells ((s.styles.map A6.enc).flatMap SV.cells)) := fun j e => by subst e; rw [← hB]; simp [Dh, hset]
 have B2 : ∀ j, o2 = some j → B j = some (.cells ((s.lists.map GY.enc).flatMap SV.cells)) := fun j e => by
  subst e; rw [← hB]
  cases o1 with
  | none => simp [Dh, hset]
  | some i => have := hn12 i rfl; simp only [Dh, hset]; grind
 have B3 : B (n + 1) = some (.cells [.imm 0 [] true, .imm 0 [] true, .imm 0 [] true, .imm 0 [] true]) := by
  rw [← hB]
  cases o1 <;> cases o2 <;> simp only [Dh, hset] <;> grind
 have B4 : ∀ j y, h j = some y → B j = some y := fun j y e => by
  have := ho j y e
  rw [← hB]
  cases o1 <;> cases o2 <;> simp only [Dh, hset] <;> grind
 have hqn : ∀ j, o1 = some j → j ≠ q := fun j e e' => hn1 (by rw [e, e'])
 have hqn2 : ∀ j, o2 = some j → j ≠ q := fun j e e' => hn2 (by rw [e, e'])
 clear hB
 refine Bs 1 [(2, .ptr (n + 1) 0), (3, .ptr q 0)] (hset B q (some (.cells [v1, v2, BQ s.comments, Ey s.vars]))) m (AH ?_) (fun m' hm' => ?_)
 · rcases a1 with ⟨_, he, z', f, rfl⟩ | ⟨j, f, rfl, hj1, hj2, rfl⟩
   · simp [go_sem, AC]
     refine An 1 (α := Unit) (fun _ => [(2, .ptr (n + 1) 0), (3, .ptr q 0), (21, AA 0), (22, AA 0)]) (fun _ => hset B q (some (.cells [.imm z' [] f, v2, BQ s.comments, Ey s.vars]))) (fun _ m' => m ≤ m') (fun _ => 0) () (Nat.le_refl _) (by simp [Ai]) AB ?_
     intro _ m' hm'
     simp [go_sem]
     exact hm'
   · have hjq := hqn j rfl
     have hBj := B1 j rfl
     simp [go_sem, AC]
     refine An 1 (α := Nat) (fun i => [(2, .ptr (n + 1) 0), (3, .ptr q 0), (21, AA s.styles.length), (22, AA i)]) (fun _ => hset B q (some (.cells [.sl j 0 6 s.styles.length f, v2, BQ s.comments, Ey s.vars]))) (fun i m' => i ≤ s.styles.length ∧ m ≤ m') (fun i => s.styles.length - i) 0 ?_ ?_ ?_ ?_
     · exact ⟨Nat.zero_le _, Nat.le_refl _⟩
     · simp [Ai]
     · simp
     rintro i m' ⟨hi, hm'⟩
     by_cases hlt : i < s.styles.length
     · have w1 := wS i (by omega)
       obtain ⟨x, hx⟩ : ∃ x, s.styles[i] = x := ⟨_, rfl⟩
       have hx' : (s.styles.map A6.enc)[i]? = some x.enc := by simp [hlt, hx]
       obtain ⟨g1, g2⟩ := Kl (A6.E.size s.styles) hx' (k := 5) (c := Ah x.props) rfl
       have g3 := KR g1 g2
       have hxl := h5 x (by rw [← hx]; exact List.getElem_mem hlt)
       have hjm : j < m' := by omega
       have hqm : q < m' := by omega
       have hBj' := hBj
       generalize (s.styles.map A6.enc).flatMap SV.cells = F at hBj' g1 g2 g3
       simp [go_sem, AC, AD, hjq, hBj', hlt, g1, g2, hjm, hqm]
       repeat first | refine nd (by simp [B6, Eg, Cp, Al, Region.binds] <;> omega) ?_ | refine sq ?_ | refine aq ?_
       refine Bg.pure _ _ _ _ _ _ (Ts x.props hxl) ?_
       simp [go_sem, AD, hjq, hBj', hlt, g1, g3, hjm, w1, -Int.natCast_add]
       repeat first | refine nd (by simp [B6, Eg, Cp, Al, Region.binds, hjq] <;> omega) ?_ | refine sq ?_ | refine aq ?_
       refine ⟨i + 1, by omega, ⟨by omega, hm'⟩, Fz.same, fun o y => ?_⟩
       simp only [hset]; grind
     · have : i = s.styles.length := by omega
       subst this
       simp [go_sem]
       exact hm'
 refine Bs 1 [(2, .ptr (n + 1) 0), (3, .ptr q 0)] (hset B q (some (.cells [v1, v2, BQ s.comments, Ey s.vars]))) m (AH ?_) (fun m2 hm2 => ?_)
 · rcases a2 with ⟨_, he, z', f, rfl⟩ | ⟨j, f, rfl, hj1, hj2, rfl⟩
   · simp [go_sem, AC]
     refine An 1 (α := Unit) (fun _ => [(2, .ptr (n + 1) 0), (3, .ptr q 0), (40, AA 0), (41, AA 0)]) (fun _ => hset B q (some (.cells [v1, .imm z' [] f, BQ s.comments, Ey s.vars]))) (fun _ m' => m ≤ m') (fun _ => 0) () hm' (by simp [Ai]) AB ?_
     intro _ m' hm'
     simp [go_sem]
     exact hm'
   · have hjq := hqn2 j rfl
     have hBj := B2 j rfl
     simp [go_sem, AC]
     refine An 1 (α := Nat) (fun i => [(2, .ptr (n + 1) 0), (3, .ptr q 0), (40, AA s.lists.length), (41, AA i)]) (fun _ => hset B q (some (.cells [v1, .sl j 0 2 s.lists.length f, BQ s.comments, Ey s.vars]))) (fun i m' => i ≤ s.lists.length ∧ m ≤ m') (fun i => s.lists.length - i) 0 ?_ ?_ ?_ ?_
     · exact ⟨Nat.zero_le _, hm'⟩
     · simp [Ai]
     · simp
     rintro i m' ⟨hi, hm'⟩
     by_cases hlt : i < s.lists.length
     · have w1 := wS i (by omega)
       obtain ⟨x, hx⟩ : ∃ x, s.lists[i] = x := ⟨_, rfl⟩
       have hx' : (s.lists.map GY.enc)[i]? = some x.enc := by simp [hlt, hx]
       obtain ⟨g1, g2⟩ := Kl (GY.E.size s.lists) hx' (k := 1) (c := Cr x.levels) rfl
       have g3 := KR g1 g2
       have hxl := h6 x (by rw [← hx]; exact List.getElem_mem hlt)
       have hjm : j < m' := by omega
       have hqm : q < m' := by omega
       have hBj' := hBj
       generalize (s.lists.map GY.enc).flatMap SV.cells = F at hBj' g1 g2 g3
       simp [go_sem, AC, AD, hjq, hBj', hlt, g1, g2, hjm, hqm]
       repeat first | refine nd (by simp [B6, Eg, Cp, Al, Region.binds] <;> omega) ?_ | refine sq ?_ | refine aq ?_
       refine Bg.pure _ _ _ _ _ _ (c203 x.levels hxl) ?_
       simp [go_sem, AD, hjq, hBj', hlt, g1, g3, hjm, w1, -Int.natCast_add]
       repeat first | refine nd (by simp [B6, Eg, Cp, Al, Region.binds, hjq] <;> omega) ?_ | refine sq ?_ | refine aq ?_
       refine ⟨i + 1, by omega, ⟨by omega, hm'⟩, Fz.same, fun o y => ?_⟩
       simp only [hset]; grind
     · have : i = s.lists.length := by omega
       subst this
       simp [go_sem]
       exact hm'
 have enq : n + 1 ≠ q := by omega
 have fz1 : ∀ (z : Nat) (es : List SV) (v : SV) (o : Option Nat) (H : Hp), (∀ e ∈ es, e.storable = true ∧ e.cells.length = z) → Gs z es v o (n + 2) m → (∀ j, o = some j → H j = some (.cells (es.flatMap SV.cells))) → Fz H h 1 v (.imm z es false) := fun z es v o H hsz ha hH => by
  rcases ha with ⟨_, he, z', f, rfl⟩ | ⟨j, f, rfl, hj1, hj2, rfl⟩
  · rw [he]; exact Ba (by simp)
  · exact Dq (ho.none (by omega)) (by simp) (hH j rfl) hsz
 refine AH ?_
 simp [go_sem, AC, AD, enq, B3]
 refine Dp (v := s.enc) 2 ho (fun j y e => ?_) (.inr ⟨fz1 _ _ _ _ _ (A6.E.size _) a1 fun j e => ?_, fz1 _ _ _ _ _ (GY.E.size _) a2 fun j e => ?_, Fz.same, Fz.same, trivial⟩) ?_
 · have := ho j y e; have := B4 j y e; simp only [hset]; grind
 · have := L1 j e; have := B1 j e; have := hqn j e; simp only [hset]; grind
 · have := L2 j e; have := B2 j e; have := hqn2 j e; simp only [hset]; grind
 · simp [AM.enc, AM.flat, closed, closedL, A6.E.closedL, GY.E.closedL, Aw.E.closedL, GV.E.closedL]
structure AM.sized (s : AM) : Prop where
 styles : s.styles.length ≤ 1048576
 lists : s.lists.length ≤ 1048576
 comments : s.comments.length ≤ 1048576
 vars : s.vars.length ≤ 1048576
 props : ∀ x ∈ s.styles, x.props.length ≤ 1048576
 levels : ∀ x ∈ s.lists, x.levels.length ≤ 1048576
structure AI.sized (d : AI) : Prop where
 len : d.flow.length ≤ 1048576
 flow : AE.sizedL d.flow
 «end» : d.«end».sized
 revs : d.revs.length ≤ 1048576
 set : d.settings.sized
theorem c79 (d : AI) (hd : d.sized) : PC 79 [d.enc] d.enc := by
 intro h n
 refine gq Tryz.func79 rfl fun ho => ?_
 have hs := hd.set
 simp [go_sem, AI.enc, AF.flat, AM.flat, AC, AD, Nat.add_assoc]
 repeat first | refine nd (by simp [B6, Eg, Cp, Al, Region.binds] <;> omega) ?_ | refine sq ?_ | refine aq ?_
 refine Bg.pure _ _ _ _ _ _ (c110 d.flow hd.len hd.flow) ?_
 simp [go_sem, AC, AD]
 repeat first | refine nd (by simp [B6, Eg, Cp, Al, Region.binds] <;> omega) ?_ | refine sq ?_ | refine aq ?_
 refine Bg.pure _ _ _ _ _ _ (by simpa [AF.enc, AF.flat] using N1 d.«end» hd.end) ?_
 simp [go_sem, AC, AD]
 repeat first | refine nd (by simp [B6, Eg, Cp, Al, Region.binds] <;> omega) ?_ | refine sq ?_ | refine aq ?_
 refine Bg.pure _ _ _ _ _ _ (c76 d.revs hd.revs) ?_
 simp [go_sem, AC, AD]
 repeat first | refine nd (by simp [B6, Eg, Cp, Al, Region.binds] <;> omega) ?_ | refine sq ?_ | refine aq ?_
 refine Bg.pure _ _ _ _ _ _ (by simpa [AM.enc, AM.flat] using c144 d.settings hs.styles hs.lists hs.comments hs.vars hs.props hs.levels) ?_
 simp [go_sem, AC]
 repeat first | refine nd (by simp [B6, Eg, Cp, Al, Region.binds] <;> omega) ?_ | refine sq ?_ | refine aq ?_
 exact Av ho (fun j y => by have := ho j y; simp only [hset]; grind) rfl (by simp [closed, closedL, AE.E.closedL, FH.E.closedL, CF.E.closedL, BD.E.closedL, BF.E.closedL, A6.E.closedL, GY.E.closedL, Aw.E.closedL, GV.E.closedL])
theorem c142 (a b : Int) : PC 142 [AA a, AA b] (.bool (decide (a < b))) := by
 intro h n
 refine gq Tryz.func142 rfl fun ho => ?_
 simp [go_sem]
 refine (Tp _).use ?_
 simp [go_sem]
 exact BC ho rfl rfl
theorem c143 (a : Int) : PC 143 [AA a] (.bool false) := by
 intro h n
 refine gq Tryz.func143 rfl fun ho => ?_
 simp [go_sem]
 exact BC ho rfl rfl
def KY (l : List Int) (x : Int) (i : Nat) : Int := match l[i]? with | some a => if a < x then -1 else if a = x then 0 else 1 | none => 0
theorem c78 (l : List Int) (x : Int) (hl : l.length ≤ 1048576) : PC 78 [.imm 1 (l.map AA) false, AA x] (.tup [AA (A7 (KY l x) l.length).1, .bool (A7 (KY l x) l.length).2]) := by
 intro h n
 refine gq Tryz.func78 rfl fun ho => ?_
 simp [go_sem]
 generalize hc : KY l x = c
 refine An 1 (α := Nat × Nat) (fun q => [(0, .imm 1 (l.map AA) false), (1, AA x), (6, AA l.length), (7, AA q.1), (8, AA q.2)]) (fun _ => h) (fun q m => q.1 ≤ q.2 ∧ q.2 ≤ l.length ∧ n ≤ m ∧ E6 c 0 l.length = E6 c q.1 q.2) (fun q => q.2 - q.1) (0, l.length) ?_ ?_ AB ?_
 · simp
 · simp [Ai]
 rintro ⟨i, j⟩ m ⟨hij, hj, hnm, hf⟩
 dsimp only at hij hj hf
 by_cases hlt : i < j
 · have hm : (i + j) / 2 < l.length := by omega
   have w1 : IntKind.i64.wrap ((i : Int) + j) = ((i + j : Nat) : Int) := by rw [C8] <;> omega
   have w2 : IntKind.u64.wrap ((i + j : Nat) : Int) = ((i + j : Nat) : Int) := by rw [SL] <;> omega
   have w3 : (((i + j : Nat) : Int)).fdiv 2 = (((i + j) / 2 : Nat) : Int) := by rw [Int.fdiv_eq_ediv_of_nonneg _ (by omega)]; omega
   have w4 : IntKind.i64.wrap (((i + j) / 2 : Nat) : Int) = (((i + j) / 2 : Nat) : Int) := by rw [C8] <;> omega
   have w5 : IntKind.i64.wrap ((((i + j) / 2 : Nat) : Int) + 1) = (((i + j) / 2 + 1 : Nat) : Int) := by rw [C8] <;> omega
   rw [E6.eq_def c i j] at hf
   have hcv : c ((i + j) / 2) = if l[(i + j) / 2] < x then -1 else if l[(i + j) / 2] = x then 0 else 1 := by rw [← hc]; simp [KY, hm]
   simp [go_sem, hlt, w1, w2, w3, w4, hm, -Int.natCast_add, -Int.natCast_ediv]
   refine PC.use (c142 _ _) ?_
   by_cases hb : l[(i + j) / 2] < x
   · have IB : c ((i + j) / 2) < 0 := by rw [hcv, if_pos hb]; omega
     simp [hlt, IB] at hf
     simp [go_sem, hb, w5, -Int.natCast_add, -Int.natCast_ediv]
     exact ⟨(i + j) / 2 + 1, j, by omega, ⟨by omega, hj, hnm, hf⟩, Fz.same, Fz.same⟩
   · have IB : ¬ c ((i + j) / 2) < 0 := by rw [hcv, if_neg hb]; split <;> omega
     simp [hlt, IB] at hf
     simp [go_sem, hb, -Int.natCast_add, -Int.natCast_ediv]
     exact ⟨i, (i + j) / 2, by omega, ⟨by omega, by omega, hnm, hf⟩, Fz.same, Fz.same⟩
 · have e : E6 c 0 l.length = i := by rw [hf, E6.eq_def]; simp [hlt]
   by_cases hi : i < l.length
   · have hcv : c i = if l[i] < x then -1 else if l[i] = x then 0 else 1 := by rw [← hc]; simp [KY, hi]
     by_cases he : l[i] = x
     · simp [go_sem, hlt, hi, he]
       exact BC ho rfl (by simp [A7, e, hi, hcv, he])
     · have he' : (l[i] == x) = false := by simpa using he
       simp [go_sem, hlt, hi, he']
       refine (c143 _).use ?_
       simp [go_sem]
       have hne : ¬ c i = 0 := by rw [hcv, if_neg he]; split <;> omega
       exact BC ho rfl (by simp [A7, e, hi, hne])
   · simp [go_sem, hlt, hi]
     exact BC ho rfl (by simp [A7, e, hi])
theorem c77 (l : List Int) (hl : l.length ≤ 1048576) (r : BF) : PC 77 [r.enc, .iptr [.imm 1 (l.map AA) false]] (.bool (!(A7 (KY l r.id) l.length).2)) := by
 intro h n
 refine gq Tryz.func77 rfl fun ho => ?_
 simp [go_sem, BF.enc, AC]
 refine (c78 l r.id hl).use ?_
 simp [go_sem]
 exact Av ho (AO ho (Nat.le_refl _) AB) rfl rfl
theorem c75n (z : Nat) (full : Bool) (g : FuncId) (a b : List SV) : PC 75 [.imm z [] full, .fn (.func g) a b] (.imm 3 [] false) := by
 intro h n
 refine gq Tryz.func75 rfl fun ho => ?_
 simp [go_sem]
 have hI := (c141 [] (by simp) g a b (fun _ => false) (by simp)).wk (us := [.imm z [] full, .fn (.func g) a b]) 1 ⟨Ba (by simp), Fz.same, trivial⟩
 refine PC.use hI ?_
 have e : BK (fun _ => false) 0 0 = -1 := by rw [BK]; simp
 simp [go_sem, e]
 exact JP ho AB (by simp) rfl
def AI.norm1 (d : AI) : AI := ⟨AU d.flow, d.«end», d.revs, d.settings⟩
def AI.normal (d : AI) : AI := ⟨AU d.flow, d.«end», d.revs.filter fun r => (A7 (KY (GS d.norm1) r.id) (GS d.norm1).length).2, d.settings⟩
theorem c21 (d : AI) (hd : d.sized) (hn : d.normal.sized) (hu : (BU [] (AE.usL (AU d.flow) ++ d.«end».all)).length ≤ 1048576) : PC 21 [d.enc] d.normal.enc := by
 intro h n
 refine gq Tryz.func21 rfl fun ho => ?_
 have hs := hd.set
 simp [go_sem, AI.enc, AF.flat, AM.flat, AC, AD, Nat.add_assoc]
 refine (c73 d.flow hd.len hd.flow).use ?_
 simp [go_sem, AC, AD]
 refine PC.use (by simpa [AI.enc, AI.norm1, AF.flat, AM.flat] using c74 d.norm1 hn.len hn.flow hd.end hu) ?_
 simp [go_sem, AC, AD, Aq]
 have hul : (GS d.norm1).length ≤ 1048576 := by
  have h1 : (GS d.norm1).length = ((BU [] (AE.usL d.norm1.flow ++ d.norm1.«end».all)).filter fun x => decide (x ≠ 0)).length := List.length_mergeSort _
  have h2 := List.length_filter_le (fun x => decide (x ≠ 0)) (BU [] (AE.usL d.norm1.flow ++ d.norm1.«end».all))
  have h4 : (BU [] (AE.usL d.norm1.flow ++ d.norm1.«end».all)).length ≤ 1048576 := hu
  omega
 generalize hU : GS d.norm1 = us at hul
 refine LC.use (Td _ hd.revs) ?_
 rintro v1 H1 m1 ⟨hle, hold, hv⟩
 have HA := hold n (.cells ([AG (AU d.flow)] ++ d.«end».flat ++ [A3 d.revs] ++ d.settings.flat)) (by simp [AC, AD, AF.flat, AM.flat])
 obtain ⟨cz, hcz, HC⟩ : ∃ cz : List SV, cz.length = 11 ∧ H1 (n + 1) = some (.cells cz) := ⟨_, rfl, hold (n + 1) (.cells _) (by simp [AC, AD]; rfl)⟩
 have HB := hold (n + 2) (.cells [.imm 1 (us.map AA) false]) (by simp [AC, ← hU, AI.norm1])
 have HO : ∀ j y, h j = some y → H1 j = some y := fun j y e => hold j y (by have := ho j y e; simp only [hset]; grind)
 clear hold
 have fin2 : ∀ (H2 : Hp), (∀ j, j = n ∨ j = n + 1 ∨ j < n → H2 j = H1 j) → CG n (hset (hset H2 n (some (.cells d.normal.enc.cells))) (n + 1) (some (.cells d.normal.enc.cells))) m1 d.normal.enc (Is d.normal.enc h n) := fun H2 a => by
  refine Av ho (fun j y e => ?_) rfl ?_
  · have h1 := (ho j y e).1
    have h2 := HO j y e
    rw [AD _ _ (by omega), AD _ _ (by omega), a j (by omega), h2]
  · simp [AI.enc, AF.flat, AM.flat, closed, closedL, AE.E.closedL, FH.E.closedL, CF.E.closedL, BD.E.closedL, BF.E.closedL, A6.E.closedL, GY.E.closedL, Aw.E.closedL, GV.E.closedL]
 have hrev : d.normal.revs = d.revs.filter fun r => !(!(A7 (KY us r.id) us.length).2) := by simp [AI.normal, hU]
 have rest : ∀ (K : SV → Hp → Nat → Prop), (∀ H2 : Hp, (∀ j, j = n ∨ j = n + 1 ∨ j < n → H2 j = H1 j) → K (.imm 3 (d.normal.revs.map BF.enc) false) H2 m1) → Ag (Bl.plain.call false 0) Tryz.prog 75 [v1, .fn (.func 77) [] [.ptr (n + 2) 0]] H1 m1 K := fun K hK => by
  rcases hv with ⟨he, z', full, rfl⟩ | ⟨o, full, h1, h2, rfl, h3⟩
  · have hr : d.normal.revs = [] := by rw [hrev]; simp only [List.map_eq_nil_iff] at he; rw [he]; rfl
    rw [hr] at hK
    exact (c75n z' full 77 [] [.ptr (n + 2) 0]).use (hK H1 fun _ _ => rfl)
  · rw [hrev] at hK
    simp only [List.length_map]
    refine Ag.fz (bs := [.sl o 0 3 d.revs.length full, .fn (.func 77) [] [.iptr [.imm 1 (us.map AA) false]]]) (h2 := hset H1 (n + 2) none) 2 (fun j y e => ?_) ⟨Fz.same, .inr ⟨rfl, trivial, Ac (AC _ _ _) HB, trivial⟩, trivial⟩ ?_
    · simp only [hset] at e
      split at e
      · cases e
      · exact e
    refine SC.use (d75 d.revs hd.revs 77 [] [.iptr [.imm 1 (us.map AA) false]] (fun r => !(A7 (KY us r.id) us.length).2) (fun x _ => c77 us hul x) (by rw [AD _ _ (by omega)]; exact h3)) ?_
    rintro v h' n' ⟨rfl, rfl, rfl⟩
    refine hK _ fun j hj => ?_
    rw [AD _ _ (by omega), AD _ _ (by omega)]
 simp [go_sem]
 refine rest _ fun H2 a => ?_
 have HA2 : H2 n = _ := (a n (.inl rfl)).trans HA
 have HC2 : H2 (n + 1) = _ := (a (n + 1) (.inr (.inl rfl))).trans HC
 have hn1 : n + 1 ≠ n := by omega
 simp only [AF.flat, AM.flat] at HA2
 simp [go_sem, HA2, AC]
 refine PC.use (by simpa [AI.enc, AI.normal, AF.flat, AM.flat] using c79 d.normal hn) ?_
 have hdz : cz.drop 11 = [] := List.drop_of_length_le (by omega)
 simp [go_sem, AD, HC2, hcz, AC, hdz]
 have := fin2 H2 a
 simpa [AI.enc, AI.normal, AF.flat, AM.flat, SV.cells] using this
theorem UC {h : Hp} {n : Nat} (k : Nat) (h0 : 0 < k) (h1 : k ≤ 1073741824) : AZ Tryz.prog h n .append [22, 3] [.imm 0 [] true, .int .i64 k] = some { val := .sl n 0 11 k false, new := some (.cells (List.replicate k (BN Tryz.prog 70).cells).flatten) } := by
 have e1 : BA Tryz.prog 22 = some 70 := by simp [go_sem]
 have e2 : Bb Tryz.prog 70 = 11 := by simp [go_sem]
 have e3 : (BN Tryz.prog 70).storable = true := by simp [go_sem]
 have e4 : (BN Tryz.prog 70).cells.length = 11 := by simp [go_sem]
 have e5 : Bj Tryz.prog 70 ≤ 65536 := by simp [go_sem]
 have e6 : BA Tryz.prog 3 = none := by simp [go_sem]
 have e7 : Tryz.prog.underlying 3 = some (.int .i64) := by kernel_rfl
 simp only [AZ, e6, Option.isSome_none, Bool.false_eq_true, if_false, E4, e1, e7]
 rw [if_pos ⟨⟨by omega, by omega⟩, by rw [e2]; omega, e5, e3, by rw [e4, e2]⟩, e2]
 simp
theorem d256 (k : Nat) (hk : k ≤ 1048576) {h : Hp} {n : Nat} : BO Tryz.prog 256 [.imm 0 [] true, AA k] h n (fun v h' n' => (k = 0 ∧ v = .imm 0 [] true ∧ h' = h ∧ n' = n) ∨ (0 < k ∧ ∃ cs, v = .sl n 0 11 0 false ∧ h' = hset h n (some (.cells cs)) ∧ n' = n + 1)) := by
 refine gq Tryz.func256 rfl fun ho => ?_
 have h0 : ¬ ((k : Int) < 0) := by omega
 have w0 : IntKind.i64.wrap ((k : Int)) = k := by rw [C8] <;> omega
 have w1 : IntKind.i64.wrap 0 = 0 := by decide
 by_cases hz : k = 0
 · subst hz
   simp [go_sem, w1]
   exact .inl ⟨rfl, rfl, rfl⟩
 · have hp : 0 < k := by omega
   have hb : (k : Int) ≤ 1073741824 := by omega
   have hmk := fun h n => UC (h := h) (n := n) k hp (by omega)
   simp [go_sem, h0, w0, w1, hp, hmk]
   exact .inl (.inr ⟨rfl, ⟨_, rfl⟩, rfl⟩)
theorem Pt {H : Hp} {p len m : Nat} {s x : SV} {xs ys : List SV} {upd : Option (Nat × Option BV)} (hs : (s = .imm 0 [] true ∧ xs = [] ∧ len = 0 ∧ upd = none) ∨ ∃ j cs, s = .sl j 0 11 len false ∧ H j = some (.cells cs) ∧ Bi cs 0 (len * 11) = some xs ∧ upd = some (j, none))
 (hx : J6 11 x = true) (hm : F7 x = some m) (hy : flat H x = some ys) (hm0 : m ≠ 0) (hroom : len + m ≤ 1073741824) :
 AZ Tryz.prog H p .append [22, 22] [s, x] = some { val := .sl p 0 11 (len + m) false, upd := upd, new := some (.cells (xs ++ ys)) } := by
 have e1 : BA Tryz.prog 22 = some 70 := by simp [go_sem]
 have e2 : Bb Tryz.prog 70 = 11 := by simp [go_sem]
 have e3 : (BN Tryz.prog 70).storable = true := by simp [go_sem]
 have e4 : (BN Tryz.prog 70).cells.length = 11 := by simp [go_sem]
 have e5 : Bj Tryz.prog 70 ≤ 65536 := by simp [go_sem]
 have hr : EW (len + m) (Bj Tryz.prog 70) = true := by simp only [EW, Bool.and_eq_true, decide_eq_true_eq]; exact ⟨by omega, e5⟩
 simp only [AZ, e1, Option.isSome_some, if_true, Ed, hm, hy, e2, hx, e3, e4]
 have e6 : II 70 = none := by rfl
 rcases hs with ⟨rfl, rfl, rfl, rfl⟩ | ⟨j, cs, rfl, hj, ht, rfl⟩
 · simp [J6, hm0, e6]
   simpa using hr
 · simp [J6, hm0, flat, hj, ht, hr, Io e6]
theorem RE {H : Hp} {p len : Nat} {s : SV} (hs : s = .imm 0 [] true ∨ ∃ j, s = .sl j 0 11 len false) :
 AZ Tryz.prog H p .append [22, 22] [s, AG []] = some { val := s } := by
 have e1 : BA Tryz.prog 22 = some 70 := by simp [go_sem]
 have e2 : Bb Tryz.prog 70 = 11 := by simp [go_sem]
 have e3 : (BN Tryz.prog 70).storable = true := by simp [go_sem]
 have e4 : (BN Tryz.prog 70).cells.length = 11 := by simp [go_sem]
 simp only [AZ, e1, Option.isSome_some, if_true, Ed, e2, e3, e4]
 rcases hs with rfl | ⟨j, rfl⟩ <;> simp [J6, F7, flat, EE]
def Cy (Ls : List (List AE)) (i : Nat) : List AE := (Ls.take i).flatten
theorem LF {Ls : List (List AE)} {i : Nat} {x : List AE} (h : i < Ls.length) (hx : Ls[i] = x) : Cy Ls (i + 1) = Cy Ls i ++ x := by
 unfold Cy; rw [List.take_succ_eq_append_getElem h, hx]; simp
theorem RT (Ls : List (List AE)) (i : Nat) : (Cy Ls i).length ≤ Ls.flatten.length := by
 have : Ls.flatten = (Ls.take i).flatten ++ (Ls.drop i).flatten := by rw [← List.flatten_append, List.take_append_drop]
 rw [this, Cy]; simp
theorem MW (Ls : List (List AE)) : Cy Ls Ls.length = Ls.flatten := by unfold Cy; rw [List.take_length]
theorem c189 (Ls : List (List AE)) (hL : Ls.length ≤ 1048576) (hT : Ls.flatten.length ≤ 1048576) : PC 189 [.imm 1 (Ls.map AG) false] (AG Ls.flatten) := by
 intro h n
 refine gq Tryz.func189 rfl fun ho => ?_
 simp [go_sem]
 have hle := RT Ls
 refine An 1 (α := Nat) (fun i => [(0, .imm 1 (Ls.map AG) false), (3, AA (Cy Ls i).length), (9, .imm 1 (Ls.map AG) false), (10, AA Ls.length), (11, AA i)]) (fun _ => h) (fun i m => i ≤ Ls.length ∧ n ≤ m) (fun i => Ls.length - i) 0 ?_ ?_ AB ?_
 · exact ⟨Nat.zero_le _, Nat.le_refl n⟩
 · simp [Ai, Cy]
 rintro i m ⟨hi, hnm⟩
 by_cases hlt : i < Ls.length
 · have w1 := wS i (by omega)
   obtain ⟨x, hx⟩ : ∃ x, Ls[i] = x := ⟨_, rfl⟩
   have hsn := LF hlt hx
   have h1 := hle i
   have h2 := hle (i + 1)
   have h3 : ¬ ((((Cy Ls (i + 1)).length : Nat) : Int) < 0) := by omega
   have w2 : IntKind.i64.wrap (((Cy Ls i).length : Int) + (x.length : Int)) = (((Cy Ls (i + 1)).length : Nat) : Int) := by
    have : (Cy Ls (i + 1)).length = (Cy Ls i).length + x.length := by rw [hsn, List.length_append]
    rw [C8] <;> omega
   simp [go_sem, hlt, hx, w2, h3, w1, -Int.natCast_add]
   exact ⟨i + 1, by omega, ⟨by omega, hnm⟩, Fz.same, Fz.same⟩
 · have : i = Ls.length := by omega
   subst this
   rw [MW]
   generalize hF : Ls.flatten = F at hT
   simp [go_sem]
   refine SC.use (d256 F.length hT) ?_
   intro v h' n' hv
   have hst : ∃ o : Option Nat, (∀ j, o = some j → n ≤ j ∧ j < n') ∧ n ≤ n' ∧ (∀ j y, h j = some y → h' j = some y) ∧ ((o = none ∧ v = .imm 0 [] true) ∨ ∃ j cs, o = some j ∧ v = .sl j 0 11 0 false ∧ h' j = some (.cells cs)) := by
    rcases hv with ⟨_, rfl, rfl, rfl⟩ | ⟨_, cs, rfl, rfl, rfl⟩
    · exact ⟨none, by simp, hnm, fun _ _ e => e, .inl ⟨rfl, rfl⟩⟩
    · exact ⟨some m, by rintro j e; cases e; omega, by omega, AO ho hnm AB, .inr ⟨m, cs, rfl, rfl, AC _ _ _⟩⟩
   clear hv
   obtain ⟨o0, hlt0, hnn, hh0, hv0⟩ := hst
   simp [go_sem]
   refine An 1 (α := Nat × Option Nat × SV × Hp) (fun a => [(6, a.2.2.1), (25, .imm 1 (Ls.map AG) false), (26, AA Ls.length), (27, AA a.1)]) (fun a => a.2.2.2)
    (fun a m => a.1 ≤ Ls.length ∧ n ≤ m ∧ (∀ j, a.2.1 = some j → n ≤ j ∧ j < m) ∧ (∀ j y, h j = some y → a.2.2.2 j = some y) ∧ ((a.2.1 = none ∧ a.2.2.1 = .imm 0 [] true ∧ Cy Ls a.1 = []) ∨ ∃ j cs, a.2.1 = some j ∧ a.2.2.1 = .sl j 0 11 (Cy Ls a.1).length false ∧ a.2.2.2 j = some (.cells cs) ∧ Bi cs 0 ((Cy Ls a.1).length * 11) = some (((Cy Ls a.1).map AE.enc).flatMap SV.cells)))
    (fun a => Ls.length - a.1) (0, o0, v, h') ?_ ?_ AB ?_
   · refine ⟨Nat.zero_le _, hnn, hlt0, hh0, ?_⟩
     rcases hv0 with ⟨h1, h2⟩ | ⟨j, cs, h1, h2, h3⟩
     · exact .inl ⟨h1, h2, rfl⟩
     · exact .inr ⟨j, cs, h1, h2, h3, by simp [Bi, Cy]⟩
   · simp [Ai]
   clear hv0 hh0 hlt0 hnn h' v hnm m hi hlt n' o0
   rintro ⟨i, o, v, h'⟩ m ⟨hi, hnm, hon, hold, hv⟩
   dsimp only at hi hon hold hv ⊢
   by_cases hlt : i < Ls.length
   · have w1 := wS i (by omega)
     obtain ⟨x, hx⟩ : ∃ x, Ls[i] = x := ⟨_, rfl⟩
     have hsn := LF hlt hx
     have h2 := hle (i + 1)
     rw [hF, hsn, List.length_append] at h2
     have hbt : BA Tryz.prog 22 = some 70 := by simp [go_sem]
     by_cases hx0 : x = []
     · subst hx0
       have hap := fun (H : Hp) (p : Nat) => RE (H := H) (p := p) (len := (Cy Ls i).length) (s := v) (by
        rcases hv with ⟨_, h1, _⟩ | ⟨j, cs, _, h1, _⟩
        · exact .inl h1
        · exact .inr ⟨j, h1⟩)
       simp [go_sem, hlt, hx, hap, w1, -Int.natCast_add]
       exact ⟨i + 1, by omega, o, v, h', ⟨by omega, hnm, hon, hold, by simpa [Bi, hsn] using hv⟩, ⟨Fz.same, Fz.same⟩, AB⟩
     · have hxl : x.length ≠ 0 := by cases x <;> simp at hx0 ⊢
       have hxn : ∀ z : List SV, z = x.map AE.enc → F7 (.imm 11 z false) = some x.length := by rintro z rfl; simp [F7]
       rcases hv with ⟨rfl, rfl, h0⟩ | ⟨j, cs, rfl, rfl, hj, ht⟩
       · rw [h0, List.nil_append] at hsn
         have hap := fun (p : Nat) => Pt (H := h') (p := p) (len := 0) (m := x.length) (s := .imm 0 [] true) (x := AG x) (xs := []) (ys := (x.map AE.enc).flatMap SV.cells) (upd := none) (.inl ⟨rfl, rfl, rfl, rfl⟩) (by simp [J6]) (by simp [F7]) rfl hxl (by omega)
         simp [go_sem, hlt, hx, hap, w1, -Int.natCast_add]
         refine ⟨i + 1, by omega, some m, .sl m 0 11 x.length false, hset h' m (some (.cells ((x.map AE.enc).flatMap SV.cells))), ⟨by omega, by omega, by rintro j e; cases e; omega, ?_, .inr ⟨m, rfl, by rw [hsn], _, AC _ _ _, ?_⟩⟩, ⟨Fz.same, Fz.same⟩, AB⟩
         · exact fun j y e => by rw [AD _ _ (by have := (ho j y e).1; omega)]; exact hold j y e
         · rw [hsn]
           have := BH (AE.E.size x)
           rw [List.length_map] at this
           exact ⟨by omega, by rw [← this, List.take_length]⟩
       · have hjm := hon j rfl
         have hap := fun (p : Nat) => Pt (H := h') (p := p) (len := (Cy Ls i).length) (m := x.length) (s := .sl j 0 11 (Cy Ls i).length false) (x := AG x) (ys := (x.map AE.enc).flatMap SV.cells) (upd := some (j, none)) (.inr ⟨j, cs, rfl, hj, ht, rfl⟩) (by simp [J6]) (by simp [F7]) rfl hxl (by omega)
         simp [go_sem, hlt, hx, hap, w1, -Int.natCast_add]
         refine ⟨i + 1, by omega, some m, .sl m 0 11 ((Cy Ls i).length + x.length) false, hset (hset h' j none) m (some (.cells (((Cy Ls i).map AE.enc).flatMap SV.cells ++ (x.map AE.enc).flatMap SV.cells))), ⟨by omega, by omega, by rintro j e; cases e; omega, ?_, .inr ⟨m, rfl, by rw [hsn, List.length_append], _, AC _ _ _, ?_⟩⟩, ⟨Fz.same, Fz.same⟩, AB⟩
         · exact fun q y e => by have := (ho q y e).1; rw [AD _ _ (by omega), AD _ _ (by omega)]; exact hold q y e
         · rw [hsn, List.map_append, List.flatMap_append]
           have a1 := BH (AE.E.size (Cy Ls i))
           have a2 := BH (AE.E.size x)
           rw [List.length_map] at a1 a2
           have a3 : (((Cy Ls i).map AE.enc).flatMap SV.cells ++ (x.map AE.enc).flatMap SV.cells).length = (Cy Ls i ++ x).length * 11 := by rw [List.length_append, a1, a2, List.length_append, Nat.add_mul]
           exact ⟨by omega, by rw [← a3, List.take_length]⟩
   · have : i = Ls.length := by omega
     subst this
     rw [MW, hF] at hv
     simp [go_sem]
     rcases hv with ⟨rfl, rfl, rfl⟩ | ⟨j, cs, rfl, rfl, h1, h2⟩
     · exact JP ho hold (by simp) rfl
     · have hj := hon j rfl
       have hn := ho.none hj.1
       have hE := AE.E.size F
       have hA : ∀ l : List SV, AQ (Fz h' h 0) l l := by
        intro l; induction l with
        | nil => trivial
        | cons a l ih => exact ⟨Fz.same, ih⟩
       refine Dp (v := AG F) 1 ho hold ?_ (AE.E.imm _ _ _ _)
       exact .inr ⟨hn, by simp, by simp, rfl, cs, _, h1, h2, hE, hA _⟩
def AY (l : List AE) : Nat := (l.map fun x => x.text.size).sum
def EZ (hp : AF → Prop) (K : Nat) : Nat → List AE → Prop
 | 0, _ => False
 | N + 1, l => l.length ≤ K ∧ AY l ≤ K ∧ ∀ x ∈ l, hp x.head ∧ EZ hp K N x.flow ∧ x.rows.length ≤ K ∧ ∀ r ∈ x.rows, hp r.head ∧ r.cells.length ≤ K ∧ ∀ c ∈ r.cells, hp c.head ∧ EZ hp K N c.flow
theorem EZ.mono {hp hp' : AF → Prop} (hh : ∀ x, hp x → hp' x) {K K' : Nat} (h : K ≤ K') : ∀ {N : Nat} {l : List AE}, EZ hp K N l → EZ hp' K' N l
 | N + 1, l, H => ⟨by have := H.1; omega, by have := H.2.1; omega, fun x hx => by
  obtain ⟨a, b, c, d⟩ := H.2.2 x hx
  exact ⟨hh _ a, b.mono hh h, by omega, fun r hr => ⟨hh _ (d r hr).1, by have := (d r hr).2.1; omega, fun e he => ⟨hh _ ((d r hr).2.2 e he).1, ((d r hr).2.2 e he).2.mono hh h⟩⟩⟩⟩
theorem Bc (a b : List AE) : AY (a ++ b) = AY a + AY b := by simp [AY]
theorem Lr {l : List AE} {x : AE} (h : x ∈ l) : x.text.size ≤ AY l := by
 induction l with
 | nil => cases h
 | cons a l ih =>
  have e : AY (a :: l) = a.text.size + AY l := by simp [AY]
  rcases List.mem_cons.1 h with rfl | h
  · omega
  · have := ih h; omega
theorem EZ.sized {hp : AF → Prop} (hh : ∀ x, hp x → x.sized) {K : Nat} (h : K ≤ 1048576) : ∀ {N : Nat} {l : List AE}, EZ hp K N l → l.length ≤ 1048576 ∧ AE.sizedL l
 | N + 1, l, H => ⟨by have := H.1; omega, AE.sizedL_of fun x hx => by
  obtain ⟨a, b, c, d⟩ := H.2.2 x hx
  have ht := Lr hx
  have ht2 := H.2.1
  have hf := EZ.sized hh h b
  have hr : AS.sizedL x.rows := AS.sizedL_of fun r hr => by
   obtain ⟨e, f, g⟩ := d r hr
   have hc : AK.sizedL r.cells := AK.sizedL_of fun q hq => by
    obtain ⟨u, v⟩ := g q hq
    have hv := EZ.sized hh h v
    cases q; rw [AK.sized]; exact ⟨hh _ u, hv.1, hv.2⟩
   cases r; rw [AS.sized]; exact ⟨hh _ e, by simp only [AS.cells] at f; omega, hc⟩
  cases x; rw [AE.sized]; exact ⟨by simp only [AE.text] at ht; omega, hh _ a, hf.1, by simp only [AE.rows] at c; omega, hf.2, hr⟩⟩
def NP (hp : AF → Prop) (K N : Nat) (x : AE) : Prop := hp x.head ∧ EZ hp K N x.flow ∧ x.rows.length ≤ K ∧ ∀ r ∈ x.rows, hp r.head ∧ r.cells.length ≤ K ∧ ∀ c ∈ r.cells, hp c.head ∧ EZ hp K N c.flow
theorem Dl {hp : AF → Prop} {K N : Nat} {l : List AE} : EZ hp K (N + 1) l ↔ l.length ≤ K ∧ AY l ≤ K ∧ ∀ x ∈ l, NP hp K N x := Iff.rfl
theorem Mb {hp : AF → Prop} {K N : Nat} {x : AE} (H : NP hp K N x) (t : ByteArray) : NP hp K N (.mk x.kind x.code x.id t x.head x.flow x.rows) := by cases x; exact H
theorem L7 (out : List AE) (x : AE) : AY (Ar out x) ≤ AY out + x.text.size := by
 unfold Ar
 split
 · omega
 · split
   · rename_i y hy
     obtain ⟨ys, rfl⟩ : ∃ ys, out = ys ++ [y] := by
      rcases List.eq_nil_or_concat out with rfl | ⟨ys, z, rfl⟩
      · simp at hy
      · simp only [List.concat_eq_append] at hy ⊢; rw [List.getLast?_concat] at hy; cases hy; exact ⟨ys, rfl⟩
     split
     · simp [AY, AE.addText, AE.text]; omega
     · simp [AY]; omega
   · simp [AY]
theorem NT {p : AE → Prop} (hp : ∀ x t, p x → p (.mk x.kind x.code x.id t x.head x.flow x.rows)) {out : List AE} {x : AE} (h1 : ∀ y ∈ out, p y) (h2 : p x) : ∀ y ∈ Ar out x, p y := fun y hy => by
 rcases JI hy with h | h | ⟨z, hz, h⟩
 · exact h1 y h
 · rw [h]; exact h2
 · rw [h]; exact hp z _ (h1 z hz)
theorem Ia (l : List AE) (out : List AE) : AY (l.foldl Ar out) ≤ AY out + AY l := by
 induction l generalizing out with
 | nil => simp [AY]
 | cons a l ih =>
  have h1 := ih (Ar out a)
  have h2 := L7 out a
  have e : AY (a :: l) = a.text.size + AY l := by simp [AY]
  simp only [List.foldl_cons]; omega
theorem IY (l : List AE) (out : List AE) : (l.foldl Ar out).length ≤ out.length + l.length := by
 induction l generalizing out with
 | nil => simp
 | cons a l ih =>
  have h1 := ih (Ar out a)
  have h2 := JH out a
  simp only [List.foldl_cons, List.length_cons]; omega
theorem Ft {p : AE → Prop} (hp : ∀ x t, p x → p (.mk x.kind x.code x.id t x.head x.flow x.rows)) (l : List AE) (out : List AE) (h1 : ∀ y ∈ out, p y) (h2 : ∀ y ∈ l, p y) : ∀ y ∈ l.foldl Ar out, p y := by
 induction l generalizing out with
 | nil => exact h1
 | cons a l ih => exact ih (Ar out a) (NT hp h1 (h2 a (by simp))) fun y hy => h2 y (by simp [hy])
theorem F8 {hp : AF → Prop} {K : Nat} : ∀ {N : Nat} {l : List AE}, EZ hp K N l → EZ hp K N (AU l)
 | N + 1, l, H => by
  rw [Dl] at H ⊢
  unfold AU Cz
  rw [AE.nrmL_eq]
  refine ⟨?_, ?_, ?_⟩
  · have := IY (l.map AE.nrm) []; simp at this; omega
  · have := Ia (l.map AE.nrm) []
    have e : AY (l.map AE.nrm) = AY l := by simp only [AY, List.map_map]; congr 1; exact List.map_congr_left fun x _ => by simp only [Function.comp_apply, (AE.nrm_fields x).2.2.2.1]
    have e0 : AY [] = 0 := rfl
    rw [e, e0] at this; omega
  · refine Ft (p := NP hp K N) (fun x t h => Mb h t) _ _ (fun y hy => by cases hy) fun y hy => ?_
    obtain ⟨x, hx, rfl⟩ := List.mem_map.1 hy
    obtain ⟨a, b, c, d⟩ := H.2.2 x hx
    obtain ⟨_, _, _, _, e1, e2, e3⟩ := AE.nrm_fields x
    refine ⟨by rw [e1]; exact a, by rw [e2]; exact F8 b, ?_, ?_⟩
    · rw [e3]; have := List.length_filter_le (fun r => !decide (r.cells.length = 0)) (x.rows.map AS.nrm); simp only [List.length_map] at this; omega
    · rw [e3]; intro r hr
      obtain ⟨r0, h0, rfl⟩ := List.mem_map.1 (List.mem_filter.1 hr).1
      obtain ⟨u, v, w⟩ := d r0 h0
      have er : (AS.nrm r0).head = r0.head ∧ (AS.nrm r0).cells = r0.cells.map AK.nrm := by cases r0; rw [AS.nrm, AK.nrmL_eq]; exact ⟨rfl, rfl⟩
      refine ⟨by rw [er.1]; exact u, by rw [er.2, List.length_map]; exact v, ?_⟩
      rw [er.2]; intro c hc
      obtain ⟨c0, h1, rfl⟩ := List.mem_map.1 hc
      obtain ⟨u1, u2⟩ := w c0 h1
      have ec : (AK.nrm c0).head = c0.head ∧ (AK.nrm c0).flow = AU c0.flow := by cases c0; rw [AK.nrm]; exact ⟨rfl, rfl⟩
      exact ⟨by rw [ec.1]; exact u1, by rw [ec.2]; exact F8 u2⟩
theorem Li {y : AE} {a b : Nat} : (y.setText (y.text.extract a b)).text.size ≤ y.text.size := by
 cases y; simp [AE.setText, AE.text]; omega
theorem NH (cu : Int) (s : List AE × List AE) (p : Int × AE) : AY (Bk cu s p).1 ≤ AY s.1 + p.2.text.size ∧ AY (Bk cu s p).2 ≤ AY s.2 + p.2.text.size := by
 unfold Bk
 split
 · exact ⟨by simp [Bc]; simp [AY], by simp⟩
 · split
   · exact ⟨by simp, by simp [Bc]; simp [AY]⟩
   · dsimp only
     simp only [Bc]
     constructor
     · have : ∀ x : AE, AY [x] = x.text.size := by simp [AY]
       rw [this]
       have := @Li p.2
       exact Nat.add_le_add_left (this) _
     · have : ∀ x : AE, AY [x] = x.text.size := by simp [AY]
       rw [this]
       have := @Li p.2
       exact Nat.add_le_add_left (this) _
theorem Ji (l : List AE) (cu : Int) : ∀ k, k ≤ l.length → AY (By l cu k).1 ≤ AY (l.take k) ∧ AY (By l cu k).2 ≤ AY (l.take k)
 | 0, _ => by simp [By, AY]
 | k + 1, h => by
  rw [E7 l cu k h, List.take_succ_eq_append_getElem h, Bc]
  have h1 := Ji l cu k (by omega)
  have h2 := NH cu (By l cu k) (Au (l.take k), l[k])
  have h3 : AY [l[k]] = l[k].text.size := by simp [AY]
  dsimp only at h2
  omega
theorem OA {p : AE → Prop} (hp : ∀ x t, p x → p (.mk x.kind x.code x.id t x.head x.flow x.rows)) (cu : Int) (s : List AE × List AE) (q : Int × AE) (h1 : ∀ y ∈ s.1, p y) (h2 : ∀ y ∈ s.2, p y) (h3 : p q.2) : (∀ y ∈ (Bk cu s q).1, p y) ∧ ∀ y ∈ (Bk cu s q).2, p y := by
 have ap : ∀ (a : List AE) (y : AE), (∀ z ∈ a, p z) → p y → ∀ z ∈ a ++ [y], p z := fun a y h h' z hz => by
  rcases List.mem_append.1 hz with hz | hz
  · exact h z hz
  · rw [List.mem_singleton.1 hz]; exact h'
 unfold Bk
 split
 · exact ⟨ap _ _ h1 h3, h2⟩
 · split
   · exact ⟨h1, ap _ _ h2 h3⟩
   · exact ⟨ap _ _ h1 (hp _ _ h3), ap _ _ h2 (hp _ _ h3)⟩
theorem Ga {p : AE → Prop} (hp : ∀ x t, p x → p (.mk x.kind x.code x.id t x.head x.flow x.rows)) (l : List AE) (cu : Int) (h : ∀ y ∈ l, p y) : ∀ k, k ≤ l.length → (∀ y ∈ (By l cu k).1, p y) ∧ ∀ y ∈ (By l cu k).2, p y
 | 0, _ => by simp [By]
 | k + 1, hk => by
  rw [E7 l cu k hk]
  have h1 := Ga hp l cu h k (by omega)
  exact OA hp _ _ _ h1.1 h1.2 (h _ (List.getElem_mem _))
theorem LS {hp : AF → Prop} {K N : Nat} {l : List AE} (cu : Int) (H : EZ hp K (N + 1) l) : EZ hp K (N + 1) (Am l cu).1 ∧ EZ hp K (N + 1) (Am l cu).2 := by
 rw [Dl] at H
 have h1 := DS l cu
 have h2 := Ji l cu _ (Nat.le_refl _)
 have h3 := Ga (p := NP hp K N) (fun x t h => Mb h t) l cu H.2.2 _ (Nat.le_refl _)
 rw [List.take_length] at h2
 exact ⟨⟨by omega, by have := h2.1; unfold Am; omega, h3.1⟩, ⟨by omega, by have := h2.2; unfold Am; omega, h3.2⟩⟩
theorem Dm {hp : AF → Prop} {K N : Nat} {l : List AE} (a b : Int) (H : EZ hp K (N + 1) l) : EZ hp K (N + 1) (AR l a b).1 := by
 unfold AR
 split
 · exact F8 (LS a (LS b H).1).2
 · exact ⟨by simp, by simp [AY], by simp⟩
theorem MC (l : List AE) : (AU l).length ≤ l.length := by
 have := IY (AE.nrmL l) []; rw [AE.nrmL_eq] at this; unfold AU Cz; rw [AE.nrmL_eq]; simpa using this
theorem G7 (l : List AE) (a b : Int) : (AR l a b).1.length ≤ l.length := by
 unfold AR
 split
 · have h1 := DS l b
   have h2 := DS (Am l b).1 a
   have h3 := MC (Am (Am l b).1 a).2
   dsimp only; omega
 · simp
structure Br where
 head : AF
 mid : Bool
 units : Int
def Br.enc (p : Br) : SV := .agg (p.head.flat ++ [.bool p.mid, AA p.units])
structure BG where
 id : Int
 a : Int
 b : Int
def BG.enc (s : BG) : SV := .agg [AA s.id, AA s.a, AA s.b]
def AE.put (x : AE) (h : AF) (f : List AE) (r : List AS) : AE := .mk x.kind x.code x.id x.text h f r
section
variable {σ : Type} (f : σ → Br → AF × Bool × σ) (it : Int → List AE → Bool → σ → List AE × σ) (mid : Bool)
def DX (q : List AK × σ) (c : AK) : List AK × σ :=
 if (f q.2 ⟨c.head, mid, 1⟩).2.1 then (q.1 ++ [.mk c.id (f q.2 ⟨c.head, mid, 1⟩).1 (it c.id c.flow mid (f q.2 ⟨c.head, mid, 1⟩).2.2).1], (it c.id c.flow mid (f q.2 ⟨c.head, mid, 1⟩).2.2).2)
 else (q.1, (f q.2 ⟨c.head, mid, 1⟩).2.2)
def EG (l : List AK) (s : σ) : List AK × σ := l.foldl (DX f it mid) ([], s)
def Ei (q : List AS × σ) (r : AS) : List AS × σ :=
 if (f q.2 ⟨r.head, mid, 1⟩).2.1 then (q.1 ++ [.mk (f q.2 ⟨r.head, mid, 1⟩).1 (EG f it mid r.cells (f q.2 ⟨r.head, mid, 1⟩).2.2).1], (EG f it mid r.cells (f q.2 ⟨r.head, mid, 1⟩).2.2).2)
 else (q.1, (f q.2 ⟨r.head, mid, 1⟩).2.2)
def Gk (l : List AS) (s : σ) : List AS × σ := l.foldl (Ei f it mid) ([], s)
def Ci (x : AE) (s : σ) : (List AE × List AS) × σ :=
 if x.kind = 6 then (((it x.id x.flow mid s).1, x.rows), (it x.id x.flow mid s).2)
 else if x.kind = 7 then ((x.flow, (Gk f it mid x.rows s).1), (Gk f it mid x.rows s).2)
 else ((x.flow, x.rows), s)
def CE (q : List AE × σ) (x : AE) : List AE × σ :=
 let r := f q.2 ⟨x.head, mid, (Ap [x]).1⟩
 if r.2.1 then (q.1 ++ [x.put r.1 (Ci f it mid x r.2.2).1.1 (Ci f it mid x r.2.2).1.2], (Ci f it mid x r.2.2).2)
 else (q.1, r.2.2)
def A8 (l : List AE) (s : σ) : List AE × σ := l.foldl (CE f it mid) ([], s)
end
section
variable {σ : Type} (f : σ → Br → AF × Bool × σ) (sc : BG)
def CJ (id : Int) (l : List AE) (mid : Bool) : Bool := decide (id = sc.id) && !mid && decide (0 ≤ sc.a) && decide (sc.a ≤ sc.b) && decide (sc.b ≤ (Ap l).1)
def AN : Nat → Int → List AE → Bool → σ → List AE × σ
 | 0, _, _, _, s => ([], s)
 | N + 1, id, l, mid, s =>
  if CJ sc id l mid then
   let p1 := A8 f (AN N) false (AR l 0 sc.a).1 s
   let p2 := A8 f (AN N) true (AR l sc.a sc.b).1 p1.2
   let p3 := A8 f (AN N) false (AR l sc.b (Ap l).1).1 p2.2
   (p1.1 ++ p2.1 ++ p3.1, p3.2)
  else A8 f (AN N) mid l s
end
theorem Ib {α β : Type} (g : β → α → β) (b : β) (l : List α) (i : Nat) (x : α) (h : i < l.length) (hx : l[i] = x) : (l.take (i + 1)).foldl g b = g ((l.take i).foldl g b) x := by
 rw [List.take_succ_eq_append_getElem h, List.foldl_append, hx]; rfl
section
variable {σ : Type} {f : σ → Br → AF × Bool × σ} {it : Int → List AE → Bool → σ → List AE × σ} {mid : Bool}
theorem K2 (l : List AK) (z : List AK × σ) : (l.foldl (DX f it mid) z).1.length ≤ z.1.length + l.length := by
 induction l generalizing z with
 | nil => simp
 | cons a l ih =>
  have := ih (DX f it mid z a)
  have h2 : (DX f it mid z a).1.length ≤ z.1.length + 1 := by unfold DX; split <;> simp
  simp only [List.foldl_cons, List.length_cons]; omega
theorem Mn (l : List AS) (z : List AS × σ) : (l.foldl (Ei f it mid) z).1.length ≤ z.1.length + l.length := by
 induction l generalizing z with
 | nil => simp
 | cons a l ih =>
  have := ih (Ei f it mid z a)
  have h2 : (Ei f it mid z a).1.length ≤ z.1.length + 1 := by unfold Ei; split <;> simp
  simp only [List.foldl_cons, List.length_cons]; omega
theorem F9 (l : List AE) (z : List AE × σ) : (l.foldl (CE f it mid) z).1.length ≤ z.1.length + l.length := by
 induction l generalizing z with
 | nil => simp
 | cons a l ih =>
  have := ih (CE f it mid z a)
  have h2 : (CE f it mid z a).1.length ≤ z.1.length + 1 := by unfold CE; dsimp only; split <;> simp
  simp only [List.foldl_cons, List.length_cons]; omega
end
section
variable {hp : AF → Prop} {σ : Type} {f : σ → Br → AF × Bool × σ} {it : Int → List AE → Bool → σ → List AE × σ} {mid : Bool} {K N : Nat}
theorem H9 {α β : Type} (g : β → α → β) (I : β → Prop) : ∀ (l : List α) (b : β), I b → (∀ b x, x ∈ l → I b → I (g b x)) → I (l.foldl g b)
 | [], _, h, _ => h
 | x :: l, b, h, H => H9 g I l _ (H b x (by simp) h) fun b y hy => H b y (by simp [hy])
theorem Dx {α : Type} {p : α → Prop} {l : List α} {x : α} (h : ∀ y ∈ l, p y) (hx : p x) : ∀ y ∈ l ++ [x], p y := fun y hy => by
 rcases List.mem_append.1 hy with hy | hy
 · exact h y hy
 · rw [List.mem_singleton.1 hy]; exact hx
theorem F6 {sc : BG} (hf : ∀ s p, hp p.head → hp (f s p).1) : ∀ (N : Nat) (id : Int) (l : List AE) (mid : Bool) (s : σ), EZ hp K N l → EZ hp (3 * K) N (AN f sc N id l mid s).1 ∧ (AN f sc N id l mid s).1.length ≤ 3 * K
 | 0, _, _, _, _, h => h.elim
 | N + 1, id, l, mid, s, h => by
  have parts : ∀ mid l s, EZ hp K (N + 1) l → (A8 f (AN f sc N) mid l s).1.length ≤ K ∧ AY (A8 f (AN f sc N) mid l s).1 ≤ K ∧ ∀ x ∈ (A8 f (AN f sc N) mid l s).1, NP hp (3 * K) N x := by
   clear h
   intro mid l s h
   obtain ⟨h1, h2, h3⟩ := Dl.1 h
   have cells : ∀ (cs : List AK) s, cs.length ≤ K → (∀ c ∈ cs, hp c.head ∧ EZ hp K N c.flow) → (EG f (AN f sc N) mid cs s).1.length ≤ 3 * K ∧ ∀ c ∈ (EG f (AN f sc N) mid cs s).1, hp c.head ∧ EZ hp (3 * K) N c.flow := fun cs s hl hc => by
    refine ⟨by have := K2 (f := f) (it := AN f sc N) (mid := mid) cs ([], s); simp at this; unfold EG; omega, ?_⟩
    refine H9 _ (fun q : List AK × σ => ∀ c ∈ q.1, hp c.head ∧ EZ hp (3 * K) N c.flow) cs _ (by simp) fun q c hm hq => ?_
    unfold DX
    split
    · exact Dx hq ⟨hf _ _ (hc c hm).1, (F6 hf N _ _ _ _ (hc c hm).2).1⟩
    · exact hq
   have rows : ∀ (rs : List AS) s, rs.length ≤ K → (∀ r ∈ rs, hp r.head ∧ r.cells.length ≤ K ∧ ∀ c ∈ r.cells, hp c.head ∧ EZ hp K N c.flow) → (Gk f (AN f sc N) mid rs s).1.length ≤ 3 * K ∧ ∀ r ∈ (Gk f (AN f sc N) mid rs s).1, hp r.head ∧ r.cells.length ≤ 3 * K ∧ ∀ c ∈ r.cells, hp c.head ∧ EZ hp (3 * K) N c.flow := fun rs s hl hc => by
    refine ⟨by have := Mn (f := f) (it := AN f sc N) (mid := mid) rs ([], s); simp at this; unfold Gk; omega, ?_⟩
    refine H9 _ (fun q : List AS × σ => ∀ r ∈ q.1, hp r.head ∧ r.cells.length ≤ 3 * K ∧ ∀ c ∈ r.cells, hp c.head ∧ EZ hp (3 * K) N c.flow) rs _ (by simp) fun q r hm hq => ?_
    unfold Ei
    split
    · exact Dx hq ⟨hf _ _ (hc r hm).1, cells _ _ (hc r hm).2.1 (hc r hm).2.2⟩
    · exact hq
   refine ⟨by have := F9 (f := f) (it := AN f sc N) (mid := mid) l ([], s); simp at this; unfold A8; omega, ?_, ?_⟩
   · have : ∀ (l : List AE) (q : List AE × σ), AY (l.foldl (CE f (AN f sc N) mid) q).1 ≤ AY q.1 + AY l := by
      intro l
      induction l with
      | nil => intro q; simp
      | cons a l ih =>
       intro q
       have e : AY (a :: l) = a.text.size + AY l := by simp [AY]
       have h1 := ih (CE f (AN f sc N) mid q a)
       have h2 : AY (CE f (AN f sc N) mid q a).1 ≤ AY q.1 + a.text.size := by
        unfold CE; dsimp only; split
        · rw [Bc]; simp [AY, AE.put, AE.text]
        · dsimp only; omega
       simp only [List.foldl_cons]; omega
     have := this l ([], s)
     have e0 : AY [] = 0 := rfl
     unfold A8; simp only [e0] at this; omega
   · refine H9 _ (fun q : List AE × σ => ∀ x ∈ q.1, NP hp (3 * K) N x) l _ (by simp) fun q x hm hq => ?_
     obtain ⟨a1, a2, a3, a4⟩ := h3 x hm
     unfold CE
     dsimp only
     split
     · refine Dx hq ?_
       have m3 : K ≤ 3 * K := by omega
       have up : EZ hp (3 * K) N x.flow := a2.mono (fun _ h => h) m3
       have up2 : x.rows.length ≤ 3 * K ∧ ∀ r ∈ x.rows, hp r.head ∧ r.cells.length ≤ 3 * K ∧ ∀ c ∈ r.cells, hp c.head ∧ EZ hp (3 * K) N c.flow := ⟨by omega, fun r hr => ⟨(a4 r hr).1, by have := (a4 r hr).2.1; omega, fun c hc => ⟨((a4 r hr).2.2 c hc).1, ((a4 r hr).2.2 c hc).2.mono (fun _ h => h) m3⟩⟩⟩
       unfold Ci
       split
       · exact ⟨hf _ _ a1, (F6 hf N _ _ _ _ a2).1, up2⟩
       · split
         · exact ⟨hf _ _ a1, up, rows _ _ a3 a4⟩
         · exact ⟨hf _ _ a1, up, up2⟩
     · exact hq
  rw [AN]
  split
  · have p1 := parts false _ s (Dm 0 sc.a h)
    generalize A8 f (AN f sc N) false (AR l 0 sc.a).1 s = q1 at p1 ⊢
    have p2 := parts true _ q1.2 (Dm sc.a sc.b h)
    dsimp only
    generalize A8 f (AN f sc N) true (AR l sc.a sc.b).1 q1.2 = q2 at p2 ⊢
    have p3 := parts false _ q2.2 (Dm sc.b (Ap l).1 h)
    generalize A8 f (AN f sc N) false (AR l sc.b (Ap l).1).1 q2.2 = q3 at p3 ⊢
    refine ⟨Dl.2 ⟨by simp; omega, by simp only [Bc]; omega, fun x hx => ?_⟩, by simp; omega⟩
    simp only [List.mem_append] at hx
    rcases hx with (hx | hx) | hx
    · exact p1.2.2 x hx
    · exact p2.2.2 x hx
    · exact p3.2.2 x hx
  · have p1 := parts mid _ s h
    exact ⟨Dl.2 ⟨by omega, by omega, p1.2.2⟩, by omega⟩
end
theorem PR {hp : AF → Prop} {L : List Int} (hh : ∀ h, hp h → ∀ u ∈ h.all, u ∈ L) {K : Nat} : ∀ {N : Nat} {l : List AE}, EZ hp K N l → ∀ u ∈ AE.usL l, u ∈ L
 | N + 1, l, H => by
  obtain ⟨g1, g2, h3⟩ := Dl.1 H
  clear H g1 g2
  induction l with
  | nil => simp [AE.usL]
  | cons x l ih =>
   intro u hu
   rw [AE.usL, List.mem_append] at hu
   rcases hu with hu | hu
   · obtain ⟨a1, a2, a3, a4⟩ := h3 x (by simp)
     cases x with
     | mk k c i t h f r =>
      simp only [AE.us, List.mem_append, AE.head, AE.flow, AE.rows] at *
      rcases hu with hu | hu
      · exact hh h a1 u hu
      · split at hu
        · exact PR hh a2 u hu
        · split at hu
          · clear a3 h3
            induction r with
            | nil => simp [AS.usL] at hu
            | cons r rs ihr =>
             rw [AS.usL, List.mem_append] at hu
             rcases hu with hu | hu
             · obtain ⟨b1, b2, b3⟩ := a4 r (by simp)
               cases r with
               | mk h2 cs =>
                simp only [AS.us, List.mem_append, AS.head, AS.cells] at *
                rcases hu with hu | hu
                · exact hh h2 b1 u hu
                · clear a4 ihr b2
                  induction cs with
                  | nil => simp [AK.usL] at hu
                  | cons q cs ihc =>
                   rw [AK.usL, List.mem_append] at hu
                   rcases hu with hu | hu
                   · obtain ⟨e1, e2⟩ := b3 q (by simp)
                     cases q with
                     | mk i3 h3 f3 =>
                      simp only [AK.us, List.mem_append, AK.head, AK.flow] at *
                      rcases hu with hu | hu
                      · exact hh h3 e1 u hu
                      · exact PR hh e2 u hu
                   · exact ihc (fun c hc => b3 c (by simp [hc])) hu
             · exact ihr (fun r hr => a4 r (by simp [hr])) hu
          · cases hu
   · exact ih (fun x hx => h3 x (by simp [hx])) u hu
theorem OS : ∀ {l L : List Int}, l.Nodup → (∀ u ∈ l, u ∈ L) → l.length ≤ L.length
 | [], _, _, _ => by simp
 | a :: l, L, h, H => by
  rw [List.nodup_cons] at h
  have ha := H a (by simp)
  have := OS (l := l) (L := L.erase a) h.2 fun u hu => (List.mem_erase_of_ne (by rintro rfl; exact h.1 hu)).2 (H u (by simp [hu]))
  rw [List.length_erase_of_mem ha] at this
  have hp : 0 < L.length := List.length_pos_of_mem ha
  simp only [List.length_cons]; omega
theorem SW {X L : List Int} (h : ∀ u ∈ X, u ∈ L) : (BU [] X).length ≤ L.length :=
 OS (IN X [] List.nodup_nil) fun u hu => h u (by simpa using (HS u X []).1 hu)
end Go.Proofs.YtgakninlhfkkmaaGreat.Sh
