/- A part of the proof (part 8 of 14). -/
import Derived.Test.YtgakninlhfkkmaaGreatM7
namespace Go.Proofs.YtgakninlhfkkmaaGreat.Sh
open Proofs
set_option maxRecDepth 10000
theorem AE.setText_sized {y : AE} (h : y.sized) (a b : Nat) : (y.setText (y.text.extract a b)).sized := by
 cases y with
 | mk k c i t hd f r =>
  simp only [AE.setText, AE.sized, AE.text, AE.kind, AE.code, AE.id, AE.head, AE.flow, AE.rows] at h ⊢
  refine ⟨?_, h.2⟩
  have := h.1
  simp; omega
theorem Lq (cu : Int) (s : List AE × List AE) (p : Int × AE) (hp : p.2.sized) (h1 : ∀ x ∈ s.1, x.sized) (h2 : ∀ x ∈ s.2, x.sized) : (∀ x ∈ (CC cu s p).1, x.sized) ∧ ∀ x ∈ (CC cu s p).2, x.sized := by
 unfold CC
 split
 · refine ⟨fun x hx => ?_, h2⟩
   rcases Kz.1 hx with hx | hx
   · exact h1 x hx
   · rw [Yb.1 hx]; exact hp
 · split
   · refine ⟨h1, fun x hx => ?_⟩
     rcases Kz.1 hx with hx | hx
     · exact h2 x hx
     · rw [Yb.1 hx]; exact hp
   · refine ⟨fun x hx => ?_, fun x hx => ?_⟩
     · rcases Kz.1 hx with hx | hx
       · exact h1 x hx
       · rw [Yb.1 hx]; exact AE.setText_sized hp _ _
     · rcases Kz.1 hx with hx | hx
       · exact h2 x hx
       · rw [Yb.1 hx]; exact AE.setText_sized hp _ _
theorem IW (l : List AE) (cu : Int) (hs : ∀ x ∈ l, x.sized) : ∀ k, k ≤ l.length → (∀ x ∈ (CX l cu k).1, x.sized) ∧ ∀ x ∈ (CX l cu k).2, x.sized
 | 0, _ => by simp [CX]
 | k + 1, h => by
  rw [FA l cu k h]
  have h2 := IW l cu hs k (by omega)
  exact Lq _ _ _ (hs _ (Kn _)) h2.1 h2.2
theorem HL (l : List AE) (cu : Int) (hs : AE.sizedL l) : AE.sizedL (BA l cu).1 ∧ AE.sizedL (BA l cu).2 :=
 ⟨Xx (IW l cu (Zc hs) _ (JO _)).1, Xx (IW l cu (Zc hs) _ (JO _)).2⟩
theorem DZ (l : List AE) (cu : Int) : (BA l cu).1.length ≤ l.length ∧ (BA l cu).2.length ≤ l.length := K0 l cu _ (JO _)
theorem AE.sizedL_text {l : List AE} (h : AE.sizedL l) : ∀ x ∈ l, x.text.size ≤ 1048576 := fun x hx => by
 have := Zc h x hx
 cases x; simp only [AE.sized, AE.text] at this ⊢; exact this.1
def Ab (l : List AE) (a b : Int) : List AE × Int := if ED l a b = 0 then (AP (BA (BA l b).1 a).2, 0) else ([], ED l a b)
theorem QP (l : List AE) (a b : Int) (hl : l.length ≤ 1048576) (hs : AE.sizedL l) : PC 180 [AG l, AA a, AA b] (.tup [AG (Ab l a b).1, AA (Ab l a b).2]) := by
 intro h n
 refine gq Tryz.func180 rfl fun ho => ?_
 simp [go_sem]
 refine (c250 l a b hl (AE.sizedL_text hs)).use ?_
 by_cases hc : ED l a b = 0
 · have s1 := (HL l b hs).1
   have l1 := (DZ l b).1
   have s2 := (HL _ a s1).2
   have l2 := (DZ (BA l b).1 a).2
   simp [go_sem, hc]
   refine (c251 l b hl (AE.sizedL_text hs)).use ?_
   simp [go_sem]
   refine (c251 _ a (by omega) (AE.sizedL_text s1)).use ?_
   simp [go_sem]
   refine (c73 _ (by omega) s2).use ?_
   simp [go_sem]
   refine A3 ho (by simp [closed, closedL, AE.E.closedL]) ?_
   simp [Ab, hc]
 · simp [go_sem, hc]
   have e : Ab l a b = ([], ED l a b) := by simp [Ab, hc]
   rw [e]
   exact Db 2 ho AB (.inr ⟨BR (by simp), Jo, trivial⟩) (by simp [closed, closedL])
def AF.revs (h : AF) : List Int := (if h.ins = 0 then [] else [h.ins]) ++ h.dels.map (·.rev) ++ h.layers.map (·.rev)
def AF.revsK (h : AF) (i j : Nat) : List Int := (if h.ins = 0 then [] else [h.ins]) ++ (h.dels.take i).map (·.rev) ++ (h.layers.take j).map (·.rev)
theorem AF.revsK_len (h : AF) (i j : Nat) (hi : i ≤ h.dels.length) (hj : j ≤ h.layers.length) : (h.revsK i j).length ≤ 1 + i + j := by
 unfold AF.revsK
 split <;> simp <;> omega
theorem Kf {H : Hp} {n m k p : Nat} {es : List Int} {x : Int} {o : Option Nat} (hA : BQ n m 1 o (es.map AA)) (hl : es.length ≤ 1073741823) (h1 : H k = some (.cells [AA x])) (h2 : ∀ j, o = some j → H j = some (.cells (es.map AA))) :
 AT Tryz.prog H p .append [61, 61] [AQ 1 o (es.map AA), .sl k 0 1 1 true] = some { val := .sl p 0 1 (es.length + 1) false, upd := o.map fun j => (j, none), new := some (.cells (es.map AA ++ [AA x])) } := by
 have := Fd (P := Tryz.prog) (H := H) (t := 61) (t2 := 61) (el := 3) (by simp [go_sem]) (by simp [go_sem]) (by simp [go_sem]) (by simp) (by simp [go_sem]) (by simp [go_sem]) (by simp [go_sem]) (by simp; omega) hA (e := AA x) rfl h1 (fun j e => by rw [h2 j e, Di]) p
 rw [this, Di]; simp [SV.cells]
theorem Iw (o : Option Nat) (l : List Int) (h : Hp) : AS o (l.map AA) h = match o with | none => h | some j => hset h j (some (.cells (l.map AA))) := by
 cases o <;> simp [AS, Di]
theorem c114 (hd : AF) (hs : hd.sized) (hrl : hd.revs.length ≤ 1048576) : PC 114 [hd.enc] (.imm 1 ((Co (Ca hd.revs)).map AA) false) := by
 intro h n
 refine Da Tryz.func114 rfl fun ho => ?_
 have hn0 := ho.none (JO n)
 refine Bn 2 [(1, .iptr hd.flat)] h (fun m => m = n + 1) ?_ (fun m hm => ?_)
 · simp [go_sem, AF.enc]
   exact ⟨AW hn0 (by simp [AC]), AN ho (JO _) AB⟩
 subst hm
 refine BO 1 (α := Unit) (fun _ => [(1, .iptr hd.flat), (3, AQ 1 none [])]) (fun _ => h) (fun _ m => m = n + 1) (by simp [go_sem, AQ]) (fun _ m hm => ?_)
 subst hm
 refine BO 1 (α := Option Nat) (fun o => [(1, .iptr hd.flat), (3, AQ 1 o ((hd.revsK 0 0).map AA))]) (fun o => AS o ((hd.revsK 0 0).map AA) h) (fun o m => n < m ∧ BQ (n + 1) m 1 o ((hd.revsK 0 0).map AA)) ?_ (fun o m hm => ?_)
 · by_cases e : hd.ins = 0
   · simp [go_sem, AF.flat, e, AF.revsK]
     exact ⟨none, Zp _ _ _, Jo, AB⟩
   · have hap := fun (H : Hp) (k p : Nat) (h1 : H k = some (.cells [AA hd.ins])) => Kf (H := H) (k := k) (p := p) (es := []) (x := hd.ins) (Zp 0 0 1) (by simp) h1 (by simp)
     simp only [YR, ZL, Zx, Yc] at hap
     simp [go_sem, AF.flat, e, AF.revsK]
     rw [hap _ _ _ (by simp [AC])]
     simp [go_sem]
     refine ⟨some (n + 1 + 1), ?_, ?_, ?_⟩
     · exact (Zp (n + 1) (n + 1) 1).push (e := AA hd.ins) rfl rfl (by omega) (by omega)
     · simp [AQ, Jo]
     · intro j y; have := ho j y; simp only [AS, hset, SV.cells, Yx, Xo, Zf]; grind
 obtain ⟨hnm, hA⟩ := hm
 refine AK ?_
 simp [go_sem, AF.flat]
 refine Aq 1 (α := Nat × Option Nat) (fun q => [(1, .iptr hd.flat), (3, AQ 1 q.2 ((hd.revsK q.1 0).map AA)), (20, Aa hd.dels), (21, AA hd.dels.length), (22, AA q.1)]) (fun q => AS q.2 ((hd.revsK q.1 0).map AA) h)
  (fun q m => q.1 ≤ hd.dels.length ∧ n < m ∧ BQ (n + 1) m 1 q.2 ((hd.revsK q.1 0).map AA)) (fun q => hd.dels.length - q.1) (0, o) ?_ ?_ AB ?_
 · exact ⟨K2 _, hnm, hA⟩
 · simp [Am, AF.flat]
 clear hA hnm
 rintro ⟨i, o⟩ m ⟨hi, hnm, hA⟩
 dsimp only at hi hA ⊢
 have hsd := hs.dels
 have hsl := hs.layers
 have hlen := hd.revsK_len i 0 hi (K2 _)
 have hon : ∀ j, o = some j → n < j ∧ j < m := fun j e => by have := hA.lt j e; omega
 by_cases hlt : i < hd.dels.length
 · have w1 := wS i (by omega)
   obtain ⟨x, hx⟩ : ∃ x, hd.dels[i] = x := ⟨_, rfl⟩
   have hsn : hd.revsK (i + 1) 0 = hd.revsK i 0 ++ [x.rev] := by
    unfold AF.revsK
    rw [JW hlt, hx]; simp
   simp [go_sem, hlt, hx, BS.enc, AC, Ai, AF.flat]
   rw [Kf (x := x.rev) hA (by omega) (by simp [AC]) (by
    intro j e
    have := hon j e
    subst e
    simp only [Iw, hset]
    grind)]
   simp [go_sem, w1, -Int.natCast_add]
   refine ⟨i + 1, by omega, some (m + 1 + 1), ⟨by omega, by omega, ?_⟩, ⟨?_, Jo⟩, ?_⟩
   · rw [hsn, K1]; exact hA.push rfl rfl (by omega) (by omega)
   · rw [hsn]; simp [AQ, Jo]
   · rw [hsn]; intro j y; have := ho j y; have := hon j
     simp only [Iw]; simp only [hset, K1, Y3, YR]
     cases o <;> simp only [Zx, Yw, hset] <;> grind
 · have : i = hd.dels.length := by omega
   subst this
   simp [go_sem, AF.flat]
   refine Aq 1 (α := Nat × Option Nat) (fun q => [(1, .iptr hd.flat), (3, AQ 1 q.2 ((hd.revsK hd.dels.length q.1).map AA)), (34, AO hd.layers), (35, AA hd.layers.length), (36, AA q.1)]) (fun q => AS q.2 ((hd.revsK hd.dels.length q.1).map AA) h)
    (fun q m => q.1 ≤ hd.layers.length ∧ n < m ∧ BQ (n + 1) m 1 q.2 ((hd.revsK hd.dels.length q.1).map AA)) (fun q => hd.layers.length - q.1) (0, o) ?_ ?_ AB ?_
   · exact ⟨K2 _, hnm, hA⟩
   · simp [Am, AF.flat]
   clear hA hnm hlen hon
   rintro ⟨i, o⟩ m ⟨hi, hnm, hA⟩
   dsimp only at hi hA ⊢
   have hlen := hd.revsK_len hd.dels.length i (JO _) hi
   have hon : ∀ j, o = some j → n < j ∧ j < m := fun j e => by have := hA.lt j e; omega
   by_cases hlt : i < hd.layers.length
   · have w1 := wS i (by omega)
     obtain ⟨x, hx⟩ : ∃ x, hd.layers[i] = x := ⟨_, rfl⟩
     have hsn : hd.revsK hd.dels.length (i + 1) = hd.revsK hd.dels.length i ++ [x.rev] := by
      unfold AF.revsK
      rw [JW hlt, hx]; simp
     simp [go_sem, hlt, hx, Az.enc, AC, Ai, AF.flat]
     rw [Kf (x := x.rev) hA (by omega) (by simp [AC]) (by
      intro j e
      have := hon j e
      subst e
      simp only [Iw, hset]
      grind)]
     simp [go_sem, w1, -Int.natCast_add]
     refine ⟨i + 1, by omega, some (m + 1 + 1), ⟨by omega, by omega, ?_⟩, ⟨?_, Jo⟩, ?_⟩
     · rw [hsn, K1]; exact hA.push rfl rfl (by omega) (by omega)
     · rw [hsn]; simp [AQ, Jo]
     · rw [hsn]; intro j y; have := ho j y; have := hon j
       simp only [Iw]; simp only [hset, K1, Y3, YR]
       cases o <;> simp only [Zx, Yw, hset] <;> grind
   · have : i = hd.layers.length := by omega
     subst this
     have hR : hd.revsK hd.dels.length hd.layers.length = hd.revs := by simp [AF.revsK, AF.revs]
     rw [hR] at hA hlen ⊢
     cases o with
     | none =>
      have he := hA.none rfl
      simp only [ZJ] at he
      simp [go_sem, AF.flat, AQ, AS]
      refine ZQ (bs := [.imm 1 [.imm 1 (hd.revs.map AA) false] false]) (h2 := h) 2 (AN ho (by omega) AB) ⟨?_, trivial⟩ ((c179 hd.revs hrl).use ?_)
      · rw [he]
        refine .inr ⟨ho.none (show n ≤ m by omega), by simp, rfl, rfl, [.imm 0 [] true], [.imm 0 [] true], AC _ _ _, by simp [Bm], by simp [SV.storable, SV.cells], ?_⟩
        exact ⟨BR (by simp), trivial⟩
      · simp [go_sem]
        exact A3 ho (by simp [closed, LF.closedL]) rfl
     | some q =>
      have hq := hon q rfl
      simp [go_sem, AF.flat, AQ]
      refine ZQ (bs := [.imm 1 [.imm 1 (hd.revs.map AA) false] false]) (h2 := h) 2 (by intro j y; have := ho j y; simp only [AS, hset]; grind) ⟨?_, trivial⟩ ((c179 hd.revs hrl).use ?_)
      · refine .inr ⟨ho.none (show n ≤ m by omega), by simp, rfl, rfl, _, _, AC _ _ _, by simp [Bm]; rfl, by simp [SV.storable, SV.cells], ?_⟩
        refine ⟨?_, trivial⟩
        have := DN (h' := hset (AS (some q) (hd.revs.map AA) h) m (some (.cells [.sl q 0 1 hd.revs.length false]))) (h := h) (k := 0) (z := 1) (o := q) (es := hd.revs.map AA) (full := false) (full' := false) (ho.none (by omega)) (by simp) (by rw [AD _ _ (by omega)]; simp [AS, hset]) (LF.size _)
        simpa using this
      · simp [go_sem]
        exact A3 ho (by simp [closed, LF.closedL]) rfl
theorem Qb (l : List Int) (x : Int) : x ∈ Co l ↔ x ∈ l := (List.mergeSort_perm l _).mem_iff
theorem M6 (l : List Int) : (Ca l).length ≤ l.length := by have := Hx l l.length (JO _); simpa using this
def AF.uses (h : AF) (rev : Int) : Bool := decide (rev ∈ h.revs)
theorem c38 (hd : AF) (hs : hd.sized) (hrl : hd.revs.length ≤ 1048576) (rev : Int) : PC 38 [hd.enc, AA rev] (.bool (hd.uses rev)) := by
 intro h n
 refine gq Tryz.func38 rfl fun ho => ?_
 simp [go_sem, AF.enc, AF.flat, AC]
 refine Y4 (by simpa [AF.enc, AF.flat] using c114 hd hs hrl) ?_
 simp [go_sem]
 have hl : (Co (Ca hd.revs)).length ≤ 1048576 := by
  have h1 : (Co (Ca hd.revs)).length = (Ca hd.revs).length := Zz _
  have := M6 hd.revs
  omega
 refine (UG _ rev hl).use ?_
 simp [go_sem]
 exact Ax ho (AN ho (JO _) AB) (by simp [AF.uses, Qb, QQ]) rfl
def Eh (out : List Int) (x : Int) : List Int := if x ∈ out then out else out ++ [x]
def Bb (out l : List Int) : List Int := l.foldl Eh out
theorem CB (out a b : List Int) : Bb out (a ++ b) = Bb (Bb out a) b := Zl
theorem HQ (x : Int) : ∀ (l out : List Int), x ∈ Bb out l ↔ x ∈ out ∨ x ∈ l
 | [], out => by simp [Bb]
 | a :: l, out => by
  have ih := HQ x l (Eh out a)
  have e : Bb out (a :: l) = Bb (Eh out a) l := rfl
  rw [e, ih]
  unfold Eh
  split
  · rename_i h
    constructor
    · rintro (h1 | h1)
      · exact .inl h1
      · exact .inr (List.mem_cons_of_mem _ h1)
    · rintro (h1 | h1)
      · exact .inl h1
      · rcases Y0.1 h1 with rfl | h1
        · exact .inl h
        · exact .inr h1
  · simp only [Kz, Y0, U6, or_false, or_assoc]
theorem IP : ∀ (l out : List Int), out.Nodup → (Bb out l).Nodup
 | [], _, h => h
 | a :: l, out, h => by
  have e : Bb out (a :: l) = Bb (Eh out a) l := rfl
  rw [e]
  refine IP l _ ?_
  unfold Eh
  split
  · exact h
  · rename_i hn
    rw [List.nodup_append]
    refine ⟨h, by simp, fun x hx y hy => ?_⟩
    simp at hy
    rintro rfl
    subst hy
    exact hn hx
theorem Nm : ∀ (l out : List Int), (Bb out l).length ≤ out.length + l.length
 | [], out => by simp [Bb]
 | a :: l, out => by
  have e : Bb out (a :: l) = Bb (Eh out a) l := rfl
  rw [e]
  have := Nm l (Eh out a)
  have h2 : (Eh out a).length ≤ out.length + 1 := by unfold Eh; split <;> simp
  simp; omega
theorem Pn (out : List Int) (x : Int) :
 (∃ i v, C3 (AA x) (EM out) 0 = some (some (i, v)) ∧ (EM out).modify i (fun _ => (AA x, .bool true)) = EM (Eh out x)) ∨ (C3 (AA x) (EM out) 0 = some none ∧ EM out ++ [(AA x, .bool true)] = EM (Eh out x)) := by
 by_cases hm : x ∈ out
 · obtain ⟨j, h1, h2⟩ := DA 0 hm
   refine .inl ⟨0 + j, _, h1, ?_⟩
   have := Ip h2
   rw [YV, Eh, if_pos hm]
   exact this
 · refine .inr ⟨Dh 0 hm, ?_⟩
   rw [Eh, if_neg hm]; simp [EM]
def AF.all (h : AF) : List Int := h.ins :: (h.dels.map (·.rev) ++ h.layers.map (·.rev))
theorem S9 (hd : AF) (hsz : hd.sized) (out : List Int) {H : Hp} {n p s : Nat} (hp : H p = some (.cells [.map s])) (hs : H s = some (.map (EM out))) :
 BN Tryz.prog 137 [hd.enc, .ptr p 0] H n (fun v h' n' => v = .tup [] ∧ h' = hset H s (some (.map (EM (Bb out hd.all)))) ∧ n' = n) := by
 refine Da Tryz.func137 rfl fun ho => ?_
 have hpn := (ho p _ hp).1
 have hsn := (ho s _ hs).1
 have hps : p ≠ s := by rintro rfl; rw [hp] at hs; cases hs
 have e1 : p ≠ n := by omega
 have e2 : s ≠ n := by omega
 have hsd := hsz.dels
 have hsl := hsz.layers
 have A : ∀ l : List Int, hd.all = hd.ins :: l → Bb out hd.all = Bb (Eh out hd.ins) l := fun l e => by rw [e]; rfl
 refine Bn 2 [(1, .ptr p 0), (2, .iptr hd.flat)] H (fun m => m = n + 1) ?_ (fun m hm => ?_)
 · simp [go_sem, AF.enc, Jo]
   exact ⟨AW (ho.none (JO n)) (by simp [AC]), AN ho (JO _) AB⟩
 subst hm
 refine Bn 1 [(1, .ptr p 0), (2, .iptr hd.flat)] (hset H s (some (.map (EM (Eh out hd.ins))))) (fun m => m = n + 1) ?_ (fun m hm => ?_)
 · rcases Pn out hd.ins with ⟨i, v, h1, h2⟩ | ⟨h1, h2⟩ <;> simp [go_sem, AF.flat, hp, hs, h1, h2, CM]
 subst hm
 refine AK ?_
 simp [go_sem, AF.flat]
 refine Aq 1 (α := Nat) (fun i => [(1, .ptr p 0), (2, .iptr hd.flat), (13, Aa hd.dels), (14, AA hd.dels.length), (15, AA i)]) (fun i => hset H s (some (.map (EM (Bb (Eh out hd.ins) ((hd.dels.take i).map (·.rev)))))))
  (fun i m => i ≤ hd.dels.length ∧ n < m) (fun i => hd.dels.length - i) 0 ?_ ?_ ?_ ?_
 · exact ⟨K2 _, Yk n⟩
 · simp [Am, AF.flat]
 · exact AB
 rintro i m ⟨hi, hnm⟩
 have e3 : p ≠ m := by omega
 have e4 : s ≠ m := by omega
 by_cases hlt : i < hd.dels.length
 · have w1 := wS i (by omega)
   obtain ⟨x, hx⟩ : ∃ x, hd.dels[i] = x := ⟨_, rfl⟩
   have hsn : Bb (Eh out hd.ins) ((hd.dels.take (i + 1)).map (·.rev)) = Eh (Bb (Eh out hd.ins) ((hd.dels.take i).map (·.rev))) x.rev := by
    rw [JW hlt, hx, K1, CB]; rfl
   generalize Bb (Eh out hd.ins) ((hd.dels.take i).map (·.rev)) = o2 at hsn ⊢
   rcases Pn o2 x.rev with ⟨k, v, h1, h2⟩ | ⟨h1, h2⟩ <;> simp [go_sem, AF.flat, hlt, hx, BS.enc, hp, h1, h2, CM, w1, AC, AD, e3, e4, hps, -Int.natCast_add]
   all_goals
    refine ⟨i + 1, by omega, ⟨by omega, by omega⟩, Jo, ?_⟩
    rw [← Zn, hsn]; intro j y; have := ho j y; simp only [hset]; grind
 · have : i = hd.dels.length := by omega
   subst this
   rw [KE]
   generalize hO : Bb (Eh out hd.ins) (hd.dels.map (·.rev)) = out1
   simp [go_sem, AF.flat]
   refine Aq 1 (α := Nat) (fun i => [(1, .ptr p 0), (2, .iptr hd.flat), (25, AO hd.layers), (26, AA hd.layers.length), (27, AA i)]) (fun i => hset H s (some (.map (EM (Bb out1 ((hd.layers.take i).map (·.rev)))))))
    (fun i m => i ≤ hd.layers.length ∧ n < m) (fun i => hd.layers.length - i) 0 ?_ ?_ ?_ ?_
   · exact ⟨K2 _, hnm⟩
   · simp [Am, AF.flat]
   · exact AB
   clear hi hnm e3 e4 m hlt
   rintro i m ⟨hi, hnm⟩
   have e3 : p ≠ m := by omega
   have e4 : s ≠ m := by omega
   by_cases hlt : i < hd.layers.length
   · have w1 := wS i (by omega)
     obtain ⟨x, hx⟩ : ∃ x, hd.layers[i] = x := ⟨_, rfl⟩
     have hsn : Bb out1 ((hd.layers.take (i + 1)).map (·.rev)) = Eh (Bb out1 ((hd.layers.take i).map (·.rev))) x.rev := by
      rw [JW hlt, hx, K1, CB]; rfl
     generalize Bb out1 ((hd.layers.take i).map (·.rev)) = o2 at hsn ⊢
     rcases Pn o2 x.rev with ⟨k, v, h1, h2⟩ | ⟨h1, h2⟩ <;> simp [go_sem, AF.flat, hlt, hx, Az.enc, hp, h1, h2, CM, w1, AC, AD, e3, e4, hps, -Int.natCast_add]
     all_goals
      refine ⟨i + 1, by omega, ⟨by omega, by omega⟩, Jo, ?_⟩
      rw [← Zn, hsn]; intro j y; have := ho j y; simp only [hset]; grind
   · have : i = hd.layers.length := by omega
     subst this
     rw [KE]
     simp [go_sem, AF.flat]
     have hfin : Bb out1 (hd.layers.map (·.rev)) = Bb out hd.all := by
      rw [← hO, ← CB]; exact (A _ rfl).symm
     rw [hfin]
     refine .inr ⟨0, .tup [], _, Jo, by simp [closed, closedL], fun o x e => ⟨e, ?_⟩, rfl, rfl, rfl⟩
     have := ho o x
     simp only [hset] at e
     split at e
     · subst_vars
       cases e
       refine ⟨hsn, ?_⟩
       simp [BW, EM, closed]
     · exact this e
mutual
def AE.us : AE → List Int
 | .mk k _ _ _ h f r => h.all ++ (if k = 6 then AE.usL f else if k = 7 then AR.usL r else [])
def AE.usL : List AE → List Int
 | [] => []
 | x :: l => x.us ++ AE.usL l
def AR.us : AR → List Int
 | .mk h c => h.all ++ AL.usL c
def AR.usL : List AR → List Int
 | [] => []
 | x :: l => x.us ++ AR.usL l
def AL.us : AL → List Int
 | .mk _ h f => h.all ++ AE.usL f
def AL.usL : List AL → List Int
 | [] => []
 | x :: l => x.us ++ AL.usL l
end
theorem AE.usL_append : ∀ a b : List AE, AE.usL (a ++ b) = AE.usL a ++ AE.usL b
 | [], b => by simp [AE.usL]
 | x :: a, b => by rw [Y7, AE.usL, AE.usL_append a b, AE.usL, KF]
theorem AR.usL_append : ∀ a b : List AR, AR.usL (a ++ b) = AR.usL a ++ AR.usL b
 | [], b => by simp [AR.usL]
 | x :: a, b => by rw [Y7, AR.usL, AR.usL_append a b, AR.usL, KF]
theorem AL.usL_append : ∀ a b : List AL, AL.usL (a ++ b) = AL.usL a ++ AL.usL b
 | [], b => by simp [AL.usL]
 | x :: a, b => by rw [Y7, AL.usL, AL.usL_append a b, AL.usL, KF]
theorem TZ {H h' : Hp} {n n' s : Nat} {y : BY} (ho : FM H n) (hsn : s < n) (hc : BW n y = true) (hh : ∀ j z, hset H s (some y) j = some z → h' j = some z) :
 CE n h' n' (.tup []) (fun v h2 n2 => v = .tup [] ∧ h2 = hset H s (some y) ∧ n2 = n) := by
 refine .inr ⟨0, .tup [], _, Jo, by simp [closed, closedL], fun o x e => ⟨hh o x e, ?_⟩, rfl, rfl, rfl⟩
 simp only [hset] at e
 split at e
 · subst_vars; cases e; exact ⟨hsn, hc⟩
 · exact ho o x e
theorem G4 (n : Nat) (out : List Int) : BW n (.map (EM out)) = true := by simp [BW, EM, closed]
theorem d138 : ∀ (N : Nat) (l : List AE), SizeOf.sizeOf l < N → l.length ≤ 1048576 → AE.sizedL l → ∀ (out : List Int) (H : Hp) (n p s : Nat), H p = some (.cells [.map s]) → H s = some (.map (EM out)) →
 BN Tryz.prog 138 [AG l, .fn (.func 137) [] [.ptr p 0]] H n (fun v h' n' => v = .tup [] ∧ h' = hset H s (some (.map (EM (Bb out (AE.usL l))))) ∧ n' = n) := by
 intro N
 induction N with
 | zero => intro l h; omega
 | succ N ih =>
 intro l hN hl hs out H n p s hp hsm
 refine gq Tryz.func138 rfl fun ho => ?_
 have hpn := (ho p _ hp).1
 have hsn := (ho s _ hsm).1
 have hps : p ≠ s := by rintro rfl; rw [hp] at hsm; cases hsm
 simp [go_sem]
 refine Aq 1 (α := Nat) (fun i => [(1, .fn (.func 137) [] [.ptr p 0]), (10, AG l), (11, AA l.length), (12, AA i)]) (fun i => hset H s (some (.map (EM (Bb out (AE.usL (l.take i)))))))
  (fun i m => i ≤ l.length ∧ n ≤ m) (fun i => l.length - i) 0 ?_ ?_ ?_ ?_
 · exact ⟨K2 _, JO n⟩
 · simp [Am]
 · intro j y; simp only [hset, Zr, AE.usL, Bb, List.foldl_nil]; grind
 rintro i m ⟨hi, hnm⟩
 have e3 : p ≠ m := by omega
 have e4 : s ≠ m := by omega
 by_cases hlt : i < l.length
 · have w1 := wS i (by omega)
   obtain ⟨x, hx⟩ : ∃ x, l[i] = x := ⟨_, rfl⟩
   have hxm : x ∈ l := by rw [← hx]; exact Kn hlt
   have hxs := Zc hs x hxm
   have hxp := Dn hxs
   have htk : AE.usL (l.take (i + 1)) = AE.usL (l.take i) ++ x.us := by
    rw [JW hlt, hx, AE.usL_append]; simp [AE.usL]
   have hA : Bb out (AE.usL (l.take (i + 1))) = Bb (Bb out (AE.usL (l.take i))) x.us := by rw [htk, CB]
   generalize Bb out (AE.usL (l.take i)) = o2 at hA ⊢
   simp [go_sem, hlt, hx, KW, AC]
   refine Y9 (by simpa [AF.enc, AF.flat] using S9 x.head hxp.1 o2 (p := p) (s := s) (by simp [hset, e3, hps, hp]) (by simp [hset, e4])) ?_
   rintro v h' n' ⟨rfl, rfl, rfl⟩
   have hxu : x.us = x.head.all ++ (if x.kind = 6 then AE.usL x.flow else if x.kind = 7 then AR.usL x.rows else []) := by cases x; rfl
   by_cases k6 : x.kind = 6
   · have hxf : x.flow.length ≤ 1048576 ∧ AE.sizedL x.flow := by cases x; rw [AE.sized] at hxs; exact ⟨hxs.2.2.1, hxs.2.2.2.2.1⟩
     simp [go_sem, AC, AD, e4.symm, k6]
     refine Y9 (ih x.flow (by have := MK hxm; omega) hxf.1 hxf.2 (Bb o2 x.head.all) _ _ p s (by simp [hset, e3, hps, hp]) (by simp [hset])) ?_
     rintro v h' n' ⟨rfl, rfl, rfl⟩
     simp [go_sem, w1, -Int.natCast_add]
     refine ⟨i + 1, by omega, ⟨by omega, by omega⟩, Jo, ?_⟩
     rw [hA, hxu, if_pos k6, CB]
     intro j y; have := ho j y; simp only [hset]; grind
   · by_cases k7 : x.kind = 7
     · have hxr : x.rows.length ≤ 1048576 ∧ AR.sizedL x.rows := by cases x; rw [AE.sized] at hxs; exact ⟨hxs.2.2.2.1, hxs.2.2.2.2.2⟩
       rw [if_neg k6, if_pos k7] at hxu
       simp [go_sem, AC, AD, e4.symm, k7]
       generalize hO3 : Bb o2 x.head.all = o3
       refine Aq 1 (α := Nat) (fun q => [(1, .fn (.func 137) [] [.ptr p 0]), (10, AG l), (11, AA l.length), (12, AA i), (31, Ay x.rows), (32, AA x.rows.length), (33, AA q)]) (fun q => hset H s (some (.map (EM (Bb o3 (AR.usL (x.rows.take q)))))))
        (fun q m => q ≤ x.rows.length ∧ n ≤ m) (fun q => x.rows.length - q) 0 ?_ ?_ ?_ ?_
       · exact ⟨K2 _, by omega⟩
       · simp [Am]
       · intro j y; have := ho j y; simp only [hset, Zr, AR.usL, Bb, List.foldl_nil]; grind
       clear e3 e4 hnm m
       rintro q m ⟨hq, hnm⟩
       have e3 : p ≠ m := by omega
       have e4 : s ≠ m := by omega
       by_cases hqt : q < x.rows.length
       · have w2 := wS q (by omega)
         obtain ⟨r, hr⟩ : ∃ r, x.rows[q] = r := ⟨_, rfl⟩
         have hrm : r ∈ x.rows := by rw [← hr]; exact Kn hqt
         have hrs := AR.sizedL_mem hxr.2 r hrm
         have hrk : AR.usL (x.rows.take (q + 1)) = AR.usL (x.rows.take q) ++ r.us := by
          rw [JW hqt, hr, AR.usL_append]; simp [AR.usL]
         have hB : Bb o3 (AR.usL (x.rows.take (q + 1))) = Bb (Bb o3 (AR.usL (x.rows.take q))) r.us := by rw [hrk, CB]
         have hru : r.us = r.head.all ++ AL.usL r.cells := by cases r; rfl
         have hrc : r.head.sized ∧ r.cells.length ≤ 1048576 ∧ AL.sizedL r.cells := by cases r; rw [AR.sized] at hrs; exact hrs
         generalize Bb o3 (AR.usL (x.rows.take q)) = o4 at hB ⊢
         simp [go_sem, hqt, hr, Yj, AC]
         refine Y9 (by simpa [AF.enc, AF.flat] using S9 r.head hrc.1 o4 (p := p) (s := s) (by simp [hset, e3, hps, hp]) (by simp [hset, e4])) ?_
         rintro v h' n' ⟨rfl, rfl, rfl⟩
         simp [go_sem, AC, AD, e4.symm]
         generalize hO5 : Bb o4 r.head.all = o5
         refine Aq 1 (α := Nat) (fun w => [(1, .fn (.func 137) [] [.ptr p 0]), (10, AG l), (11, AA l.length), (12, AA i), (31, Ay x.rows), (32, AA x.rows.length), (33, AA q), (42, BT r.cells), (43, AA r.cells.length), (44, AA w)]) (fun w => hset H s (some (.map (EM (Bb o5 (AL.usL (r.cells.take w)))))))
          (fun w m => w ≤ r.cells.length ∧ n ≤ m) (fun w => r.cells.length - w) 0 ?_ ?_ ?_ ?_
         · exact ⟨K2 _, by omega⟩
         · simp [Am]
         · intro j y; have := ho j y; simp only [hset, Zr, AL.usL, Bb, List.foldl_nil]; grind
         clear e3 e4 hnm m
         rintro w m ⟨hw, hnm⟩
         have e3 : p ≠ m := by omega
         have e4 : s ≠ m := by omega
         by_cases hwt : w < r.cells.length
         · have w3 := wS w (by omega)
           obtain ⟨c, hc⟩ : ∃ c, r.cells[w] = c := ⟨_, rfl⟩
           have hcm : c ∈ r.cells := by rw [← hc]; exact Kn hwt
           have hcs := AL.sizedL_mem hrc.2.2 c hcm
           have hck : AL.usL (r.cells.take (w + 1)) = AL.usL (r.cells.take w) ++ c.us := by
            rw [JW hwt, hc, AL.usL_append]; simp [AL.usL]
           have hC : Bb o5 (AL.usL (r.cells.take (w + 1))) = Bb (Bb o5 (AL.usL (r.cells.take w))) c.us := by rw [hck, CB]
           have hcu : c.us = c.head.all ++ AE.usL c.flow := by cases c; rfl
           have hcc : c.head.sized ∧ c.flow.length ≤ 1048576 ∧ AE.sizedL c.flow := by cases c; rw [AL.sized] at hcs; exact hcs
           generalize Bb o5 (AL.usL (r.cells.take w)) = o6 at hC ⊢
           simp [go_sem, hwt, hc, YP, AC]
           refine Y9 (by simpa [AF.enc, AF.flat] using S9 c.head hcc.1 o6 (p := p) (s := s) (by simp [hset, e3, hps, hp]) (by simp [hset, e4])) ?_
           rintro v h' n' ⟨rfl, rfl, rfl⟩
           simp [go_sem, AC, AD, e4.symm]
           refine Y9 (ih c.flow (by have := MD hxm hrm hcm; omega) hcc.2.1 hcc.2.2 (Bb o6 c.head.all) _ _ p s (by simp [hset, e3, hps, hp]) (by simp [hset])) ?_
           rintro v h' n' ⟨rfl, rfl, rfl⟩
           simp [go_sem, w3, -Int.natCast_add]
           refine ⟨w + 1, by omega, ⟨by omega, by omega⟩, Jo, ?_⟩
           rw [hC, hcu, CB]
           intro j y; have := ho j y; simp only [hset]; grind
         · have : w = r.cells.length := by omega
           subst this
           rw [KE]
           simp [go_sem, w2, -Int.natCast_add]
           refine ⟨q + 1, by omega, ⟨by omega, by omega⟩, Jo, ?_⟩
           rw [hB, hru, CB, hO5]
           exact AB
       · have : q = x.rows.length := by omega
         subst this
         rw [KE]
         simp [go_sem, w1, -Int.natCast_add]
         refine ⟨i + 1, by omega, ⟨by omega, by omega⟩, Jo, ?_⟩
         rw [hA, hxu, CB, hO3]
         exact AB
     · simp [go_sem, AC, AD, e4.symm, k6, k7, w1, -Int.natCast_add]
       refine ⟨i + 1, by omega, ⟨by omega, by omega⟩, Jo, ?_⟩
       rw [hA, hxu, if_neg k6, if_neg k7, Zf]
       intro j y; have := ho j y; simp only [hset]; grind
 · have : i = l.length := by omega
   subst this
   rw [KE]
   simp [go_sem]
   exact TZ ho hsn (G4 _ _) fun _ _ e => e
section
variable {P : Program} {E : By} {evs : Operand → SV} {o : Oper} {h : Hp} {n : Nat} {K : SV → Hp → Nat → Prop}
theorem JA {α : Type} (f : α → Nat) : ∀ (L : List α), (L.map f).Nodup → ∀ (i : Nat) (hi : i < L.length), L.filter (fun x => f x != f L[i]) = L.eraseIdx i
 | a :: L, hn, 0, hi => by
  rw [Y3, Z5] at hn
  rw [Xp]
  simp only [ZW, bne_self_eq_false, KC, if_false, List.eraseIdx_cons_zero]
  exact YU.2 fun x hx => by
   simp only [bne_iff_ne, ne_eq]
   intro e
   exact hn.1 (e ▸ Y5.2 ⟨x, hx, rfl⟩)
 | a :: L, hn, i + 1, hi => by
  rw [Y3, Z5] at hn
  rw [Xp]
  simp only [YT, Xs]
  have ha : (f a != f (L[i]'(by simpa using hi))) = true := by
   simp only [bne_iff_ne, ne_eq]
   intro e
   exact hn.1 (e ▸ Y5.2 ⟨_, Kn _, rfl⟩)
  rw [if_pos ha, JA f L hn.2 i (by simpa using hi)]
theorem Mh {t : TypeId} {x : Operand} {m : Nat} {es : List (SV × SV)} (ho : o.op = .range t x) (ht : (KZ P t).isSome = true) (hx : evs x = .map m) (hm : h m = some (.map es))
 (hk : K (.ptr n 0) (hset (hset h m none) n (some (.iter es none))) (n + 1)) : EQ E P evs o h n K := by
 refine ⟨by rw [ho]; simp, fun c ev _ _ R F hv => ?_⟩
 have hvx := hv x
 rw [hx, V] at hvx
 obtain ⟨bm, hρ, hev⟩ := hvx
 obtain ⟨b', ents, clock, g1, g2, g3, g4⟩ := R.obj _ _ hm
 rw [hρ] at g1; cases g1
 obtain ⟨⟨kt, e⟩, ht⟩ := YF.1 ht
 have hu := Dw ht
 have hgo : (getObj bm).run P c.w = .ok (.map ents clock) c.w := by simp [getObj, Sem.run, g2]
 have hrun : (execOp ev o).run P c.w = .ok (.value (.pointer (some ⟨c.w.heap.size, 0, none⟩))) (c.w.alloc (.mapIter (some bm) clock #[] clock)) := by
  simp [execOp, ho, Instr.range, AM hu, hev, hgo]
 have R1 := R.kill m hm
 have hn1 : (c.kill m).ρ n = none := F n (JO _)
 have X1 := c.kill_ext m
 have hlt : bm < c.w.heap.size := (KA.1 g2).1
 have X2 := (c.kill m).alloc_ext n (.mapIter (some bm) clock #[] clock) hn1
 have R2 := R1.alloc hn1 (x := .iter es none) (b := .mapIter (some bm) clock #[] clock) ⟨c.w.heap.size, bm, ents, clock, #[], by simp [Cx.alloc, Cx.kill], by simp [Cx.alloc, Cx.kill, Bh],
  by simp [Cx.alloc, Cx.kill, Bh, YN, Zj hlt, g2], by
   simp only [Cx.alloc, Cx.kill]
   rintro (h1 | h1)
   · exact h1.2 0 hρ
   · omega, g4, by
   have : (ents.toList.filter fun e => !(#[] : Array Nat).contains e.born) = ents.toList := YU.2 fun _ _ => by simp
   rw [this]
   exact Xt (fun _ _ g => ⟨ZH (X1.trans X2) g.1, ZH (X1.trans X2) g.2⟩) g3, by simp⟩
 refine ⟨_, .ptr n 0, _, n + 1, (c.kill m).alloc n (.mapIter (some bm) clock #[] clock), by rw [hrun]; rfl, ?_, R2, fun j hj => ?_, ⟨X1.trans X2, YA n, fun j hj => ?_⟩, hk⟩
 · rw [V]; exact ⟨c.w.heap.size, 0, by simp [Cx.alloc, Cx.kill], rfl⟩
 · simp only [Cx.alloc, Cx.kill]
   rw [if_neg (by omega)]; exact F j (by omega)
 · simp only [Cx.alloc, Cx.kill]
   rw [if_neg (by omega)]
theorem Qq {x : Operand} {q : Nat} {left : List (SV × SV)} {p : SV × SV} (ho : o.op = .entry x) (hx : evs x = .ptr q 0) (hq : h q = some (.iter left (some p)))
 (hk : K (.tup [p.1, p.2]) h n) : EQ E P evs o h n K := by
 refine ⟨by rw [ho]; simp, fun c ev _ _ R F hv => ?_⟩
 have hvx := hv x
 rw [hx, V] at hvx
 obtain ⟨b, st, hρ, hev⟩ := hvx
 obtain ⟨b', bm, ents, clock, seen, g1, g2, g3, g4, g5, g6, g7⟩ := R.obj _ _ hq
 rw [hρ] at g1; cases g1
 obtain ⟨e, k1, k2, k3, k4⟩ := g7 p rfl
 have hgo : (getObj b).run P c.w = .ok (.mapIter (some bm) clock seen clock) c.w := by simp [getObj, Sem.run, g2]
 have hgm : (getObj bm).run P c.w = .ok (.map ents clock) c.w := by simp [getObj, Sem.run, g3]
 have hfind : ents.find? (fun y => y.born == e.born) = some e := by
  rw [← Array.find?_toList]
  have : ∀ l : List MapEntry, (l.map (·.born)).Nodup → e ∈ l → l.find? (fun y => y.born == e.born) = some e := by
   intro l
   induction l with
   | nil => intro _ h; cases h
   | cons a l ih =>
    intro hn he
    rw [Y3, Z5] at hn
    rw [List.find?_cons]
    rcases Y0.1 he with rfl | he
    · simp
    · have : (a.born == e.born) = false := by
       simp only [beq_eq_false_iff_ne, ne_eq]
       intro h2
       exact hn.1 (h2 ▸ Y5.2 ⟨e, he, rfl⟩)
      rw [this]; exact ih hn.2 he
  exact this _ g5.2 k1
 refine ⟨.tuple #[e.key, e.val], .tup [p.1, p.2], h, n, c, ?_, by simp only [V, VL]; exact ⟨_, rfl, _, _, rfl, k3, _, _, rfl, k4, rfl⟩, R, F, Zi n c, hk⟩
 simp [execOp, ho, Instr.entry, hev, hgo, k2, hgm, hfind]
theorem Og {x : Operand} {q : Nat} {left : List (SV × SV)} {last : Option (SV × SV)} (ho : o.op = .next x false) (hx : evs x = .ptr q 0) (hq : h q = some (.iter left last))
 (hk : ∀ (i : Nat) (hi : i < left.length), K (.tup [.bool true, left[i].1, left[i].2]) (hset h q (some (.iter (left.eraseIdx i) (some left[i])))) n) (h0 : left = [] → K (.tup [.bool false]) h n) : EQ E P evs o h n K := by
 refine ⟨by rw [ho]; simp, fun c ev _ _ R F hv => ?_⟩
 have hvx := hv x
 rw [hx, V] at hvx
 obtain ⟨b, st, hρ, hev⟩ := hvx
 obtain ⟨b', bm, ents, clock, seen, g1, g2, g3, g4, g5, g6, g7⟩ := R.obj _ _ hq
 rw [hρ] at g1; cases g1
 have hgo : (getObj b).run P c.w = .ok (.mapIter (some bm) clock seen clock) c.w := by simp [getObj, Sem.run, g2]
 have hgm : (getObj bm).run P c.w = .ok (.map ents clock) c.w := by simp [getObj, Sem.run, g3]
 have hgone : (!seen.isEmpty && !ents.isEmpty && ents.all fun y => decide (y.born ≥ clock)) = false := by
  cases he : ents.isEmpty with
  | true => simp
  | false =>
   have hne : 0 < ents.size := by rcases Nat.eq_zero_or_pos ents.size with h | h; simp [Array.isEmpty, h] at he; exact h
   have : (ents.all fun y => decide (y.born ≥ clock)) = false := by
    rw [Array.all_eq_false]
    refine ⟨0, hne, ?_⟩
    have := g5.1 ents[0] (by simp)
    simp; exact this
   simp [this]
 generalize hL : ents.filter (fun y => !seen.contains y.born) = L
 have hLl : L.toList = ents.toList.filter fun e => !seen.contains e.born := by rw [← hL]; simp
 have BV : L.filter (fun y => decide (y.born < clock)) = L := by
  apply Xd
  rw [Array.toList_filter]
  exact YU.2 fun y hy => by
   rw [hLl] at hy
   simpa using g5.1 y (Z0.1 hy).1
 have hnew : L.filter (fun y => decide (y.born ≥ clock)) = #[] := by
  apply Xd
  rw [Array.toList_filter]
  exact List.filter_eq_nil_iff.2 fun y hy => by
   rw [hLl] at hy
   simpa using g5.1 y (Z0.1 hy).1
 rw [← hLl] at g6
 have hlen : left.length = L.size := by have := g6.length; simpa using this
 by_cases hz : L.size = 0
 · have hl0 : left = [] := X8 (by omega)
   have hL0 : L = #[] := Array.eq_empty_of_size_eq_zero hz
   refine ⟨.tuple #[.bool false], .tup [.bool false], h, n, c, ?_, by simp [V, VL], R, F, Zi n c, h0 hl0⟩
   subst hL0
   simp only [execOp, ho, Instr.next, hev, Z7, Sem.run_bind, Sem.run_pure, hgo, Result.andThen_ok, hgm, hgone, KC, if_false, hL, BV, hnew]
   simp [Question.forced]
 · have hch : ∃ i w1, (choose (.mapNext L.size)).run P c.w = .ok i w1 ∧ i < L.size ∧ (w1 = c.w ∨ w1 = c.w.drew) := by
    rw [run_choose_drew]
    by_cases hf : (Question.mapNext L.size).forced = true
    · rw [if_pos hf]; exact ⟨0, _, rfl, by omega, .inl rfl⟩
    · rw [if_neg hf]; exact ⟨_, _, rfl, Nat.mod_lt _ (by omega), .inr rfl⟩
   obtain ⟨i, w1, hch, hi, hw1⟩ := hch
   obtain ⟨c1, hc1, X1, R1, F1, hρ1⟩ : ∃ c1 : Cx, c1.w = w1 ∧ Dc c c1 ∧ B5 h c1 ∧ Fr n c1 ∧ c1.ρ = c.ρ := by
    rcases hw1 with rfl | rfl
    · exact ⟨c, rfl, Xh c, R, F, rfl⟩
    · exact ⟨c.drew, rfl, c.drew_ext, R.drew, fun j hj => F j hj, rfl⟩
   subst hc1
   have hh1 : c1.w.heap = c.w.heap := by rcases hw1 with e | e <;> rw [e] <;> rfl
   have hil : i < left.length := by omega
   obtain ⟨e, he, hr1, hr2⟩ := g6.get (i := i) (a := left[i]) (by simp [hil])
   have heL : L[i]? = some e := by simpa using he
   have hemem : e ∈ ents.toList := by
    have := YD he
    rw [hLl] at this; exact (Z0.1 this).1
   have hisE : L.isEmpty = false := by cases hb : L.isEmpty with | false => rfl | true => (simp at hb; subst hb; simp at hz)
   have hblt : b < c.w.heap.size := (KA.1 g2).1
   have hset' : ∀ ob : Obj, (setObj b ob).run P c1.w = .ok () { c1.w with heap := c1.w.heap.setIfInBounds b ob } := fun ob => by simp [setObj, Sem.run, hh1, g2]
   have hrun : (execOp ev o).run P c.w = .ok (.value (.tuple #[.bool true, e.key, e.val])) { c1.w with heap := c1.w.heap.setIfInBounds b (.mapIter (some bm) clock (seen.push e.born) clock) } := by
    have hcand : ((if L.isEmpty then #[none] else #[]) ++ (L ++ #[]).map some : Array (Option MapEntry)) = L.map some := by simp [hisE]
    simp only [execOp, ho, Instr.next, hev, Z7, Sem.run_bind, Sem.run_pure, hgo, Result.andThen_ok, hgm, hgone, KC, if_false, hL, BV, hnew, hcand, Array.size_map, hch]
    simp [heL, hset']
   have hbm : bm ≠ b := by rintro rfl; rw [g2] at g3; cases g3
   obtain ⟨R2, X2⟩ := R1.write (w' := { c1.w with heap := c1.w.heap.setIfInBounds b (.mapIter (some bm) clock (seen.push e.born) clock) }) (y := .iter (left.eraseIdx i) (some left[i])) hq (by rw [hρ1]; exact hρ) (by simp)
    (fun b' hb' => by simp [YX (Ne.symm hb')]) (by simp [rm, hh1, g2]) rfl rfl (fun X => by
      have XX := X1.trans X
      refine ⟨b, bm, ents, clock, seen.push e.born, by show c1.ρ q = _; rw [hρ1]; exact hρ, by simp [hh1, hblt], ?_, ?_, g5, ?_, ?_⟩
      · show (c1.w.heap.setIfInBounds b _)[bm]? = _
        rw [YX hbm.symm, hh1]; exact g3
      · exact fun hb => (XX.keep bm (KA.1 g3).1 g4).1 hb
      · have hnd : (L.toList.map (·.born)).Nodup := by rw [hLl]; exact g5.2.sublist (List.filter_sublist.map _)
        have hee : L.toList[i]'(by simpa using hi) = e := by
         have := (Ky.1 he).2; exact this
        have h1 := JA (fun x : MapEntry => x.born) L.toList hnd i (by simpa using hi)
        rw [hee] at h1
        have h2 : (ents.toList.filter fun x => !(seen.push e.born).contains x.born) = L.toList.filter fun x => x.born != e.born := by
         rw [hLl, List.filter_filter]
         congr 1; funext x
         by_cases hx : x.born = e.born <;> simp [hx]
        rw [h2, h1]
        exact Xt (fun _ _ g => ⟨ZH XX g.1, ZH XX g.2⟩) (AY.eraseIdx i g6)
      · intro p hp
        cases hp
        exact ⟨e, hemem, by simp, ZH XX hr1, ZH XX hr2⟩)
   exact ⟨_, .tup [.bool true, left[i].1, left[i].2], _, n, _, hrun, by
    have XX := X1.trans X2
    simp only [V, VL]
    exact ⟨_, rfl, _, _, rfl, rfl, _, _, rfl, ZH XX hr1, _, _, rfl, ZH XX hr2, rfl⟩, R2, fun j hj => F1 j hj, ⟨X1.trans X2, JO _, fun j _ => by show c1.ρ j = _; rw [hρ1]⟩, hk i hil⟩
end
structure YK (E : By) (l : Nat) (ks0 : List Int) (J : List Int → (Nat → Prop) → Hp → Nat → Prop) : Prop where
 step : ∀ ks x D h m, (∃ rest, (ks ++ [x] ++ rest).Perm ks0) → J ks D h m → Ez E Tryz.prog l [AA x] h m (HH (J (ks ++ [x])) (fun _ _ _ => False) D h m)
 keep : ∀ ks D h m h' m', J ks D h m → m ≤ m' → (∀ o, D o → h' o = h o) → J ks D h' m'
 lt : ∀ ks D h m, J ks D h m → ∀ o, D o → o < m
theorem G1 {α β : Type} (f : α → β) : ∀ (l : List α) (i : Nat), (l.eraseIdx i).map f = (l.map f).eraseIdx i
 | [], _ => by simp
 | a :: l, 0 => by simp
 | a :: l, i + 1 => by simp [G1 f l i]
theorem KL {α : Type} : ∀ (l : List α) (i : Nat) (hi : i < l.length), (l[i] :: l.eraseIdx i).Perm l
 | a :: l, 0, _ => by simp
 | a :: l, i + 1, hi => by
  have ih := KL l i (by simpa using hi)
  simp only [YT, Xs]
  exact (List.Perm.swap _ _ _).trans (ih.cons a)
theorem LQ {ks lk ks0 : List Int} (h : (ks ++ lk).Perm ks0) {i : Nat} (hi : i < lk.length) : (ks ++ [lk[i]] ++ lk.eraseIdx i).Perm ks0 := by
 refine List.Perm.trans ?_ h
 rw [KF]
 refine List.Perm.append_left ks ?_
 exact KL lk i hi
section
variable {E : By} {yl : Nat} {J : List Int → (Nat → Prop) → Hp → Nat → Prop}
theorem c198 {ks0 : List Int} (Y : YK E yl ks0 J) (es : List (SV × SV)) (hk : es.map (·.1) = ks0.map AA) {H : Hp} {n q s : Nat} {D : Nat → Prop} (hq : H q = some (.cells [.map s])) (hs : H s = some (.map es)) (hDs : ¬ D s) (hJ : J [] D H n) :
 Ak E Tryz.prog 198 [.fn (.yield yl) [] [], .ptr q 0] H n (fun _ h' m' => ∃ ks D', ks.Perm ks0 ∧ n ≤ m' ∧ (∀ o, D' o → D o ∨ (n ≤ o ∧ o < m')) ∧ (∀ o, ¬ D o → o < n → o ≠ s → h' o = H o) ∧ J ks D' h' m') := by
 refine gq Tryz.func198 rfl fun ho => ?_
 have hqn := (ho q _ hq).1
 have hsn := (ho s _ hs).1
 have hDn := Y.lt _ _ _ _ hJ
 simp [go_sem, hq]
 refine Mh (m := s) (es := es) rfl (by simp [go_sem]) (by simp [go_sem]) hs ?_
 simp [go_sem]
 refine Aq 1 (α := (List Int × List Int) × (List (SV × SV) × Option (SV × SV)) × (Nat → Prop) × Hp) (fun a => [(0, .fn (.yield yl) [] []), (5, .ptr n 0)]) (fun a => a.2.2.2)
  (fun a m => n < m ∧ a.2.2.2 n = some (.iter a.2.1.1 a.2.1.2) ∧ a.2.1.1.map (·.1) = a.1.2.map AA ∧ (a.1.1 ++ a.1.2).Perm ks0 ∧ J a.1.1 a.2.2.1 a.2.2.2 m ∧ (∀ o, a.2.2.1 o → D o ∨ (n < o ∧ o < m)) ∧ (∀ o, ¬ D o → o < n → o ≠ s → a.2.2.2 o = H o)) (fun a => a.1.2.length)
  (([], ks0), (es, none), D, hset (hset H s none) n (some (.iter es none))) ?_ ?_ AB ?_
 · refine ⟨Yk n, AC _ _ _, hk, List.Perm.refl _, Y.keep _ _ _ _ _ _ hJ (YA n) fun o g => ?_, fun o g => .inl g, fun o g1 g2 g3 => ?_⟩
   · have := hDn o g
     show hset (hset H s none) n _ o = H o
     rw [AD _ _ (by omega), AD _ _ (by rintro rfl; exact hDs g)]
   · show hset (hset H s none) n _ o = H o
     rw [AD _ _ (by omega), AD _ _ g3]
 · simp [Am]
 rintro ⟨⟨ks, lk⟩, ⟨left, last⟩, D2, h2⟩ m ⟨hnm, hit, hlk, hperm, hJ2, hD2, BV⟩
 dsimp only at hit hlk hperm hJ2 hD2 BV ⊢
 have hn2 : ¬ D2 n := fun g => by rcases hD2 n g with g | g; have := hDn n g; omega; omega
 have hll : left.length = lk.length := by have := congrArg List.length hlk; simpa using this
 simp [go_sem]
 refine Og (q := n) (left := left) (last := last) rfl (by simp [go_sem]) hit (fun i hi => ?_) fun h0 => ?_
 · have hil : i < lk.length := by omega
   have hx : left[i].1 = AA lk[i] := by
    have := congrArg (fun l => l[i]?) hlk
    simpa [hi, hil] using this
   simp [go_sem]
   refine Qq (q := n) (left := left.eraseIdx i) (p := left[i]) rfl (by simp [go_sem]) (AC _ _ _) ?_
   simp [go_sem, hx]
   refine Ez.mono (Y.step ks lk[i] D2 _ _ ⟨_, LQ hperm hil⟩ (Y.keep _ _ _ _ _ _ hJ2 (JO m) fun o g => AD _ _ (by rintro rfl; exact hn2 g))) ?_
   rintro v h3 m3 ⟨hm3, D3, hDD, hh3, ⟨rfl, hj⟩ | ⟨_, hj⟩⟩
   · simp [go_sem]
     refine ⟨ks ++ [lk[i]], lk.eraseIdx i, by rw [List.length_eraseIdx]; simp [hil]; omega, left.eraseIdx i, some left[i], D3, h3, ⟨by omega, ?_, ?_, ?_, hj, fun o g => ?_, fun o g1 g2 g3 => ?_⟩, AB⟩
     · rw [hh3 n hn2 hnm]; exact AC _ _ _
     · rw [G1, G1, hlk]
     · exact LQ hperm hil
     · rcases hDD o g with g | g
       · rcases hD2 o g with g | g
         · exact .inl g
         · exact .inr (by omega)
       · exact .inr (by omega)
     · have : ¬ D2 o := fun g => by rcases hD2 o g with g | g; exact g1 g; omega
       rw [hh3 o this (by omega), AD _ _ (by omega)]; exact BV o g1 g2 g3
   · exact hj.elim
 · have hlk0 : lk = [] := X8 (by rw [← hll, h0]; rfl)
   subst hlk0
   simp [go_sem]
   refine .inl ⟨ks, by simpa using hperm, by omega, D2, fun o g => ?_, BV, hJ2⟩
   rcases hD2 o g with g | g
   · exact .inl g
   · exact .inr (by omega)
end
theorem d260 (es : List (SV × SV)) (ks0 : List Int) (hk : es.map (·.1) = ks0.map AA) (hlen : ks0.length ≤ 1048576) {H : Hp} {n q s : Nat} (hq : H q = some (.cells [.map s])) (hs : H s = some (.map es)) :
 BN Tryz.prog 260 [.imm 0 [] true, .fn (.func 198) [] [.ptr q 0]] H n (fun v h' n' => ∃ ks : List Int, ks.Perm ks0 ∧ Ni 1 (ks.map AA) (hset H s none) n v h' n') := by
 refine goM Tryz.func260 rfl (by kernel_rfl) (by kernel_rfl) (by simp [go_sem]) fun ho B => ?_
 have hqn := (ho q _ hq).1
 have hsn := (ho s _ hs).1
 have hqs : q ≠ s := by rintro rfl; rw [hq] at hs; cases hs
 simp [go_sem]
 refine FJ rfl rfl rfl fun E1 l R hY => ?_
 let J : List Int → (Nat → Prop) → Hp → Nat → Prop := fun ks D hh m => ∃ o : Option Nat, D = (fun j => j = n ∨ j = n + 1 ∨ o = some j) ∧ n + 1 < m ∧ hh n = some (.cells [AQ 1 o (ks.map AA)]) ∧ hh (n + 1) = some (.loop (R .ready none)) ∧ BQ (n + 2) m 1 o (ks.map AA) ∧ ∀ j, o = some j → hh j = some (.cells (ks.map AA))
 have Y : YK E1 l ks0 J := by
  refine ⟨?_, ?_, ?_⟩
  · rintro ks x D hh m ⟨rest, hp⟩ ⟨o, hDe, g0, g1, g2, g3, g4⟩
    have hkl : ks.length + 1 ≤ 1048576 := by have := hp.length_eq; simp at this; omega
    refine hY _ _ _ _ g2 rfl (H8 ?_)
    have e1 : n ≠ m := by omega
    have e2 : n + 1 ≠ m := by omega
    have e4 : n ≠ m + 1 := by omega
    have hon : ∀ j, o = some j → n + 2 ≤ j ∧ j < m := fun j e => g3.lt j e
    simp [go_sem, JX, AD, g1, g2]
    rw [Kf (x := x) g3 (by omega) (by simp [hset]) (by
     intro j e
     have := hon j e
     have := g4 j e
     simp only [hset]
     grind)]
    have done : ∀ (H2 : Hp) (o2 : Nat), o2 = m + 1 → (∀ j, ¬ (j = n ∨ j = n + 1 ∨ o = some j) → j < m → H2 j = hh j) → H2 n = some (.cells [.sl o2 0 1 (ks.length + 1) false]) → H2 o2 = some (.cells (ks.map AA ++ [AA x])) → H2 (n + 1) = some (.loop (R .busy none)) →
     ∀ sa, Hh (n + 1) R (HH (J (ks ++ [x])) (fun _ _ _ => False) D hh m) .normal sa H2 (m + 1 + 1) := by
     rintro H2 o2 rfl k0 k1 k2 k3 sa
     subst hDe
     refine ⟨k3, by omega, fun j => j = n ∨ j = n + 1 ∨ some (m + 1) = some j, fun j g => ?_, fun j g1 g2 => ?_, .inl ⟨rfl, some (m + 1), rfl, by omega, ?_, AC _ _ _, ?_, fun j e => ?_⟩⟩
     · rcases g with g | g | g
       · exact .inl (.inl g)
       · exact .inl (.inr (.inl g))
       · cases g; exact .inr (by omega)
     · rw [AD _ _ (fun e => g1 (.inr (.inl e)))]; exact k0 j g1 g2
     · rw [AD _ _ (by omega), k1]; simp [AQ]
     · rw [K1]; exact g3.push rfl rfl (by omega) (by omega)
     · cases e; rw [AD _ _ (by omega), k2, K1]; rfl
    cases o with
    | none =>
     simp [go_sem, AD, g1, e1, e4, AQ]
     refine done _ _ rfl (fun j h1 h2 => ?_) ?_ ?_ ?_ _
     · simp only [hset]; grind
     · simp only [hset]; grind
     · simp only [hset]; grind
     · simp only [hset]; grind
    | some j =>
     have hj := hon j rfl
     have e3 : n ≠ j := by omega
     simp [go_sem, AD, g1, e1, e3, e4, AQ]
     refine done _ _ rfl (fun j h1 h2 => ?_) ?_ ?_ ?_ _
     · simp only [hset]; grind
     · simp only [hset]; grind
     · simp only [hset]; grind
     · simp only [hset]; grind
  · rintro ks D hh m h' m' ⟨o, rfl, g0, g1, g2, g3, g4⟩ hm hD
    exact ⟨o, rfl, by omega, by rw [hD _ (.inl rfl)]; exact g1, by rw [hD _ (.inr (.inl rfl))]; exact g2, g3.mono hm, fun j e => by rw [hD _ (.inr (.inr e))]; exact g4 j e⟩
  · rintro ks D hh m ⟨o, rfl, g0, g1, g2, g3, g4⟩ j (rfl | rfl | e)
    · omega
    · omega
    · exact (g3.lt j e).2
 refine ZT (c198 Y es hk (D := fun j => j = n ∨ j = n + 1) (s := s) ?_ ?_ ?_ ?_) ?_
 · simp [hset]; rw [if_neg (by omega), if_neg (by omega)]; exact hq
 · simp [hset]; rw [if_neg (by omega), if_neg (by omega)]; exact hs
 · omega
 · exact ⟨none, by simp, by omega, by simp [hset, AQ], by simp [hset], Zp _ _ _, by simp⟩
 rintro _ h' m' ⟨ks, D', hperm, hm, hD, BV, o, rfl, g0, g1, g2, g3, g4⟩
 refine ⟨_, _, g2, by simp, ?_⟩
 simp [go_sem, AD, g1]
 refine .inl ⟨ks, hperm, by omega, fun j y e => ?_, ?_⟩
 · have hjs : j ≠ s := by rintro rfl; simp [hset] at e
   rw [AD _ _ hjs] at e
   have := (ho j y e).1
   rw [AD _ _ (by omega), BV j (by omega) (by omega) hjs, AD _ _ (by omega), AD _ _ (by omega), e]
 · cases o with
   | none =>
    have he := g3.none rfl
    exact .inl ⟨he, 0, true, rfl⟩
   | some j =>
    have := g3.lt j rfl
    exact .inr ⟨j, false, by omega, by omega, by simp [AQ], by rw [AD _ _ (by omega), Di]; exact g4 j rfl⟩
theorem d196 (es : List (SV × SV)) (ks0 : List Int) (hk : es.map (·.1) = ks0.map AA) (hlen : ks0.length ≤ 1048576) {H : Hp} {n q s : Nat} (hq : H q = some (.cells [.map s])) (hs : H s = some (.map es)) :
 BN Tryz.prog 196 [.fn (.func 198) [] [.ptr q 0]] H n (fun v h' n' => ∃ ks : List Int, ks.Perm ks0 ∧ Ni 1 (ks.map AA) (hset H s none) n v h' n') := by
 refine gq Tryz.func196 rfl fun ho => ?_
 simp [go_sem]
 refine Y9 (d260 es ks0 hk hlen hq hs) ?_
 rintro v h' n' ⟨ks, hp, hn⟩
 simp [go_sem]
 exact .inl ⟨ks, hp, hn⟩
theorem LZ {a b : List Int} (h : a.Perm b) : Co a = Co b := by
 have tr : ∀ x y z : Int, decide (x ≤ y) = true → decide (y ≤ z) = true → decide (x ≤ z) = true := fun x y z h1 h2 => by simp only [decide_eq_true_eq] at *; exact Int.le_trans h1 h2
 have to : ∀ x y : Int, (decide (x ≤ y) || decide (y ≤ x)) = true := fun x y => by simp only [ZM, decide_eq_true_eq]; exact Int.le_total x y
 refine List.Perm.eq_of_pairwise (le := fun x y => decide (x ≤ y) = true) (fun x y _ _ h1 h2 => ?_) (Xr tr to a) (Xr tr to b) (((List.mergeSort_perm a _).trans h).trans (List.mergeSort_perm b _).symm)
 simp only [decide_eq_true_eq] at h1 h2
 exact Int.le_antisymm h1 h2
theorem d139 (es : List (SV × SV)) (ks0 : List Int) (hk : es.map (·.1) = ks0.map AA) (hlen : ks0.length ≤ 1048576) {H : Hp} {n q s : Nat} (hq : H q = some (.cells [.map s])) (hs : H s = some (.map es)) :
 BN Tryz.prog 139 [.fn (.func 198) [] [.ptr q 0]] H n (Ni 1 ((Co ks0).map AA) (hset H s none) n) := by
 refine gq Tryz.func139 rfl fun ho => ?_
 simp [go_sem]
 refine Y9 (d196 es ks0 hk hlen hq hs) ?_
 rintro v h' n' ⟨ks, hp, hle, BV, hv⟩
 have hkl := hp.length_eq
 rcases hv with ⟨he, z', full, rfl⟩ | ⟨o, full, h1, h2, rfl, h3⟩
 · simp [go_sem]
   refine (Tp z' full).use ?_
   simp [go_sem]
   simp only [ZJ] at he
   subst he
   have : ks0 = [] := by simpa using hp.symm
   subst this
   exact .inl ⟨hle, BV, .inl ⟨by simp [Co], z', full, rfl⟩⟩
 · simp [go_sem]
   rw [Di] at h3
   refine Y9 (d197 ks (by omega) h3) ?_
   rintro v h4 n4 ⟨rfl, rfl, rfl⟩
   simp [go_sem]
   have hos : o ≠ s := by have := (ho s _ hs).1; omega
   refine .inl ⟨hle, fun j y e => ?_, .inr ⟨o, full, h1, h2, ?_, ?_⟩⟩
   · have hjs : j ≠ s := by rintro rfl; simp [hset] at e
     have e2 := e
     rw [AD _ _ hjs] at e2
     have := (ho j y e2).1
     rw [AD _ _ (by omega)]; exact BV j y e
   · have : (Co ks0).length = ks.length := by rw [← LZ hp]; exact Zz _
     simp [this]
   · rw [AC, LZ hp, Di]
theorem d140 {H : Hp} {n s : Nat} : BN Tryz.prog 140 [.map s] H n (fun v h' n' => v = .fn (.func 198) [] [.ptr n 0] ∧ h' = hset H n (some (.cells [.map s])) ∧ n' = n + 1) := by
 refine gq Tryz.func140 rfl fun ho => ?_
 simp [go_sem]
 exact .inl ⟨rfl, rfl, rfl⟩
def Fe (d : AH) : List Int := Co ((Bb [] (AE.usL d.flow ++ d.«end».all)).filter fun x => decide (x ≠ 0))
theorem Rv : ∀ {l : List Int} (x : Int), l.Nodup → ∀ (_i j : Nat), l[j]? = some x → (EM l).eraseIdx j = EM (l.filter fun y => decide (y ≠ x))
 | [], x, _, i, j, h => by simp at h
 | a :: l, x, hn, i, 0, h => by
  rw [Z5] at hn
  simp only [ZO, Kk] at h
  subst h
  have : (a :: l).filter (fun y => decide (y ≠ a)) = l := by
   rw [Xp]
   simp only [ne_eq, not_true, decide_false, KC, if_false]
   exact YU.2 fun y hy => by simp only [decide_eq_true_eq]; rintro rfl; exact hn.1 hy
  rw [this]; simp [EM]
 | a :: l, x, hn, i, j + 1, h => by
  rw [Z5] at hn
  have hx : l[j]? = some x := by simpa using h
  have hax : a ≠ x := by rintro rfl; exact hn.1 (YD hx)
  have ih := Rv x hn.2 i j hx
  rw [Xp]
  simp only [ne_eq, hax, not_false_eq_true, decide_true, if_true]
  simp only [EM, Y3, Xs] at ih ⊢
  rw [ih]
theorem Rx {l : List Int} {x : Int} (h : x ∉ l) : (l.filter fun y => decide (y ≠ x)) = l := YU.2 fun y hy => by simp only [decide_eq_true_eq]; rintro rfl; exact h hy
theorem c74 (d : AH) (hl : d.flow.length ≤ 1048576) (hs : AE.sizedL d.flow) (he : d.«end».sized) (hu : (Bb [] (AE.usL d.flow ++ d.«end».all)).length ≤ 1048576) : PC 74 [d.enc] (.imm 1 ((Fe d).map AA) false) := by
 intro h n
 refine gq Tryz.func74 rfl fun ho => ?_
 have e1 : n + 1 + 1 ≠ n := by omega
 have e2 : n + 1 ≠ n := by omega
 have e3 : n + 1 + 1 ≠ n + 1 := by omega
 simp [go_sem, AH.enc, AF.flat, AI.flat, AC, AD, Y6]
 refine Y9 (d138 (SizeOf.sizeOf d.flow + 1) d.flow (Yk _) hl hs [] _ _ (n + 2) (n + 1) (by simp [hset]) (by simp [hset, EM])) ?_
 rintro v h' n' ⟨rfl, rfl, rfl⟩
 simp [go_sem, AC, AD]
 refine Y9 (by simpa [AF.enc, AF.flat] using S9 d.«end» he (Bb [] (AE.usL d.flow)) (p := n + 2) (s := n + 1) (by simp [hset]) (by simp [hset])) ?_
 rintro v h' n' ⟨rfl, rfl, rfl⟩
 rw [← CB]
 have hnd := IP (AE.usL d.flow ++ d.«end».all) [] List.nodup_nil
 have hU : Fe d = Co ((Bb [] (AE.usL d.flow ++ d.«end».all)).filter fun x => decide (x ≠ 0)) := rfl
 generalize Bb [] (AE.usL d.flow ++ d.«end».all) = out at hnd hu hU ⊢
 have fin : ∀ (H2 : Hp), H2 (n + 2) = some (.cells [.map (n + 1)]) → H2 (n + 1) = some (.map (EM (out.filter fun x => decide (x ≠ 0)))) → (∀ j, j < n → H2 j = h j) → (∀ K : SV → Hp → Nat → Prop, (∀ v h' n', CE n h' n' v (Is (.imm 1 ((Fe d).map AA) false) h n) → K v h' n') →
  Ak (By.plain.call false 0) Tryz.prog 139 [.fn (.func 198) [] [.ptr (n + 3) 0]] (hset H2 (n + 3) (some (.cells [.map (n + 1)]))) (n + 4) K) := fun H2 a1 a2 a3 K hK => by
  have hfl : (out.filter fun x => decide (x ≠ 0)).length ≤ 1048576 := by have := YH (fun x => decide (x ≠ 0)) out; omega
  refine Y9 (d139 (EM (out.filter fun x => decide (x ≠ 0))) (out.filter fun x => decide (x ≠ 0)) (by simp [EM]) hfl (s := n + 1) (by simp [hset]) (by rw [AD _ _ (show n + 1 ≠ n + 3 by omega)]; exact a2)) ?_
  rintro v h' n' ⟨hle, BV, hv⟩
  rw [← hU] at hv
  have hh : ∀ j y, h j = some y → h' j = some y := fun j y e => by
   have := (ho j y e).1
   refine BV j y ?_
   rw [AD _ _ (by omega), AD _ _ (by omega), a3 j this, e]
  refine hK _ _ _ ?_
  rcases hv with ⟨h1, z', full, rfl⟩ | ⟨o, full, h1, h2, rfl, h3⟩
  · rw [h1]; exact JQ ho hh (by simp) rfl
  · exact SU LF (full := full) ho hh (show n ≤ o by omega) (by simp) h3
 by_cases hm : (0 : Int) ∈ out
 · obtain ⟨j, h1, h2⟩ := DA 0 hm
   rw [YV] at h1
   have hkd := Rv 0 hnd 0 j h2
   simp [go_sem, AC, AD, h1, CM]
   refine Y9 d140 ?_
   rintro v h' n' ⟨rfl, rfl, rfl⟩
   simp [go_sem]
   refine fin _ ?_ ?_ ?_ _ ?_
   · simp [hset]
   · rw [← hkd]; simp [hset]
   · intro j hj; simp only [hset]; grind
   · intro v h' n' hr
     simp [go_sem]; exact hr
 · have h1 := Dh 0 hm
   have hkd := Rx hm
   simp [go_sem, AC, AD, h1, CM]
   refine Y9 d140 ?_
   rintro v h' n' ⟨rfl, rfl, rfl⟩
   simp [go_sem]
   refine fin _ ?_ ?_ ?_ _ ?_
   · simp [hset]
   · rw [hkd]; simp [hset]
   · intro j hj; simp only [hset]; grind
   · intro v h' n' hr
     simp [go_sem]; exact hr
def Gc (z : Nat) (es : List SV) (v : SV) (o : Option Nat) (n m : Nat) : Prop :=
 (o = none ∧ es = [] ∧ ∃ z' f, v = .imm z' [] f) ∨ ∃ j f, o = some j ∧ n ≤ j ∧ j < m ∧ v = .sl j 0 z es.length f
def C4 (es : List SV) (o : Option Nat) (h : Hp) : Hp := match o with | none => h | some j => hset h j (some (.cells (es.flatMap SV.cells)))
theorem Gc.st {z : Nat} {es : List SV} {v : SV} {o : Option Nat} {n m : Nat} (H : Gc z es v o n m) : v.storable = true ∧ v.cells = [v] := by
 rcases H with ⟨_, _, z', f, rfl⟩ | ⟨j, f, _, _, _, rfl⟩ <;> exact ⟨rfl, rfl⟩
theorem Ni.own {z : Nat} {es : List SV} {h h' : Hp} {n n' : Nat} {v : SV} (H : Ni z es h n v h' n') : ∃ o, Gc z es v o n n' ∧ (∀ j y, h j = some y → h' j = some y) ∧ ∀ j, o = some j → h' j = some (.cells (es.flatMap SV.cells)) := by
 obtain ⟨h1, h2, ⟨rfl, z', f, rfl⟩ | ⟨o, f, h3, h4, rfl, h5⟩⟩ := H
 · exact ⟨none, .inl ⟨rfl, rfl, z', f, rfl⟩, h2, by simp⟩
 · exact ⟨some o, .inr ⟨o, f, rfl, h3, h4, rfl⟩, h2, by rintro j e; cases e; exact h5⟩
theorem Gc.mono {z : Nat} {es : List SV} {v : SV} {o : Option Nat} {n n' m m' : Nat} (H : Gc z es v o n m) (hn : n' ≤ n) (hm : m ≤ m') : Gc z es v o n' m' := by
 rcases H with ⟨h1, h2, z', f, h3⟩ | ⟨j, f, h1, h2, h3, h4⟩
 · exact .inl ⟨h1, h2, z', f, h3⟩
 · exact .inr ⟨j, f, h1, by omega, by omega, h4⟩
theorem Gc.lt {z : Nat} {es : List SV} {v : SV} {o : Option Nat} {n m : Nat} (H : Gc z es v o n m) : ∀ j, o = some j → n ≤ j ∧ j < m := by
 rcases H with ⟨rfl, _⟩ | ⟨j, f, rfl, h2, h3, _⟩
 · simp
 · rintro i e; cases e; exact ⟨h2, h3⟩
theorem Iz {z k i : Nat} {es : List SV} {e c : SV} (hs : ∀ e ∈ es, e.storable = true ∧ e.cells.length = z) (h : es[i]? = some e) (hk : e.cells[k]? = some c) :
 i * z + k + 1 ≤ (es.flatMap SV.cells).length ∧ ((es.flatMap SV.cells).drop (i * z + k)).take 1 = [c] := by
 obtain ⟨g1, g2⟩ := K9 hs h
 have he := (hs e (YD h)).2
 have hlt := (Ky.1 hk).1
 refine ⟨by omega, ?_⟩
 have h1 : (((es.flatMap SV.cells).drop (i * z)).take z).drop k = e.cells.drop k := by rw [g2]
 rw [List.drop_take, ZB] at h1
 have h2 : (((es.flatMap SV.cells).drop (i * z + k)).take (z - k)).take 1 = (e.cells.drop k).take 1 := by rw [h1]
 rw [List.take_take, Ze (by omega)] at h2
 rw [h2, Yi hlt]
 simp only [Yu, Zr]
 rw [(Ky.1 hk).2]
theorem KQ {cs : List SV} {off : Nat} {c : SV} (h1 : off + 1 ≤ cs.length) (h2 : (cs.drop off).take 1 = [c]) : cs.take off ++ c :: cs.drop (off + 1) = cs := by
 have : cs.drop off = c :: cs.drop (off + 1) := by
  rw [Yi (by omega)] at h2 ⊢
  simp only [Yu, Zr, List.cons.injEq, and_true] at h2; rw [h2]
 rw [← this, YG]
def trC : Tr := .pure 0 <| .pure 1 <| .pure 3 <| .pure 4 <| .pure 6 <| .pure 7 <| .pure 9 <| .pure 10 <|
 .two 2 13
  (.two 5 13 (.two 8 13 (.two 11 13 (.two 12 13 (.one 13 (.one 14 .nil)) (.one 12 (.one 14 .nil))) (.one 11 (.one 12 (.one 14 .nil)))) (.one 8 (.one 11 (.one 12 (.one 14 .nil))))) (.one 5 (.one 8 (.one 11 (.one 12 (.one 14 .nil))))))
  (.one 2 (.one 5 (.one 8 (.one 11 (.one 12 (.one 14 .nil))))))
set_option maxHeartbeats 2000000 in
theorem c144 (s : AI) (h1 : s.styles.length ≤ 1048576) (h2 : s.lists.length ≤ 1048576) (h3 : s.comments.length ≤ 1048576) (h4 : s.vars.length ≤ 1048576) (h5 : ∀ x ∈ s.styles, x.props.length ≤ 1048576) (h6 : ∀ x ∈ s.lists, x.levels.length ≤ 1048576) :
 PC 144 [s.enc] s.enc := by
 intro h n
 refine Da Tryz.func144 rfl fun ho => ?_
 refine Bn 2 [(1, .iptr s.flat), (2, .ptr (n + 1) 0)] (hset h (n + 1) (some (.cells [.imm 0 [] true, .imm 0 [] true, .imm 0 [] true, .imm 0 [] true]))) (fun m => m = n + 2) ?_ (fun m hm => ?_)
 · simp [go_sem, AI.enc, Y6, Jo]
   refine ⟨AW (by rw [AD _ _ (by omega)]; exact ho.none (JO n)) (by simp [hset]), fun j y => ?_⟩
   have := ho j y; simp only [hset]; grind
 subst hm
 refine AV 1 (α := SV × Option Nat × SV × Option Nat × Nat) (fun a => [(2, .ptr (n + 1) 0), (3, .ptr a.2.2.2.2 0)])
  (fun a => hset (C4 (s.styles.map A7.enc) a.2.1 (C4 (s.lists.map FL.enc) a.2.2.2.1 (hset h (n + 1) (some (.cells [.imm 0 [] true, .imm 0 [] true, .imm 0 [] true, .imm 0 [] true]))))) a.2.2.2.2 (some (.cells [a.1, a.2.2.1, BZ s.comments, Ey s.vars])))
  (fun a m => Gc 6 (s.styles.map A7.enc) a.1 a.2.1 (n + 2) m ∧ Gc 2 (s.lists.map FL.enc) a.2.2.1 a.2.2.2.1 (n + 2) m ∧ n + 2 ≤ a.2.2.2.2 ∧ a.2.2.2.2 < m ∧ a.2.1 ≠ some a.2.2.2.2 ∧ a.2.2.2.1 ≠ some a.2.2.2.2 ∧ (∀ j, a.2.1 = some j → a.2.2.2.1 ≠ some j)) (Bt trC rfl (by kernel_rfl) (by kernel_rfl) ?_) ?_
 · simp [go_sem, trC, AI.flat]
   iterate 14 (all_goals (try first
    | (refine LC.use (l199 _ h1) ?_; intro v1 H1 m1 W1; have lt1 := W1.1; obtain ⟨o1, a1, b1, c1⟩ := W1.own; obtain ⟨s1, t1⟩ := a1.st; simp only [SV.storable, SV.cells] at s1 t1; simp [go_sem])
    | (refine LC.use (l200 _ h2) ?_; intro v2 H2 m2 W2; have LL := W2.1; obtain ⟨o2, a2, b2, c2⟩ := W2.own; obtain ⟨s2, t2⟩ := a2.st; simp only [SV.storable, SV.cells] at s2 t2; simp [go_sem])
    | (refine (c201 _ h3).use ?_; simp [go_sem])
    | (refine (c202 _ h4).use ?_; simp [go_sem, s1, t1, s2, t2])
    | refine ⟨?_, ?_⟩))
   all_goals
    have L1 := a1.lt
    have L2 := a2.lt
    have ZZ : BY := .cells [.imm 0 [] true, .imm 0 [] true, .imm 0 [] true, .imm 0 [] true]
    first
     | (have hq := b2 (n + 2) _ (b1 (n + 2) _ (AC _ _ _)); simp [go_sem, hq])
     | (have hq := b2 m1 _ (AC _ _ _); simp [go_sem, hq])
     | simp [go_sem, AC]
    refine ⟨v1, o1, v2, o2, _, ⟨a1.mono (by omega) (by omega), a2.mono (by omega) (by omega), ?_, ?_, fun e => ?_, fun e => ?_, fun j e e' => ?_⟩, Jo, fun j y => ?_⟩
    · omega
    · omega
    · have := L1 _ e; omega
    · have := L2 _ e; omega
    · have := L1 _ e; have := L2 _ e'; omega
    · intro hy
      have q1 := b1 j y
      have q2 := b2 j y
      have q3 := c1 j
      have q4 := c2 j
      have r1 := L1 j
      have r2 := L2 j
      have q5 := b2 j (.cells ((s.styles.map A7.enc).flatMap SV.cells))
      have q6 := ho j y
      clear b1 b2 c1 c2 L1 L2 W1 W2 a1 a2
      simp only [hset] at *
      cases o1 <;> cases o2 <;> simp only [C4, hset] at hy <;> grind
 rintro ⟨v1, o1, v2, o2, q⟩ m ⟨a1, a2, hq1, hq2, hn1, hn2, hn12⟩
 dsimp only at a1 a2 hq1 hq2 hn1 hn2 hn12 ⊢
 have L1 := a1.lt
 have L2 := a2.lt
 obtain ⟨s1, t1⟩ := a1.st
 obtain ⟨s2, t2⟩ := a2.st
 simp only [SV.storable, SV.cells] at s1 t1 s2 t2
 generalize hB : C4 (s.styles.map A7.enc) o1 (C4 (s.lists.map FL.enc) o2 (hset h (n + 1) (some (.cells [.imm 0 [] true, .imm 0 [] true, .imm 0 [] true, .imm 0 [] true])))) = B
 have B1 : ∀ j, o1 = some j → B j = some (.cells ((s.styles.map A7.enc).flatMap SV.cells)) := fun j e => by subst e; rw [← hB]; simp [C4, hset]
 have B2 : ∀ j, o2 = some j → B j = some (.cells ((s.lists.map FL.enc).flatMap SV.cells)) := fun j e => by
  subst e; rw [← hB]
  cases o1 with
  | none => simp [C4, hset]
  | some i => have := hn12 i rfl; simp only [C4, hset]; grind
 have B3 : B (n + 1) = some (.cells [.imm 0 [] true, .imm 0 [] true, .imm 0 [] true, .imm 0 [] true]) := by
  rw [← hB]
  cases o1 <;> cases o2 <;> simp only [C4, hset] <;> grind
 have B4 : ∀ j y, h j = some y → B j = some y := fun j y e => by
  have := ho j y e
  rw [← hB]
  cases o1 <;> cases o2 <;> simp only [C4, hset] <;> grind
 have hqn : ∀ j, o1 = some j → j ≠ q := fun j e e' => hn1 (by rw [e, e'])
 have hqn2 : ∀ j, o2 = some j → j ≠ q := fun j e e' => hn2 (by rw [e, e'])
 clear hB
 refine Bf 1 [(2, .ptr (n + 1) 0), (3, .ptr q 0)] (hset B q (some (.cells [v1, v2, BZ s.comments, Ey s.vars]))) m (AK ?_) (fun m' hm' => ?_)
 · rcases a1 with ⟨_, he, z', f, rfl⟩ | ⟨j, f, rfl, hj1, hj2, rfl⟩
   · simp [go_sem, AC]
     refine Aq 1 (α := Unit) (fun _ => [(2, .ptr (n + 1) 0), (3, .ptr q 0), (21, AA 0), (22, AA 0)]) (fun _ => hset B q (some (.cells [.imm z' [] f, v2, BZ s.comments, Ey s.vars]))) (fun _ m' => m ≤ m') (fun _ => 0) () (JO _) (by simp [Am]) AB ?_
     intro _ m' hm'
     simp [go_sem]
     exact hm'
   · have hjq := hqn j rfl
     have hBj := B1 j rfl
     simp [go_sem, AC]
     refine Aq 1 (α := Nat) (fun i => [(2, .ptr (n + 1) 0), (3, .ptr q 0), (21, AA s.styles.length), (22, AA i)]) (fun _ => hset B q (some (.cells [.sl j 0 6 s.styles.length f, v2, BZ s.comments, Ey s.vars]))) (fun i m' => i ≤ s.styles.length ∧ m ≤ m') (fun i => s.styles.length - i) 0 ?_ ?_ ?_ ?_
     · exact ⟨K2 _, JO _⟩
     · simp [Am]
     · simp
     rintro i m' ⟨hi, hm'⟩
     by_cases hlt : i < s.styles.length
     · have w1 := wS i (by omega)
       obtain ⟨x, hx⟩ : ∃ x, s.styles[i] = x := ⟨_, rfl⟩
       have hx' : (s.styles.map A7.enc)[i]? = some x.enc := by simp [hlt, hx]
       obtain ⟨g1, g2⟩ := Iz (A7.E.size s.styles) hx' (k := 5) (c := Ag x.props) rfl
       have g3 := KQ g1 g2
       have hxl := h5 x (by rw [← hx]; exact Kn hlt)
       have hjm : j < m' := by omega
       have hqm : q < m' := by omega
       have hBj' := hBj
       generalize (s.styles.map A7.enc).flatMap SV.cells = F at hBj' g1 g2 g3
       simp [go_sem, AC, AD, hjq, hBj', hlt, g1, g2, hjm, hqm]
       repeat first | refine nd (by simp [CI, Ef, C2, Au, Region.binds] <;> omega) ?_ | refine sq ?_ | refine aq ?_
       refine YL _ _ _ _ _ _ (UJ x.props hxl) ?_
       simp [go_sem, AD, hjq, hBj', hlt, g1, g3, hjm, w1, -Int.natCast_add]
       repeat first | refine nd (by simp [CI, Ef, C2, Au, Region.binds, hjq] <;> omega) ?_ | refine sq ?_ | refine aq ?_
       refine ⟨i + 1, by omega, ⟨by omega, hm'⟩, Jo, fun o y => ?_⟩
       simp only [hset]; grind
     · have : i = s.styles.length := by omega
       subst this
       simp [go_sem]
       exact hm'
 refine Bf 1 [(2, .ptr (n + 1) 0), (3, .ptr q 0)] (hset B q (some (.cells [v1, v2, BZ s.comments, Ey s.vars]))) m (AK ?_) (fun m2 hm2 => ?_)
 · rcases a2 with ⟨_, he, z', f, rfl⟩ | ⟨j, f, rfl, hj1, hj2, rfl⟩
   · simp [go_sem, AC]
     refine Aq 1 (α := Unit) (fun _ => [(2, .ptr (n + 1) 0), (3, .ptr q 0), (40, AA 0), (41, AA 0)]) (fun _ => hset B q (some (.cells [v1, .imm z' [] f, BZ s.comments, Ey s.vars]))) (fun _ m' => m ≤ m') (fun _ => 0) () hm' (by simp [Am]) AB ?_
     intro _ m' hm'
     simp [go_sem]
     exact hm'
   · have hjq := hqn2 j rfl
     have hBj := B2 j rfl
     simp [go_sem, AC]
     refine Aq 1 (α := Nat) (fun i => [(2, .ptr (n + 1) 0), (3, .ptr q 0), (40, AA s.lists.length), (41, AA i)]) (fun _ => hset B q (some (.cells [v1, .sl j 0 2 s.lists.length f, BZ s.comments, Ey s.vars]))) (fun i m' => i ≤ s.lists.length ∧ m ≤ m') (fun i => s.lists.length - i) 0 ?_ ?_ ?_ ?_
     · exact ⟨K2 _, hm'⟩
     · simp [Am]
     · simp
     rintro i m' ⟨hi, hm'⟩
     by_cases hlt : i < s.lists.length
     · have w1 := wS i (by omega)
       obtain ⟨x, hx⟩ : ∃ x, s.lists[i] = x := ⟨_, rfl⟩
       have hx' : (s.lists.map FL.enc)[i]? = some x.enc := by simp [hlt, hx]
       obtain ⟨g1, g2⟩ := Iz (FL.E.size s.lists) hx' (k := 1) (c := C6 x.levels) rfl
       have g3 := KQ g1 g2
       have hxl := h6 x (by rw [← hx]; exact Kn hlt)
       have hjm : j < m' := by omega
       have hqm : q < m' := by omega
       have hBj' := hBj
       generalize (s.lists.map FL.enc).flatMap SV.cells = F at hBj' g1 g2 g3
       simp [go_sem, AC, AD, hjq, hBj', hlt, g1, g2, hjm, hqm]
       repeat first | refine nd (by simp [CI, Ef, C2, Au, Region.binds] <;> omega) ?_ | refine sq ?_ | refine aq ?_
       refine YL _ _ _ _ _ _ (c203 x.levels hxl) ?_
       simp [go_sem, AD, hjq, hBj', hlt, g1, g3, hjm, w1, -Int.natCast_add]
       repeat first | refine nd (by simp [CI, Ef, C2, Au, Region.binds, hjq] <;> omega) ?_ | refine sq ?_ | refine aq ?_
       refine ⟨i + 1, by omega, ⟨by omega, hm'⟩, Jo, fun o y => ?_⟩
       simp only [hset]; grind
     · have : i = s.lists.length := by omega
       subst this
       simp [go_sem]
       exact hm'
 have enq : n + 1 ≠ q := by omega
 have fz1 : ∀ (z : Nat) (es : List SV) (v : SV) (o : Option Nat) (H : Hp), (∀ e ∈ es, e.storable = true ∧ e.cells.length = z) → Gc z es v o (n + 2) m → (∀ j, o = some j → H j = some (.cells (es.flatMap SV.cells))) → Fz H h 1 v (.imm z es false) := fun z es v o H hsz ha hH => by
  rcases ha with ⟨_, he, z', f, rfl⟩ | ⟨j, f, rfl, hj1, hj2, rfl⟩
  · rw [he]; exact BR (by simp)
  · exact DN (ho.none (by omega)) (by simp) (hH j rfl) hsz
 refine AK ?_
 simp [go_sem, AC, AD, enq, B3]
 refine Db (v := s.enc) 2 ho (fun j y e => ?_) (.inr ⟨fz1 _ _ _ _ _ (A7.E.size _) a1 fun j e => ?_, fz1 _ _ _ _ _ (FL.E.size _) a2 fun j e => ?_, Jo, Jo, trivial⟩) ?_
 · have := ho j y e; have := B4 j y e; simp only [hset]; grind
 · have := L1 j e; have := B1 j e; have := hqn j e; simp only [hset]; grind
 · have := L2 j e; have := B2 j e; have := hqn2 j e; simp only [hset]; grind
 · simp [AI.enc, AI.flat, closed, closedL, A7.E.closedL, FL.E.closedL, Aw.E.closedL, FX.E.closedL]
structure AI.sized (s : AI) : Prop where
 styles : s.styles.length ≤ 1048576
 lists : s.lists.length ≤ 1048576
 comments : s.comments.length ≤ 1048576
 vars : s.vars.length ≤ 1048576
 props : ∀ x ∈ s.styles, x.props.length ≤ 1048576
 levels : ∀ x ∈ s.lists, x.levels.length ≤ 1048576
structure AH.sized (d : AH) : Prop where
 len : d.flow.length ≤ 1048576
 flow : AE.sizedL d.flow
 «end» : d.«end».sized
 revs : d.revs.length ≤ 1048576
 set : d.settings.sized
theorem c79 (d : AH) (hd : d.sized) : PC 79 [d.enc] d.enc := by
 intro h n
 refine gq Tryz.func79 rfl fun ho => ?_
 have hs := hd.set
 simp [go_sem, AH.enc, AF.flat, AI.flat, AC, AD, Y6]
 repeat first | refine nd (by simp [CI, Ef, C2, Au, Region.binds] <;> omega) ?_ | refine sq ?_ | refine aq ?_
 refine YL _ _ _ _ _ _ (c110 d.flow hd.len hd.flow) ?_
 simp [go_sem, AC, AD]
 repeat first | refine nd (by simp [CI, Ef, C2, Au, Region.binds] <;> omega) ?_ | refine sq ?_ | refine aq ?_
 refine YL _ _ _ _ _ _ (by simpa [AF.enc, AF.flat] using Ns d.«end» hd.end) ?_
 simp [go_sem, AC, AD]
 repeat first | refine nd (by simp [CI, Ef, C2, Au, Region.binds] <;> omega) ?_ | refine sq ?_ | refine aq ?_
 refine YL _ _ _ _ _ _ (c76 d.revs hd.revs) ?_
 simp [go_sem, AC, AD]
 repeat first | refine nd (by simp [CI, Ef, C2, Au, Region.binds] <;> omega) ?_ | refine sq ?_ | refine aq ?_
 refine YL _ _ _ _ _ _ (by simpa [AI.enc, AI.flat] using c144 d.settings hs.styles hs.lists hs.comments hs.vars hs.props hs.levels) ?_
 simp [go_sem, AC]
 repeat first | refine nd (by simp [CI, Ef, C2, Au, Region.binds] <;> omega) ?_ | refine sq ?_ | refine aq ?_
 exact Ax ho (fun j y => by have := ho j y; simp only [hset]; grind) rfl (by simp [closed, closedL, AE.E.closedL, Eu.E.closedL, BS.E.closedL, Az.E.closedL, Av.E.closedL, A7.E.closedL, FL.E.closedL, Aw.E.closedL, FX.E.closedL])
theorem c142 (a b : Int) : PC 142 [AA a, AA b] (.bool (decide (a < b))) := by
 intro h n
 refine gq Tryz.func142 rfl fun ho => ?_
 simp [go_sem]
 refine (UI _).use ?_
 simp [go_sem]
 exact A3 ho rfl rfl
theorem c143 (a : Int) : PC 143 [AA a] (.bool false) := by
 intro h n
 refine gq Tryz.func143 rfl fun ho => ?_
 simp [go_sem]
 exact A3 ho rfl rfl
def Ig (l : List Int) (x : Int) (i : Nat) : Int := match l[i]? with | some a => if a < x then -1 else if a = x then 0 else 1 | none => 0
theorem c78 (l : List Int) (x : Int) (hl : l.length ≤ 1048576) : PC 78 [.imm 1 (l.map AA) false, AA x] (.tup [AA (A8 (Ig l x) l.length).1, .bool (A8 (Ig l x) l.length).2]) := by
 intro h n
 refine gq Tryz.func78 rfl fun ho => ?_
 simp [go_sem]
 generalize hc : Ig l x = c
 refine Aq 1 (α := Nat × Nat) (fun q => [(0, .imm 1 (l.map AA) false), (1, AA x), (6, AA l.length), (7, AA q.1), (8, AA q.2)]) (fun _ => h) (fun q m => q.1 ≤ q.2 ∧ q.2 ≤ l.length ∧ n ≤ m ∧ E8 c 0 l.length = E8 c q.1 q.2) (fun q => q.2 - q.1) (0, l.length) ?_ ?_ AB ?_
 · simp
 · simp [Am]
 rintro ⟨i, j⟩ m ⟨hij, hj, hnm, hf⟩
 dsimp only at hij hj hf
 by_cases hlt : i < j
 · have hm : (i + j) / 2 < l.length := by omega
   have w1 : IntKind.i64.wrap ((i : Int) + j) = ((i + j : Nat) : Int) := by rw [DJ] <;> omega
   have w2 : IntKind.u64.wrap ((i + j : Nat) : Int) = ((i + j : Nat) : Int) := by rw [Sm] <;> omega
   have w3 : (((i + j : Nat) : Int)).fdiv 2 = (((i + j) / 2 : Nat) : Int) := by rw [Xg _ (by omega)]; omega
   have w4 : IntKind.i64.wrap (((i + j) / 2 : Nat) : Int) = (((i + j) / 2 : Nat) : Int) := by rw [DJ] <;> omega
   have w5 : IntKind.i64.wrap ((((i + j) / 2 : Nat) : Int) + 1) = (((i + j) / 2 + 1 : Nat) : Int) := by rw [DJ] <;> omega
   rw [E8.eq_def c i j] at hf
   have hcv : c ((i + j) / 2) = if l[(i + j) / 2] < x then -1 else if l[(i + j) / 2] = x then 0 else 1 := by rw [← hc]; simp [Ig, hm]
   simp [go_sem, hlt, w1, w2, w3, w4, hm, -Int.natCast_add, -Int.natCast_ediv]
   refine Y4 (c142 _ _) ?_
   by_cases hb : l[(i + j) / 2] < x
   · have IK : c ((i + j) / 2) < 0 := by rw [hcv, if_pos hb]; omega
     simp [hlt, IK] at hf
     simp [go_sem, hb, w5, -Int.natCast_add, -Int.natCast_ediv]
     exact ⟨(i + j) / 2 + 1, j, by omega, ⟨by omega, hj, hnm, hf⟩, Jo, Jo⟩
   · have IK : ¬ c ((i + j) / 2) < 0 := by rw [hcv, if_neg hb]; split <;> omega
     simp [hlt, IK] at hf
     simp [go_sem, hb, -Int.natCast_add, -Int.natCast_ediv]
     exact ⟨i, (i + j) / 2, by omega, ⟨by omega, by omega, hnm, hf⟩, Jo, Jo⟩
 · have e : E8 c 0 l.length = i := by rw [hf, E8.eq_def]; simp [hlt]
   by_cases hi : i < l.length
   · have hcv : c i = if l[i] < x then -1 else if l[i] = x then 0 else 1 := by rw [← hc]; simp [Ig, hi]
     by_cases he : l[i] = x
     · simp [go_sem, hlt, hi, he]
       exact A3 ho rfl (by simp [A8, e, hi, hcv, he])
     · have he' : (l[i] == x) = false := by simpa using he
       simp [go_sem, hlt, hi, he']
       refine (c143 _).use ?_
       simp [go_sem]
       have hne : ¬ c i = 0 := by rw [hcv, if_neg he]; split <;> omega
       exact A3 ho rfl (by simp [A8, e, hi, hne])
   · simp [go_sem, hlt, hi]
     exact A3 ho rfl (by simp [A8, e, hi])
theorem c77 (l : List Int) (hl : l.length ≤ 1048576) (r : Av) : PC 77 [r.enc, .iptr [.imm 1 (l.map AA) false]] (.bool (!(A8 (Ig l r.id) l.length).2)) := by
 intro h n
 refine gq Tryz.func77 rfl fun ho => ?_
 simp [go_sem, Av.enc, AC]
 refine (c78 l r.id hl).use ?_
 simp [go_sem]
 exact Ax ho (AN ho (JO _) AB) rfl rfl
theorem c75n (z : Nat) (full : Bool) (g : FuncId) (a b : List SV) : PC 75 [.imm z [] full, .fn (.func g) a b] (.imm 3 [] false) := by
 intro h n
 refine gq Tryz.func75 rfl fun ho => ?_
 simp [go_sem]
 have hI := (c141 [] (by simp) g a b (fun _ => false) (by simp)).wk (us := [.imm z [] full, .fn (.func g) a b]) 1 ⟨BR (by simp), Jo, trivial⟩
 refine Y4 hI ?_
 have e : BU (fun _ => false) 0 0 = -1 := by rw [BU]; simp
 simp [go_sem, e]
 exact JQ ho AB (by simp) rfl
def AH.norm1 (d : AH) : AH := ⟨AP d.flow, d.«end», d.revs, d.settings⟩
def AH.normal (d : AH) : AH := ⟨AP d.flow, d.«end», d.revs.filter fun r => (A8 (Ig (Fe d.norm1) r.id) (Fe d.norm1).length).2, d.settings⟩
theorem c21 (d : AH) (hd : d.sized) (hn : d.normal.sized) (hu : (Bb [] (AE.usL (AP d.flow) ++ d.«end».all)).length ≤ 1048576) : PC 21 [d.enc] d.normal.enc := by
 intro h n
 refine gq Tryz.func21 rfl fun ho => ?_
 have hs := hd.set
 simp [go_sem, AH.enc, AF.flat, AI.flat, AC, AD, Y6]
 refine (c73 d.flow hd.len hd.flow).use ?_
 simp [go_sem, AC, AD]
 refine Y4 (by simpa [AH.enc, AH.norm1, AF.flat, AI.flat] using c74 d.norm1 hn.len hn.flow hd.end hu) ?_
 simp [go_sem, AC, AD, Ai]
 have hul : (Fe d.norm1).length ≤ 1048576 := by
  have h1 : (Fe d.norm1).length = ((Bb [] (AE.usL d.norm1.flow ++ d.norm1.«end».all)).filter fun x => decide (x ≠ 0)).length := Zz _
  have h2 := YH (fun x => decide (x ≠ 0)) (Bb [] (AE.usL d.norm1.flow ++ d.norm1.«end».all))
  have h4 : (Bb [] (AE.usL d.norm1.flow ++ d.norm1.«end».all)).length ≤ 1048576 := hu
  omega
 generalize hU : Fe d.norm1 = us at hul
 refine LC.use (T2 _ hd.revs) ?_
 rintro v1 H1 m1 ⟨hle, BV, hv⟩
 have HA := BV n (.cells ([AG (AP d.flow)] ++ d.«end».flat ++ [Aj d.revs] ++ d.settings.flat)) (by simp [AC, AD, AF.flat, AI.flat])
 obtain ⟨cz, hcz, HC⟩ : ∃ cz : List SV, cz.length = 11 ∧ H1 (n + 1) = some (.cells cz) := ⟨_, rfl, BV (n + 1) (.cells _) (by simp [AC, AD]; rfl)⟩
 have HB := BV (n + 2) (.cells [.imm 1 (us.map AA) false]) (by simp [AC, ← hU, AH.norm1])
 have HO : ∀ j y, h j = some y → H1 j = some y := fun j y e => BV j y (by have := ho j y e; simp only [hset]; grind)
 clear BV
 have fin2 : ∀ (H2 : Hp), (∀ j, j = n ∨ j = n + 1 ∨ j < n → H2 j = H1 j) → CE n (hset (hset H2 n (some (.cells d.normal.enc.cells))) (n + 1) (some (.cells d.normal.enc.cells))) m1 d.normal.enc (Is d.normal.enc h n) := fun H2 a => by
  refine Ax ho (fun j y e => ?_) rfl ?_
  · have h1 := (ho j y e).1
    have h2 := HO j y e
    rw [AD _ _ (by omega), AD _ _ (by omega), a j (by omega), h2]
  · simp [AH.enc, AF.flat, AI.flat, closed, closedL, AE.E.closedL, Eu.E.closedL, BS.E.closedL, Az.E.closedL, Av.E.closedL, A7.E.closedL, FL.E.closedL, Aw.E.closedL, FX.E.closedL]
 have hrev : d.normal.revs = d.revs.filter fun r => !(!(A8 (Ig us r.id) us.length).2) := by simp [AH.normal, hU]
 have rest : ∀ (K : SV → Hp → Nat → Prop), (∀ H2 : Hp, (∀ j, j = n ∨ j = n + 1 ∨ j < n → H2 j = H1 j) → K (.imm 3 (d.normal.revs.map Av.enc) false) H2 m1) → Ak (By.plain.call false 0) Tryz.prog 75 [v1, .fn (.func 77) [] [.ptr (n + 2) 0]] H1 m1 K := fun K hK => by
  rcases hv with ⟨he, z', full, rfl⟩ | ⟨o, full, h1, h2, rfl, h3⟩
  · have hr : d.normal.revs = [] := by rw [hrev]; simp only [ZJ] at he; rw [he]; rfl
    rw [hr] at hK
    exact (c75n z' full 77 [] [.ptr (n + 2) 0]).use (hK H1 fun _ _ => rfl)
  · rw [hrev] at hK
    simp only [Kj]
    refine ZQ (bs := [.sl o 0 3 d.revs.length full, .fn (.func 77) [] [.iptr [.imm 1 (us.map AA) false]]]) (h2 := hset H1 (n + 2) none) 2 (fun j y e => ?_) ⟨Jo, .inr ⟨rfl, trivial, AW (AC _ _ _) HB, trivial⟩, trivial⟩ ?_
    · simp only [hset] at e
      split at e
      · cases e
      · exact e
    refine Y9 (d75 d.revs hd.revs 77 [] [.iptr [.imm 1 (us.map AA) false]] (fun r => !(A8 (Ig us r.id) us.length).2) (fun x _ => c77 us hul x) (by rw [AD _ _ (by omega)]; exact h3)) ?_
    rintro v h' n' ⟨rfl, rfl, rfl⟩
    refine hK _ fun j hj => ?_
    rw [AD _ _ (by omega), AD _ _ (by omega)]
 simp [go_sem]
 refine rest _ fun H2 a => ?_
 have HA2 : H2 n = _ := (a n (.inl rfl)).trans HA
 have HC2 : H2 (n + 1) = _ := (a (n + 1) (.inr (.inl rfl))).trans HC
 have hn1 : n + 1 ≠ n := by omega
 simp only [AF.flat, AI.flat] at HA2
 simp [go_sem, HA2, AC]
 refine Y4 (by simpa [AH.enc, AH.normal, AF.flat, AI.flat] using c79 d.normal hn) ?_
 have hdz : cz.drop 11 = [] := Zg (by omega)
 simp [go_sem, AD, HC2, hcz, AC, hdz]
 have := fin2 H2 a
 simpa [AH.enc, AH.normal, AF.flat, AI.flat, SV.cells] using this
theorem Ug {h : Hp} {n : Nat} (k : Nat) (h0 : 0 < k) (h1 : k ≤ 1073741824) : AT Tryz.prog h n .append [22, 3] [.imm 0 [] true, .int .i64 k] = some { val := .sl n 0 11 k false, new := some (.cells (List.replicate k (BP Tryz.prog 70).cells).flatten) } := by
 have e1 : BC Tryz.prog 22 = some 70 := by simp [go_sem]
 have e2 : Bk Tryz.prog 70 = 11 := by simp [go_sem]
 have e3 : (BP Tryz.prog 70).storable = true := by simp [go_sem]
 have e4 : (BP Tryz.prog 70).cells.length = 11 := by simp [go_sem]
 have e5 : Bj Tryz.prog 70 ≤ 65536 := by simp [go_sem]
 have e6 : BC Tryz.prog 3 = none := by simp [go_sem]
 have e7 : Tryz.prog.underlying 3 = some (.int .i64) := by kernel_rfl
 simp only [AT, e6, Option.isSome_none, KC, if_false, E6, e1, e7]
 rw [if_pos ⟨⟨by omega, by omega⟩, by rw [e2]; omega, e5, e3, by rw [e4, e2]⟩, e2]
 simp
theorem d256 (k : Nat) (hk : k ≤ 1048576) {h : Hp} {n : Nat} : BN Tryz.prog 256 [.imm 0 [] true, AA k] h n (fun v h' n' => (k = 0 ∧ v = .imm 0 [] true ∧ h' = h ∧ n' = n) ∨ (0 < k ∧ ∃ cs, v = .sl n 0 11 0 false ∧ h' = hset h n (some (.cells cs)) ∧ n' = n + 1)) := by
 refine gq Tryz.func256 rfl fun ho => ?_
 have h0 : ¬ ((k : Int) < 0) := by omega
 have w0 : IntKind.i64.wrap ((k : Int)) = k := by rw [DJ] <;> omega
 have w1 : IntKind.i64.wrap 0 = 0 := by decide
 by_cases hz : k = 0
 · subst hz
   simp [go_sem, w1]
   exact .inl ⟨rfl, rfl, rfl⟩
 · have hp : 0 < k := by omega
   have hb : (k : Int) ≤ 1073741824 := by omega
   have hmk := fun h n => Ug (h := h) (n := n) k hp (by omega)
   simp [go_sem, h0, w0, w1, hp, hmk]
   exact .inl (.inr ⟨rfl, ⟨_, rfl⟩, rfl⟩)
theorem Ke {H : Hp} {p len m : Nat} {s x : SV} {xs ys : List SV} {upd : Option (Nat × Option BY)} (hs : (s = .imm 0 [] true ∧ xs = [] ∧ len = 0 ∧ upd = none) ∨ ∃ j cs, s = .sl j 0 11 len false ∧ H j = some (.cells cs) ∧ Bm cs 0 (len * 11) = some xs ∧ upd = some (j, none))
 (hx : ID 11 x = true) (hm : Ea x = some m) (hy : flat H x = some ys) (hm0 : m ≠ 0) (hroom : len + m ≤ 1073741824) :
 AT Tryz.prog H p .append [22, 22] [s, x] = some { val := .sl p 0 11 (len + m) false, upd := upd, new := some (.cells (xs ++ ys)) } := by
 have e1 : BC Tryz.prog 22 = some 70 := by simp [go_sem]
 have e2 : Bk Tryz.prog 70 = 11 := by simp [go_sem]
 have e3 : (BP Tryz.prog 70).storable = true := by simp [go_sem]
 have e4 : (BP Tryz.prog 70).cells.length = 11 := by simp [go_sem]
 have e5 : Bj Tryz.prog 70 ≤ 65536 := by simp [go_sem]
 have hr : DM (len + m) (Bj Tryz.prog 70) = true := by simp only [DM, KB, decide_eq_true_eq]; exact ⟨by omega, e5⟩
 simp only [AT, e1, Zb, if_true, C5, hm, hy, e2, hx, e3, e4]
 have e6 : G9 70 = none := by rfl
 rcases hs with ⟨rfl, rfl, rfl, rfl⟩ | ⟨j, cs, rfl, hj, ht, rfl⟩
 · simp [ID, hm0, e6]
   simpa using hr
 · simp [ID, hm0, flat, hj, ht, hr, Iu e6]
theorem Nn {H : Hp} {p len : Nat} {s : SV} (hs : s = .imm 0 [] true ∨ ∃ j, s = .sl j 0 11 len false) :
 AT Tryz.prog H p .append [22, 22] [s, AG []] = some { val := s } := by
 have e1 : BC Tryz.prog 22 = some 70 := by simp [go_sem]
 have e2 : Bk Tryz.prog 70 = 11 := by simp [go_sem]
 have e3 : (BP Tryz.prog 70).storable = true := by simp [go_sem]
 have e4 : (BP Tryz.prog 70).cells.length = 11 := by simp [go_sem]
 simp only [AT, e1, Zb, if_true, C5, e2, e3, e4]
 rcases hs with rfl | ⟨j, rfl⟩ <;> simp [ID, Ea, flat, D6]
def DB (Ls : List (List AE)) (i : Nat) : List AE := (Ls.take i).flatten
theorem K8 {Ls : List (List AE)} {i : Nat} {x : List AE} (h : i < Ls.length) (hx : Ls[i] = x) : DB Ls (i + 1) = DB Ls i ++ x := by
 unfold DB; rw [JW h, hx]; simp
theorem Ri (Ls : List (List AE)) (i : Nat) : (DB Ls i).length ≤ Ls.flatten.length := by
 have : Ls.flatten = (Ls.take i).flatten ++ (Ls.drop i).flatten := by rw [← List.flatten_append, YG]
 rw [this, DB]; simp
theorem MJ (Ls : List (List AE)) : DB Ls Ls.length = Ls.flatten := by unfold DB; rw [KE]
theorem c189 (Ls : List (List AE)) (hL : Ls.length ≤ 1048576) (hT : Ls.flatten.length ≤ 1048576) : PC 189 [.imm 1 (Ls.map AG) false] (AG Ls.flatten) := by
 intro h n
 refine gq Tryz.func189 rfl fun ho => ?_
 simp [go_sem]
 have hle := Ri Ls
 refine Aq 1 (α := Nat) (fun i => [(0, .imm 1 (Ls.map AG) false), (3, AA (DB Ls i).length), (9, .imm 1 (Ls.map AG) false), (10, AA Ls.length), (11, AA i)]) (fun _ => h) (fun i m => i ≤ Ls.length ∧ n ≤ m) (fun i => Ls.length - i) 0 ?_ ?_ AB ?_
 · exact ⟨K2 _, JO n⟩
 · simp [Am, DB]
 rintro i m ⟨hi, hnm⟩
 by_cases hlt : i < Ls.length
 · have w1 := wS i (by omega)
   obtain ⟨x, hx⟩ : ∃ x, Ls[i] = x := ⟨_, rfl⟩
   have hsn := K8 hlt hx
   have h1 := hle i
   have h2 := hle (i + 1)
   have h3 : ¬ ((((DB Ls (i + 1)).length : Nat) : Int) < 0) := by omega
   have w2 : IntKind.i64.wrap (((DB Ls i).length : Int) + (x.length : Int)) = (((DB Ls (i + 1)).length : Nat) : Int) := by
    have : (DB Ls (i + 1)).length = (DB Ls i).length + x.length := by rw [hsn, Ye]
    rw [DJ] <;> omega
   simp [go_sem, hlt, hx, w2, h3, w1, -Int.natCast_add]
   exact ⟨i + 1, by omega, ⟨by omega, hnm⟩, Jo, Jo⟩
 · have : i = Ls.length := by omega
   subst this
   rw [MJ]
   generalize hF : Ls.flatten = F at hT
   simp [go_sem]
   refine Y9 (d256 F.length hT) ?_
   intro v h' n' hv
   have hst : ∃ o : Option Nat, (∀ j, o = some j → n ≤ j ∧ j < n') ∧ n ≤ n' ∧ (∀ j y, h j = some y → h' j = some y) ∧ ((o = none ∧ v = .imm 0 [] true) ∨ ∃ j cs, o = some j ∧ v = .sl j 0 11 0 false ∧ h' j = some (.cells cs)) := by
    rcases hv with ⟨_, rfl, rfl, rfl⟩ | ⟨_, cs, rfl, rfl, rfl⟩
    · exact ⟨none, by simp, hnm, fun _ _ e => e, .inl ⟨rfl, rfl⟩⟩
    · exact ⟨some m, by rintro j e; cases e; omega, by omega, AN ho hnm AB, .inr ⟨m, cs, rfl, rfl, AC _ _ _⟩⟩
   clear hv
   obtain ⟨o0, hlt0, hnn, hh0, hv0⟩ := hst
   simp [go_sem]
   refine Aq 1 (α := Nat × Option Nat × SV × Hp) (fun a => [(6, a.2.2.1), (25, .imm 1 (Ls.map AG) false), (26, AA Ls.length), (27, AA a.1)]) (fun a => a.2.2.2)
    (fun a m => a.1 ≤ Ls.length ∧ n ≤ m ∧ (∀ j, a.2.1 = some j → n ≤ j ∧ j < m) ∧ (∀ j y, h j = some y → a.2.2.2 j = some y) ∧ ((a.2.1 = none ∧ a.2.2.1 = .imm 0 [] true ∧ DB Ls a.1 = []) ∨ ∃ j cs, a.2.1 = some j ∧ a.2.2.1 = .sl j 0 11 (DB Ls a.1).length false ∧ a.2.2.2 j = some (.cells cs) ∧ Bm cs 0 ((DB Ls a.1).length * 11) = some (((DB Ls a.1).map AE.enc).flatMap SV.cells)))
    (fun a => Ls.length - a.1) (0, o0, v, h') ?_ ?_ AB ?_
   · refine ⟨K2 _, hnn, hlt0, hh0, ?_⟩
     rcases hv0 with ⟨h1, h2⟩ | ⟨j, cs, h1, h2, h3⟩
     · exact .inl ⟨h1, h2, rfl⟩
     · exact .inr ⟨j, cs, h1, h2, h3, by simp [Bm, DB]⟩
   · simp [Am]
   clear hv0 hh0 hlt0 hnn h' v hnm m hi hlt n' o0
   rintro ⟨i, o, v, h'⟩ m ⟨hi, hnm, hon, BV, hv⟩
   dsimp only at hi hon BV hv ⊢
   by_cases hlt : i < Ls.length
   · have w1 := wS i (by omega)
     obtain ⟨x, hx⟩ : ∃ x, Ls[i] = x := ⟨_, rfl⟩
     have hsn := K8 hlt hx
     have h2 := hle (i + 1)
     rw [hF, hsn, Ye] at h2
     have hbt : BC Tryz.prog 22 = some 70 := by simp [go_sem]
     by_cases hx0 : x = []
     · subst hx0
       have hap := fun (H : Hp) (p : Nat) => Nn (H := H) (p := p) (len := (DB Ls i).length) (s := v) (by
        rcases hv with ⟨_, h1, _⟩ | ⟨j, cs, _, h1, _⟩
        · exact .inl h1
        · exact .inr ⟨j, h1⟩)
       simp [go_sem, hlt, hx, hap, w1, -Int.natCast_add]
       exact ⟨i + 1, by omega, o, v, h', ⟨by omega, hnm, hon, BV, by simpa [Bm, hsn] using hv⟩, ⟨Jo, Jo⟩, AB⟩
     · have hxl : x.length ≠ 0 := by cases x <;> simp at hx0 ⊢
       have hxn : ∀ z : List SV, z = x.map AE.enc → Ea (.imm 11 z false) = some x.length := by rintro z rfl; simp [Ea]
       rcases hv with ⟨rfl, rfl, h0⟩ | ⟨j, cs, rfl, rfl, hj, ht⟩
       · rw [h0, Yc] at hsn
         have hap := fun (p : Nat) => Ke (H := h') (p := p) (len := 0) (m := x.length) (s := .imm 0 [] true) (x := AG x) (xs := []) (ys := (x.map AE.enc).flatMap SV.cells) (upd := none) (.inl ⟨rfl, rfl, rfl, rfl⟩) (by simp [ID]) (by simp [Ea]) rfl hxl (by omega)
         simp [go_sem, hlt, hx, hap, w1, -Int.natCast_add]
         refine ⟨i + 1, by omega, some m, .sl m 0 11 x.length false, hset h' m (some (.cells ((x.map AE.enc).flatMap SV.cells))), ⟨by omega, by omega, by rintro j e; cases e; omega, ?_, .inr ⟨m, rfl, by rw [hsn], _, AC _ _ _, ?_⟩⟩, ⟨Jo, Jo⟩, AB⟩
         · exact fun j y e => by rw [AD _ _ (by have := (ho j y e).1; omega)]; exact BV j y e
         · rw [hsn]
           have := BK (AE.E.size x)
           rw [Kj] at this
           exact ⟨by omega, by rw [← this, KE]⟩
       · have hjm := hon j rfl
         have hap := fun (p : Nat) => Ke (H := h') (p := p) (len := (DB Ls i).length) (m := x.length) (s := .sl j 0 11 (DB Ls i).length false) (x := AG x) (ys := (x.map AE.enc).flatMap SV.cells) (upd := some (j, none)) (.inr ⟨j, cs, rfl, hj, ht, rfl⟩) (by simp [ID]) (by simp [Ea]) rfl hxl (by omega)
         simp [go_sem, hlt, hx, hap, w1, -Int.natCast_add]
         refine ⟨i + 1, by omega, some m, .sl m 0 11 ((DB Ls i).length + x.length) false, hset (hset h' j none) m (some (.cells (((DB Ls i).map AE.enc).flatMap SV.cells ++ (x.map AE.enc).flatMap SV.cells))), ⟨by omega, by omega, by rintro j e; cases e; omega, ?_, .inr ⟨m, rfl, by rw [hsn, Ye], _, AC _ _ _, ?_⟩⟩, ⟨Jo, Jo⟩, AB⟩
         · exact fun q y e => by have := (ho q y e).1; rw [AD _ _ (by omega), AD _ _ (by omega)]; exact BV q y e
         · rw [hsn, K1, YM]
           have a1 := BK (AE.E.size (DB Ls i))
           have a2 := BK (AE.E.size x)
           rw [Kj] at a1 a2
           have a3 : (((DB Ls i).map AE.enc).flatMap SV.cells ++ (x.map AE.enc).flatMap SV.cells).length = (DB Ls i ++ x).length * 11 := by rw [Ye, a1, a2, Ye, YY]
           exact ⟨by omega, by rw [← a3, KE]⟩
   · have : i = Ls.length := by omega
     subst this
     rw [MJ, hF] at hv
     simp [go_sem]
     rcases hv with ⟨rfl, rfl, rfl⟩ | ⟨j, cs, rfl, rfl, h1, h2⟩
     · exact JQ ho BV (by simp) rfl
     · have hj := hon j rfl
       have hn := ho.none hj.1
       have hE := AE.E.size F
       have hA : ∀ l : List SV, AY (Fz h' h 0) l l := by
        intro l; induction l with
        | nil => trivial
        | cons a l ih => exact ⟨Jo, ih⟩
       refine Db (v := AG F) 1 ho BV ?_ (AE.E.imm _ _ _ _)
       exact .inr ⟨hn, by simp, by simp, rfl, cs, _, h1, h2, hE, hA _⟩
def An (l : List AE) : Nat := (l.map fun x => x.text.size).sum
def Ex (hp : AF → Prop) (K : Nat) : Nat → List AE → Prop
 | 0, _ => False
 | N + 1, l => l.length ≤ K ∧ An l ≤ K ∧ ∀ x ∈ l, hp x.head ∧ Ex hp K N x.flow ∧ x.rows.length ≤ K ∧ ∀ r ∈ x.rows, hp r.head ∧ r.cells.length ≤ K ∧ ∀ c ∈ r.cells, hp c.head ∧ Ex hp K N c.flow
theorem Ex.mono {hp hp' : AF → Prop} (hh : ∀ x, hp x → hp' x) {K K' : Nat} (h : K ≤ K') : ∀ {N : Nat} {l : List AE}, Ex hp K N l → Ex hp' K' N l
 | N + 1, l, H => ⟨by have := H.1; omega, by have := H.2.1; omega, fun x hx => by
  obtain ⟨a, b, c, d⟩ := H.2.2 x hx
  exact ⟨hh _ a, b.mono hh h, by omega, fun r hr => ⟨hh _ (d r hr).1, by have := (d r hr).2.1; omega, fun e he => ⟨hh _ ((d r hr).2.2 e he).1, ((d r hr).2.2 e he).2.mono hh h⟩⟩⟩⟩
theorem B7 (a b : List AE) : An (a ++ b) = An a + An b := by simp [An]
theorem It {l : List AE} {x : AE} (h : x ∈ l) : x.text.size ≤ An l := by
 induction l with
 | nil => cases h
 | cons a l ih =>
  have e : An (a :: l) = a.text.size + An l := by simp [An]
  rcases Y0.1 h with rfl | h
  · omega
  · have := ih h; omega
theorem Ex.sized {hp : AF → Prop} (hh : ∀ x, hp x → x.sized) {K : Nat} (h : K ≤ 1048576) : ∀ {N : Nat} {l : List AE}, Ex hp K N l → l.length ≤ 1048576 ∧ AE.sizedL l
 | N + 1, l, H => ⟨by have := H.1; omega, Xx fun x hx => by
  obtain ⟨a, b, c, d⟩ := H.2.2 x hx
  have ht := It hx
  have ht2 := H.2.1
  have hf := Ex.sized hh h b
  have hr : AR.sizedL x.rows := AR.sizedL_of fun r hr => by
   obtain ⟨e, f, g⟩ := d r hr
   have hc : AL.sizedL r.cells := AL.sizedL_of fun q hq => by
    obtain ⟨u, v⟩ := g q hq
    have hv := Ex.sized hh h v
    cases q; rw [AL.sized]; exact ⟨hh _ u, hv.1, hv.2⟩
   cases r; rw [AR.sized]; exact ⟨hh _ e, by simp only [AR.cells] at f; omega, hc⟩
  cases x; rw [AE.sized]; exact ⟨by simp only [AE.text] at ht; omega, hh _ a, hf.1, by simp only [AE.rows] at c; omega, hf.2, hr⟩⟩
def PR (hp : AF → Prop) (K N : Nat) (x : AE) : Prop := hp x.head ∧ Ex hp K N x.flow ∧ x.rows.length ≤ K ∧ ∀ r ∈ x.rows, hp r.head ∧ r.cells.length ≤ K ∧ ∀ c ∈ r.cells, hp c.head ∧ Ex hp K N c.flow
theorem Ds {hp : AF → Prop} {K N : Nat} {l : List AE} : Ex hp K (N + 1) l ↔ l.length ≤ K ∧ An l ≤ K ∧ ∀ x ∈ l, PR hp K N x := Iff.rfl
theorem MX {hp : AF → Prop} {K N : Nat} {x : AE} (H : PR hp K N x) (t : ByteArray) : PR hp K N (.mk x.kind x.code x.id t x.head x.flow x.rows) := by cases x; exact H
theorem Lu (out : List AE) (x : AE) : An (Ao out x) ≤ An out + x.text.size := by
 unfold Ao
 split
 · omega
 · split
   · rename_i y hy
     obtain ⟨ys, rfl⟩ : ∃ ys, out = ys ++ [y] := by
      rcases List.eq_nil_or_concat out with rfl | ⟨ys, z, rfl⟩
      · simp at hy
      · simp only [List.concat_eq_append] at hy ⊢; rw [ZD] at hy; cases hy; exact ⟨ys, rfl⟩
     split
     · simp [An, AE.addText, AE.text]; omega
     · simp [An]; omega
   · simp [An]
theorem JJ {p : AE → Prop} (hp : ∀ x t, p x → p (.mk x.kind x.code x.id t x.head x.flow x.rows)) {out : List AE} {x : AE} (h1 : ∀ y ∈ out, p y) (h2 : p x) : ∀ y ∈ Ao out x, p y := fun y hy => by
 rcases JL hy with h | h | ⟨z, hz, h⟩
 · exact h1 y h
 · rw [h]; exact h2
 · rw [h]; exact hp z _ (h1 z hz)
theorem Ib (l : List AE) (out : List AE) : An (l.foldl Ao out) ≤ An out + An l := by
 induction l generalizing out with
 | nil => simp [An]
 | cons a l ih =>
  have h1 := ih (Ao out a)
  have h2 := Lu out a
  have e : An (a :: l) = a.text.size + An l := by simp [An]
  simp only [YO]; omega
theorem IZ (l : List AE) (out : List AE) : (l.foldl Ao out).length ≤ out.length + l.length := by
 induction l generalizing out with
 | nil => simp
 | cons a l ih =>
  have h1 := ih (Ao out a)
  have h2 := JK out a
  simp only [YO, Yl]; omega
theorem Ge {p : AE → Prop} (hp : ∀ x t, p x → p (.mk x.kind x.code x.id t x.head x.flow x.rows)) (l : List AE) (out : List AE) (h1 : ∀ y ∈ out, p y) (h2 : ∀ y ∈ l, p y) : ∀ y ∈ l.foldl Ao out, p y := by
 induction l generalizing out with
 | nil => exact h1
 | cons a l ih => exact ih (Ao out a) (JJ hp h1 (h2 a (by simp))) fun y hy => h2 y (by simp [hy])
theorem EN {hp : AF → Prop} {K : Nat} : ∀ {N : Nat} {l : List AE}, Ex hp K N l → Ex hp K N (AP l)
 | N + 1, l, H => by
  rw [Ds] at H ⊢
  unfold AP DK
  rw [Zm]
  refine ⟨?_, ?_, ?_⟩
  · have := IZ (l.map AE.nrm) []; simp at this; omega
  · have := Ib (l.map AE.nrm) []
    have e : An (l.map AE.nrm) = An l := by simp only [An, YW]; congr 1; exact Ya fun x _ => by simp only [Function.comp_apply, (AE.nrm_fields x).2.2.2.1]
    have e0 : An [] = 0 := rfl
    rw [e, e0] at this; omega
  · refine Ge (p := PR hp K N) (fun x t h => MX h t) _ _ (fun y hy => by cases hy) fun y hy => ?_
    obtain ⟨x, hx, rfl⟩ := Y5.1 hy
    obtain ⟨a, b, c, d⟩ := H.2.2 x hx
    obtain ⟨_, _, _, _, e1, e2, e3⟩ := AE.nrm_fields x
    refine ⟨by rw [e1]; exact a, by rw [e2]; exact EN b, ?_, ?_⟩
    · rw [e3]; have := YH (fun r => !decide (r.cells.length = 0)) (x.rows.map AR.nrm); simp only [Kj] at this; omega
    · rw [e3]; intro r hr
      obtain ⟨r0, h0, rfl⟩ := Y5.1 (Z0.1 hr).1
      obtain ⟨u, v, w⟩ := d r0 h0
      have er : (AR.nrm r0).head = r0.head ∧ (AR.nrm r0).cells = r0.cells.map AL.nrm := by cases r0; rw [AR.nrm, Xu]; exact ⟨rfl, rfl⟩
      refine ⟨by rw [er.1]; exact u, by rw [er.2, Kj]; exact v, ?_⟩
      rw [er.2]; intro c hc
      obtain ⟨c0, h1, rfl⟩ := Y5.1 hc
      obtain ⟨u1, u2⟩ := w c0 h1
      have ec : (AL.nrm c0).head = c0.head ∧ (AL.nrm c0).flow = AP c0.flow := by cases c0; rw [AL.nrm]; exact ⟨rfl, rfl⟩
      exact ⟨by rw [ec.1]; exact u1, by rw [ec.2]; exact EN u2⟩
theorem LX {y : AE} {a b : Nat} : (y.setText (y.text.extract a b)).text.size ≤ y.text.size := by
 cases y; simp [AE.setText, AE.text]; omega
theorem M7 (cu : Int) (s : List AE × List AE) (p : Int × AE) : An (CC cu s p).1 ≤ An s.1 + p.2.text.size ∧ An (CC cu s p).2 ≤ An s.2 + p.2.text.size := by
 unfold CC
 split
 · exact ⟨by simp [B7]; simp [An], by simp⟩
 · split
   · exact ⟨by simp, by simp [B7]; simp [An]⟩
   · dsimp only
     simp only [B7]
     constructor
     · have : ∀ x : AE, An [x] = x.text.size := by simp [An]
       rw [this]
       have := @LX p.2
       exact Nat.add_le_add_left (this) _
     · have : ∀ x : AE, An [x] = x.text.size := by simp [An]
       rw [this]
       have := @LX p.2
       exact Nat.add_le_add_left (this) _
theorem Jh (l : List AE) (cu : Int) : ∀ k, k ≤ l.length → An (CX l cu k).1 ≤ An (l.take k) ∧ An (CX l cu k).2 ≤ An (l.take k)
 | 0, _ => by simp [CX, An]
 | k + 1, h => by
  rw [FA l cu k h, JW h, B7]
  have h1 := Jh l cu k (by omega)
  have h2 := M7 cu (CX l cu k) (Be (l.take k), l[k])
  have h3 : An [l[k]] = l[k].text.size := by simp [An]
  dsimp only at h2
  omega
theorem N1 {p : AE → Prop} (hp : ∀ x t, p x → p (.mk x.kind x.code x.id t x.head x.flow x.rows)) (cu : Int) (s : List AE × List AE) (q : Int × AE) (h1 : ∀ y ∈ s.1, p y) (h2 : ∀ y ∈ s.2, p y) (h3 : p q.2) : (∀ y ∈ (CC cu s q).1, p y) ∧ ∀ y ∈ (CC cu s q).2, p y := by
 have ap : ∀ (a : List AE) (y : AE), (∀ z ∈ a, p z) → p y → ∀ z ∈ a ++ [y], p z := fun a y h h' z hz => by
  rcases Kz.1 hz with hz | hz
  · exact h z hz
  · rw [Yb.1 hz]; exact h'
 unfold CC
 split
 · exact ⟨ap _ _ h1 h3, h2⟩
 · split
   · exact ⟨h1, ap _ _ h2 h3⟩
   · exact ⟨ap _ _ h1 (hp _ _ h3), ap _ _ h2 (hp _ _ h3)⟩
theorem I5 {p : AE → Prop} (hp : ∀ x t, p x → p (.mk x.kind x.code x.id t x.head x.flow x.rows)) (l : List AE) (cu : Int) (h : ∀ y ∈ l, p y) : ∀ k, k ≤ l.length → (∀ y ∈ (CX l cu k).1, p y) ∧ ∀ y ∈ (CX l cu k).2, p y
 | 0, _ => by simp [CX]
 | k + 1, hk => by
  rw [FA l cu k hk]
  have h1 := I5 hp l cu h k (by omega)
  exact N1 hp _ _ _ h1.1 h1.2 (h _ (Kn _))
theorem LK {hp : AF → Prop} {K N : Nat} {l : List AE} (cu : Int) (H : Ex hp K (N + 1) l) : Ex hp K (N + 1) (BA l cu).1 ∧ Ex hp K (N + 1) (BA l cu).2 := by
 rw [Ds] at H
 have h1 := DZ l cu
 have h2 := Jh l cu _ (JO _)
 have h3 := I5 (p := PR hp K N) (fun x t h => MX h t) l cu H.2.2 _ (JO _)
 rw [KE] at h2
 exact ⟨⟨by omega, by have := h2.1; unfold BA; omega, h3.1⟩, ⟨by omega, by have := h2.2; unfold BA; omega, h3.2⟩⟩
theorem Fv {hp : AF → Prop} {K N : Nat} {l : List AE} (a b : Int) (H : Ex hp K (N + 1) l) : Ex hp K (N + 1) (Ab l a b).1 := by
 unfold Ab
 split
 · exact EN (LK a (LK b H).1).2
 · exact ⟨by simp, by simp [An], by simp⟩
theorem Ly (l : List AE) : (AP l).length ≤ l.length := by
 have := IZ (AE.nrmL l) []; rw [Zm] at this; unfold AP DK; rw [Zm]; simpa using this
theorem Dt (l : List AE) (a b : Int) : (Ab l a b).1.length ≤ l.length := by
 unfold Ab
 split
 · have h1 := DZ l b
   have h2 := DZ (BA l b).1 a
   have h3 := Ly (BA (BA l b).1 a).2
   dsimp only; omega
 · simp
structure B6 where
 head : AF
 mid : Bool
 units : Int
def B6.enc (p : B6) : SV := .agg (p.head.flat ++ [.bool p.mid, AA p.units])
structure BD where
 id : Int
 a : Int
 b : Int
def BD.enc (s : BD) : SV := .agg [AA s.id, AA s.a, AA s.b]
def AE.put (x : AE) (h : AF) (f : List AE) (r : List AR) : AE := .mk x.kind x.code x.id x.text h f r
section
variable {σ : Type} (f : σ → B6 → AF × Bool × σ) (it : Int → List AE → Bool → σ → List AE × σ) (mid : Bool)
def Ed (q : List AL × σ) (c : AL) : List AL × σ :=
 if (f q.2 ⟨c.head, mid, 1⟩).2.1 then (q.1 ++ [.mk c.id (f q.2 ⟨c.head, mid, 1⟩).1 (it c.id c.flow mid (f q.2 ⟨c.head, mid, 1⟩).2.2).1], (it c.id c.flow mid (f q.2 ⟨c.head, mid, 1⟩).2.2).2)
 else (q.1, (f q.2 ⟨c.head, mid, 1⟩).2.2)
def GC (l : List AL) (s : σ) : List AL × σ := l.foldl (Ed f it mid) ([], s)
def Fm (q : List AR × σ) (r : AR) : List AR × σ :=
 if (f q.2 ⟨r.head, mid, 1⟩).2.1 then (q.1 ++ [.mk (f q.2 ⟨r.head, mid, 1⟩).1 (GC f it mid r.cells (f q.2 ⟨r.head, mid, 1⟩).2.2).1], (GC f it mid r.cells (f q.2 ⟨r.head, mid, 1⟩).2.2).2)
 else (q.1, (f q.2 ⟨r.head, mid, 1⟩).2.2)
def JR (l : List AR) (s : σ) : List AR × σ := l.foldl (Fm f it mid) ([], s)
def DD (x : AE) (s : σ) : (List AE × List AR) × σ :=
 if x.kind = 6 then (((it x.id x.flow mid s).1, x.rows), (it x.id x.flow mid s).2)
 else if x.kind = 7 then ((x.flow, (JR f it mid x.rows s).1), (JR f it mid x.rows s).2)
 else ((x.flow, x.rows), s)
def DV (q : List AE × σ) (x : AE) : List AE × σ :=
 let r := f q.2 ⟨x.head, mid, (BI [x]).1⟩
 if r.2.1 then (q.1 ++ [x.put r.1 (DD f it mid x r.2.2).1.1 (DD f it mid x r.2.2).1.2], (DD f it mid x r.2.2).2)
 else (q.1, r.2.2)
def Bi (l : List AE) (s : σ) : List AE × σ := l.foldl (DV f it mid) ([], s)
end
section
variable {σ : Type} (f : σ → B6 → AF × Bool × σ) (sc : BD)
def Ff (id : Int) (l : List AE) (mid : Bool) : Bool := decide (id = sc.id) && !mid && decide (0 ≤ sc.a) && decide (sc.a ≤ sc.b) && decide (sc.b ≤ (BI l).1)
def A6 : Nat → Int → List AE → Bool → σ → List AE × σ
 | 0, _, _, _, s => ([], s)
 | N + 1, id, l, mid, s =>
  if Ff sc id l mid then
   let p1 := Bi f (A6 N) false (Ab l 0 sc.a).1 s
   let p2 := Bi f (A6 N) true (Ab l sc.a sc.b).1 p1.2
   let p3 := Bi f (A6 N) false (Ab l sc.b (BI l).1).1 p2.2
   (p1.1 ++ p2.1 ++ p3.1, p3.2)
  else Bi f (A6 N) mid l s
end
theorem FB {α β : Type} (g : β → α → β) (b : β) (l : List α) (i : Nat) (x : α) (h : i < l.length) (hx : l[i] = x) : (l.take (i + 1)).foldl g b = g ((l.take i).foldl g b) x := by
 rw [JW h, Zl, hx]; rfl
section
variable {σ : Type} {f : σ → B6 → AF × Bool × σ} {it : Int → List AE → Bool → σ → List AE × σ} {mid : Bool}
theorem PE (l : List AL) (z : List AL × σ) : (l.foldl (Ed f it mid) z).1.length ≤ z.1.length + l.length := by
 induction l generalizing z with
 | nil => simp
 | cons a l ih =>
  have := ih (Ed f it mid z a)
  have h2 : (Ed f it mid z a).1.length ≤ z.1.length + 1 := by unfold Ed; split <;> simp
  simp only [YO, Yl]; omega
theorem Ql (l : List AR) (z : List AR × σ) : (l.foldl (Fm f it mid) z).1.length ≤ z.1.length + l.length := by
 induction l generalizing z with
 | nil => simp
 | cons a l ih =>
  have := ih (Fm f it mid z a)
  have h2 : (Fm f it mid z a).1.length ≤ z.1.length + 1 := by unfold Fm; split <;> simp
  simp only [YO, Yl]; omega
theorem G6 (l : List AE) (z : List AE × σ) : (l.foldl (DV f it mid) z).1.length ≤ z.1.length + l.length := by
 induction l generalizing z with
 | nil => simp
 | cons a l ih =>
  have := ih (DV f it mid z a)
  have h2 : (DV f it mid z a).1.length ≤ z.1.length + 1 := by unfold DV; dsimp only; split <;> simp
  simp only [YO, Yl]; omega
end
section
variable {hp : AF → Prop} {σ : Type} {f : σ → B6 → AF × Bool × σ} {it : Int → List AE → Bool → σ → List AE × σ} {mid : Bool} {K N : Nat}
theorem F9 {α : Type} {p : α → Prop} {l : List α} {x : α} (h : ∀ y ∈ l, p y) (hx : p x) : ∀ y ∈ l ++ [x], p y := fun y hy => by
 rcases Kz.1 hy with hy | hy
 · exact h y hy
 · rw [Yb.1 hy]; exact hx
end
theorem PS {hp : AF → Prop} {L : List Int} (hh : ∀ h, hp h → ∀ u ∈ h.all, u ∈ L) {K : Nat} : ∀ {N : Nat} {l : List AE}, Ex hp K N l → ∀ u ∈ AE.usL l, u ∈ L
 | N + 1, l, H => by
  obtain ⟨g1, g2, h3⟩ := Ds.1 H
  clear H g1 g2
  induction l with
  | nil => simp [AE.usL]
  | cons x l ih =>
   intro u hu
   rw [AE.usL, Kz] at hu
   rcases hu with hu | hu
   · obtain ⟨a1, a2, a3, a4⟩ := h3 x (by simp)
     cases x with
     | mk k c i t h f r =>
      simp only [AE.us, Kz, AE.head, AE.flow, AE.rows] at *
      rcases hu with hu | hu
      · exact hh h a1 u hu
      · split at hu
        · exact PS hh a2 u hu
        · split at hu
          · clear a3 h3
            induction r with
            | nil => simp [AR.usL] at hu
            | cons r rs ihr =>
             rw [AR.usL, Kz] at hu
             rcases hu with hu | hu
             · obtain ⟨b1, b2, b3⟩ := a4 r (by simp)
               cases r with
               | mk h2 cs =>
                simp only [AR.us, Kz, AR.head, AR.cells] at *
                rcases hu with hu | hu
                · exact hh h2 b1 u hu
                · clear a4 ihr b2
                  induction cs with
                  | nil => simp [AL.usL] at hu
                  | cons q cs ihc =>
                   rw [AL.usL, Kz] at hu
                   rcases hu with hu | hu
                   · obtain ⟨e1, e2⟩ := b3 q (by simp)
                     cases q with
                     | mk i3 h3 f3 =>
                      simp only [AL.us, Kz, AL.head, AL.flow] at *
                      rcases hu with hu | hu
                      · exact hh h3 e1 u hu
                      · exact PS hh e2 u hu
                   · exact ihc (fun c hc => b3 c (by simp [hc])) hu
             · exact ihr (fun r hr => a4 r (by simp [hr])) hu
          · cases hu
   · exact ih (fun x hx => h3 x (by simp [hx])) u hu
theorem OO : ∀ {l L : List Int}, l.Nodup → (∀ u ∈ l, u ∈ L) → l.length ≤ L.length
 | [], _, _, _ => by simp
 | a :: l, L, h, H => by
  rw [Z5] at h
  have ha := H a (by simp)
  have := OO (l := l) (L := L.erase a) h.2 fun u hu => (List.mem_erase_of_ne (by rintro rfl; exact h.1 hu)).2 (H u (by simp [hu]))
  rw [List.length_erase_of_mem ha] at this
  have hp : 0 < L.length := List.length_pos_of_mem ha
  simp only [Yl]; omega
theorem St {X L : List Int} (h : ∀ u ∈ X, u ∈ L) : (Bb [] X).length ≤ L.length :=
 OO (IP X [] List.nodup_nil) fun u hu => h u (by simpa using (HQ u X []).1 hu)
end Go.Proofs.YtgakninlhfkkmaaGreat.Sh
