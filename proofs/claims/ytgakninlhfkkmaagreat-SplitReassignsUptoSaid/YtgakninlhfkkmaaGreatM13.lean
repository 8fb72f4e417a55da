/- A part of the proof (part 13 of 14). -/
import Derived.Test.YtgakninlhfkkmaaGreatM12
import Derived.Test.YtgakninlhfkkmaaGreatRows
import Derived.WalkKit
import Derived.ProofKit
import Derived.OpenShut
import Derived.JoinedCond
import Derived.ReadAgain
import Derived.ChangeReads
namespace Go.Proofs.YtgakninlhfkkmaaGreat.Sh
open Proofs
set_option maxRecDepth 10000
theorem AH.cl (n : Nat) (E : AH) : closed n E.enc = true := by simp [AH.enc, AF.flat, AI.flat, closed, closedL, AE.E.closedL, Eu.E.closedL, BS.E.closedL, Az.E.closedL, Av.E.closedL, A7.E.closedL, FL.E.closedL, Aw.E.closedL, FX.E.closedL]
theorem k32 : PC 32 [] Cd.enc := by
 intro h n
 refine gq Tryz.func32 rfl fun ho => ?_
 have q1 : n ≠ n + 1 := by omega
 have q2 : n ≠ n + 1 + 1 := by omega
 have q3 : n + 1 ≠ n := by omega
 have q4 : n + 1 + 1 ≠ n := by omega
 have q5 : n + 1 ≠ n + 1 + 1 := by omega
 simp [go_sem, AC, AD, q2]
 refine Db 3 ho (fun o y e => ?_) ?_ (AH.cl n Cd)
 · have := (ho o y e).1
   rw [AD _ _ (by omega), AD _ _ (by omega), AD _ _ (by omega), AD _ _ (by omega)]; exact e
 · have hn1 : h (n + 1) = none := ho.none (by omega)
   have hn2 : h (n + 1 + 1) = none := ho.none (by omega)
   refine .inr ⟨.inr ⟨hn1, by simp, rfl, rfl, _, _, by rw [AD _ _ q3, AD _ _ q5, AC], rfl, ?_, ?_⟩, ?_, Jo, Jo, ?_, ?_, .inr ⟨hn2, by simp, rfl, rfl, _, _, by rw [AD _ _ q4, AC], rfl, ?_, ?_⟩, ?_, ?_, ?_, ?_, trivial⟩
   · exact AE.E.size _
   · exact ⟨Jo, Jo, Jo, Jo, BR (by simp), Jo, Jo, BR (by simp), BR (by simp), BR (by simp), BR (by simp), Jo, Jo, Jo, Jo, BR (by simp), Jo, Jo, BR (by simp), BR (by simp), BR (by simp), BR (by simp), trivial⟩
   · exact BR (by simp)
   · exact BR (by simp)
   · exact BR (by simp)
   · exact Av.E.size _
   · exact ⟨Jo, Jo, Jo, trivial⟩
   · exact BR (by simp)
   · exact BR (by simp)
   · exact BR (by simp)
   · exact BR (by simp)
set_option maxHeartbeats 2000000 in
theorem k11 : PC 11 [] (.bool true) := by
 intro h n
 refine Da Tryz.func11 rfl fun ho => ?_
 have hHb := ho.lt
 obtain ⟨A, hA⟩ : ∃ A : SV, A = .imm 11 ((Ln 4).map AE.enc) false := ⟨_, rfl⟩
 obtain ⟨R, hR⟩ : ∃ R : SV, R = Aj [Cm, Cg] := ⟨_, rfl⟩
 refine AZ 0 [] h n ?_ (fun m hm => ?_)
 · simp [go_sem]
 refine AZ 1 [(1, .iptr [A, Ag [], AA 0, AA 0, Aa [], AO [], R, Ac [], DS [], BZ [], Ey []]), (2, AA 0)] h n ?_ (fun m hm => ?_)
 · simp [go_sem]
   refine Y4 k32 ?_
   simp [go_sem]
   have e : (⟨Ln 4, z0, [Cm, Cg], Ew⟩ : AH).enc = .agg [A, Ag [], AA 0, AA 0, Aa [], AO [], R, Ac [], DS [], BZ [], Ey []] := by rw [hA, hR]; rfl
   have k := k15
   rw [e] at k
   refine Y4 (v := .tup [.agg [A, Ag [], AA 0, AA 0, Aa [], AO [], R, Ac [], DS [], BZ [], Ey []], AA 0]) k ?_
   simp [go_sem, Jo, AC, Ai]
   exact ⟨by omega, AW (Ad (fun j y e => by have := hHb j y e; omega) (JO m)) (AC _ _ _), AJ (fun j z e => by have := hHb j z e; omega) AB⟩
 obtain ⟨e0, he0⟩ : ∃ e0 : SV, e0 = (K6 3 ⟨#[97]⟩).enc := ⟨_, rfl⟩
 obtain ⟨e3, he3⟩ : ∃ e3 : SV, e3 = M9.enc := ⟨_, rfl⟩
 obtain ⟨e1, he1⟩ : ∃ e1 : SV, e1 = .agg [AA 1, AA 0, AA 0, .str ⟨#[98, 99]⟩, Ag [], AA 4, AA 0, Aa [], AO [], AG [], Ay []] := ⟨_, rfl⟩
 obtain ⟨e2, he2⟩ : ∃ e2 : SV, e2 = .agg [AA 1, AA 0, AA 0, .str ⟨#[100]⟩, Ag [], AA 3, AA 0, Aa [], AO [], AG [], Ay []] := ⟨_, rfl⟩
 have hA2 : A = .imm 11 [e0, e1, e2, e3] false := by rw [hA, he0, he1, he2, he3]; rfl
 obtain ⟨r0, hr0⟩ : ∃ r0 : SV, r0 = Cm.enc := ⟨_, rfl⟩
 obtain ⟨r1, hr1⟩ : ∃ r1 : SV, r1 = Cg.enc := ⟨_, rfl⟩
 have hR2 : R = .imm 3 [r0, r1] false := by rw [hR, hr0, hr1]; rfl
 refine AK ?_
 rw [hA2, hR2, he1, he2]
 simp [go_sem]
 exact A3 ho rfl rfl
section
variable {σ : Type}
end
def Rj (T : Int → Prop) : Nat → List AE → Prop
 | 0, _ => True
 | N + 1, l => ∀ x ∈ l, (x.kind ≠ 7 → x.rows = []) ∧ (x.kind = 6 → T x.id) ∧ Rj T N x.flow ∧ ∀ r ∈ x.rows, ∀ c ∈ r.cells, T c.id ∧ Rj T N c.flow
section
variable {σ : Type}
end
theorem Mg {id : Int} : ∀ {l : List Av}, (GJ id l).2 = true → ∃ r ∈ l, r.id = id
 | [], h => by simp [GJ] at h
 | r :: l, h => by
  rw [GJ] at h
  split at h
  · exact ⟨r, by simp, by assumption⟩
  · obtain ⟨q, h1, h2⟩ := Mg h
    exact ⟨q, by simp [h1], h2⟩
theorem H9 {l : List Av} {id : Int} (h : (BG l id).2 = true) : ∃ r ∈ l, r.id = id := by
 unfold BG at h
 split at h
 · split at h
   · rename_i h1 h2
     have hlt := Gt _ _ h2
     simp only [A8, decide_eq_true_eq] at h2 hlt
     obtain ⟨k, hk⟩ : ∃ k, k = E8 (Fb l id) 0 l.length := ⟨_, rfl⟩
     rw [← hk] at h2 hlt
     refine ⟨_, Kn hlt, ?_⟩
     have := h2.2
     unfold Fb at this
     rw [Y1 hlt] at this
     simp only [GD] at this
     split at this
     · omega
     · split at this
       · omega
       · omega
   · simp at h
 · exact Mg h
theorem Jc {F : Nat → Int} {n : Nat} (h : E4 F n = 0) : ∀ k, k < n → F k = 0 := fun k hk => by
 induction n with
 | zero => omega
 | succ n ih =>
  rw [E4] at h
  split at h
  · rename_i h0
    by_cases e : k = n
    · rw [e]; exact h
    · exact ih h0 (by omega)
  · omega
def KH (m2 : List Int) (h : AF) : Prop := h.sized ∧ P5 m2 h
theorem J6 : ∀ (l : List AE), (∀ x ∈ l, x.text.size ≤ 1000) → An l ≤ l.length * 1000
 | [], _ => by simp [An]
 | x :: l, h => by
  have h1 := J6 l fun y hy => h y (by simp [hy])
  have h2 := h x (by simp)
  have e : An (x :: l) = x.text.size + An l := by simp [An]
  simp only [Yl]; omega
theorem NA {m2 : List Int} {B : Nat} : ∀ {N : Nat} {l : List AE}, Ex AF.sized B N l → Lo N l → QA m2 N l → Ex (KH m2) 150000 N l
 | 0, _, h, _, _ => h.elim
 | N + 1, l, hl, hf, hk => by
  obtain ⟨_, _, h3⟩ := Ds.1 hl
  obtain ⟨f1, f2⟩ := hf
  refine Ds.2 ⟨by omega, ?_, fun x hx => ?_⟩
  · have := J6 l fun x hx => (f2 x hx).1.1
    omega
  · obtain ⟨a1, a2, a3, a4⟩ := h3 x hx
    obtain ⟨⟨b1, b2⟩, b3, b4⟩ := f2 x hx
    obtain ⟨c1, c2, c3, _, c4⟩ := hk x hx
    refine ⟨⟨a1, c2.toP5⟩, NA a2 b3 c3, by omega, fun r hr => ?_⟩
    obtain ⟨u1, u2, u3⟩ := a4 r hr
    obtain ⟨v1, v2⟩ := b4 r hr
    obtain ⟨w1, w2⟩ := c4 r hr
    exact ⟨⟨u1, w1.1.toP5⟩, by omega, fun c hc => ⟨⟨(u3 c hc).1, (w2 c hc).1.toP5⟩, NA (u3 c hc).2 (v2 c hc) (w2 c hc).2⟩⟩
section
variable {hp : AF → Prop} {σ : Type} {f : σ → B6 → AF × Bool × σ} {K N : Nat}
end
theorem Ps {m2 : List Int} {h : AF} (H : KH m2 h) : ∀ u ∈ h.all, u ∈ 0 :: m2 := fun u hu => by
 have k := H.2
 simp only [AF.all, Y0, Kz, Y5] at hu ⊢
 rcases hu with rfl | ⟨x, hx, rfl⟩ | ⟨x, hx, rfl⟩
 · rcases k.ins with e | e
   · exact .inl e
   · exact .inr e
 · exact .inr (k.dels x hx)
 · exact .inr (k.layers x hx)
theorem K3 {m2 : List Int} {K N : Nat} {W : AH} (hm : m2.length ≤ 1000) (hK : K ≤ 1048576) (h : Ex (KH m2) K N W.flow) (he : KH m2 W.«end») (hr : W.revs.length ≤ 1048576) (hs : W.settings.sized) :
 W.sized ∧ W.normal.sized ∧ (Bb [] (AE.usL (AP W.flow) ++ W.«end».all)).length ≤ 1048576 := by
 have h1 := h.sized (fun x g => g.1) hK
 have h2 := (EN h).sized (fun x g => g.1) hK
 refine ⟨⟨h1.1, h1.2, he.1, hr, hs⟩, ⟨h2.1, h2.2, he.1, ?_, hs⟩, ?_⟩
 · exact Yv (YH _ _) hr
 · refine Yv (St (L := 0 :: m2) fun u hu => ?_) (by simp only [Yl]; omega)
   rcases Kz.1 hu with hu | hu
   · exact PS (fun h g => Ps g) (EN h) u hu
   · exact Ps he u hu
theorem KN {l : List Av} (h : EI l = 0) : l.length ≤ 256 := by
 unfold EI at h
 have hl : ¬ (256 : Int) < l.length := fun g => by simp [CH, g] at h
 omega
def RV (w : World) : Cx := ⟨fun _ => none, fun _ => False, w, fun _ => none⟩
def BB : Nat := 1048576
section
variable {H : Type} (enc : TypeId × Value → H) (P : Program) (w : World) (base : Nat) (spare : Nat → Bool) (Bl : Bool)
variable {α β : Type}
def Rd (k : Nat) (e : TypeId) (F : α → List SV) (z : Nat) (ok : α → Prop) (μ : α → Nat) : Prop :=
 ∀ cs x, DataW.trod enc P w base spare Bl k e cs = some x → Rows.uptoBulk x.1 ≤ BB → ∃ a, VL (RV w) (F a) cs ∧ cs.length = z ∧ (∀ v ∈ cs, v.oneCell' = true) ∧ ok a ∧ μ a + 1 ≤ Rows.uptoBulk x.1
def Cj (n : Nat) (L : Nat) (fs : List Field) (o : Nat) (F : α → List SV) (ok : α → Prop) (μ : α → Nat) : Prop :=
 ∀ (cs : List Value) (xs : List (DataW H × List MemPlace)), cs.length = L → xs.length = fs.length → (∀ (i : Nat) (f : Field), fs[i]? = some f → DataW.trod enc P w base spare Bl n f.type ((cs.drop f.offset).take (P.cellsOf f.type)) = xs[i]?) →
  Rows.uptoBulkAll (xs.map (·.1)) ≤ BB → ∃ b, VL (RV w) (F b) (cs.drop o) ∧ (∀ v ∈ cs.drop o, v.oneCell' = true) ∧ ok b ∧ μ b ≤ Rows.uptoBulkAll (xs.map (·.1))
variable {enc P w base spare Bl}
theorem UA {c : Cx} {a b : List SV} {x y : List Value} (h : VL c a x) (g : VL c b y) : VL c (a ++ b) (x ++ y) := BL.2 (Zd (BL.1 h) (BL.1 g))
theorem Cj.nil {n L : Nat} : Cj enc P w base spare Bl n L [] L (fun _ : Unit => []) (fun _ => True) (fun _ => 0) := fun cs xs h1 h2 _ _ => by
 have : cs.drop L = [] := Xy (by omega)
 exact ⟨(), by rw [this, VL], by rw [this]; simp, trivial, K2 _⟩
theorem Cj.cons {n L : Nat} {f : Field} {fs : List Field} {o z : Nat} {F1 : α → List SV} {F2 : β → List SV} {ok1 : α → Prop} {ok2 : β → Prop} {μ1 : α → Nat} {μ2 : β → Nat} (h1 : Rd enc P w base spare Bl n f.type F1 z ok1 μ1) (hz : P.cellsOf f.type = z) (ho : f.offset = o)
 (h2 : Cj enc P w base spare Bl n L fs (o + z) F2 ok2 μ2) : Cj enc P w base spare Bl n L (f :: fs) o (fun p : α × β => F1 p.1 ++ F2 p.2) (fun p => ok1 p.1 ∧ ok2 p.2) (fun p => μ1 p.1 + μ2 p.2) := fun cs xs g1 g2 g3 g4 => by
 cases xs with
 | nil => simp at g2
 | cons x xs =>
  simp only [Y3, Rows.uptoBulkAll] at g4
  have e0 := g3 0 f rfl
  rw [ho, hz] at e0
  obtain ⟨a, a1, a2, a3, a4, a5⟩ := h1 _ x (by simpa using e0) (by omega)
  obtain ⟨b, b1, b2, b3, b4⟩ := h2 cs xs g1 (by simpa using g2) (fun i f' hf => by have := g3 (i + 1) f' (by simpa using hf); simpa using this) (by omega)
  have ed : cs.drop o = (cs.drop o).take z ++ cs.drop (o + z) := by rw [← ZB, YG]
  refine ⟨(a, b), ?_, ?_, ⟨a4, b3⟩, ?_⟩
  · rw [ed]; exact UA a1 b1
  · rw [ed]; intro v hv
    rcases Kz.1 hv with hv | hv
    · exact a3 v hv
    · exact b2 v hv
  · simp only [Y3, Rows.uptoBulkAll]; omega
theorem Cj.rd {n L : Nat} {T : TypeId} {fs : Array Field} {F : α → List SV} {ok : α → Prop} {μ : α → Nat} (ht : P.underlying T = some (.struct fs)) (hz : P.cellsOf T = L) (h : Cj enc P w base spare Bl n L fs.toList 0 F ok μ) : Rd enc P w base spare Bl (n + 1) T F L ok μ := fun cs x hx hb => by
 obtain ⟨xs, m, hm, rfl, hl, hlen, hf⟩ := DataW.trod_struct ht hx
 obtain rfl : n = m := by omega
 simp only [Rows.uptoBulk] at hb ⊢
 obtain ⟨b, b1, b2, b3, b4⟩ := h cs xs (by omega) (by simpa using hlen) (fun i f e => hf i f (by simpa using e)) (by omega)
 exact ⟨b, by simpa using b1, by omega, by simpa using b2, b3, by omega⟩
theorem Rd.map {k e z : Nat} {F : α → List SV} {ok : α → Prop} {μ : α → Nat} (h : Rd enc P w base spare Bl k e F z ok μ) (g : α → β) {F' : β → List SV} {ok' : β → Prop} {μ' : β → Nat} (hF : ∀ a, F' (g a) = F a) (hok : ∀ a, ok a → ok' (g a)) (hμ : ∀ a, μ' (g a) ≤ μ a) : Rd enc P w base spare Bl k e F' z ok' μ' := fun cs x hx hb => by
 obtain ⟨a, a1, a2, a3, a4, a5⟩ := h cs x hx hb
 exact ⟨g a, by rw [hF]; exact a1, a2, a3, hok a a4, by have := hμ a; omega⟩
theorem Kq {c : Cx} {s : SV} {v : Value} (h : V c s v) : VL c [s] [v] := BL.2 ⟨h, trivial⟩
theorem Up {k : Nat} {T : TypeId} (ht : P.underlying T = some (.int .i64)) : Rd enc P w base spare Bl k T (fun n : Int => [AA n]) 1 (fun _ => True) (fun _ => 0) := fun cs x hx _ => by
 obtain ⟨n, rfl, rfl, _⟩ := DataW.trod_int ht hx
 exact ⟨n, Kq (by rw [V]), rfl, by simp [Value.oneCell'], trivial, by simp [Rows.uptoBulk]⟩
theorem TT {k : Nat} {T : TypeId} (ht : P.underlying T = some .bool) : Rd enc P w base spare Bl k T (fun n : Bool => [.bool n]) 1 (fun _ => True) (fun _ => 0) := fun cs x hx _ => by
 obtain ⟨n, rfl, rfl⟩ := DataW.trod_bool ht hx
 exact ⟨n, Kq (by rw [V]), rfl, by simp [Value.oneCell'], trivial, by simp [Rows.uptoBulk]⟩
theorem Uq {k : Nat} {T : TypeId} (ht : P.underlying T = some .string) : Rd enc P w base spare Bl k T (fun s : ByteArray => [.str s]) 1 (fun s => s.size ≤ BB) (fun s => s.size) := fun cs x hx hb => by
 obtain ⟨s, rfl, rfl, _⟩ := DataW.trod_string ht hx
 have e : s.data.toList.length = s.size := by rw [Z9]; rfl
 simp only [Rows.uptoBulk] at hb ⊢
 exact ⟨s, Kq (by rw [V]), rfl, by simp [Value.oneCell'], by omega, by omega⟩
def KY (μ : α → Nat) (l : List α) : Nat := (l.map fun a => μ a + 1).sum
theorem DF (μ : α → Nat) : ∀ l : List α, l.length ≤ KY μ l
 | [] => by simp
 | a :: l => by have := DF μ l; simp only [KY, Y3, List.sum_cons, Yl] at this ⊢; omega
theorem QD {k z : Nat} {e : TypeId} {F : α → List SV} {f : α → SV} {ok : α → Prop} {μ : α → Nat} (hf : ∀ a, f a = .agg (F a)) (hs : ∀ a, (f a).storable = true) (hR : Rd enc P w base spare Bl k e F z ok μ) (hz : P.cellsOf e = z) (hz0 : 0 < z) (a : Addr) :
 ∀ (ys : List (DataW H × List MemPlace)) (i : Nat), (∀ j, j < ys.length → (w.cells? base (a.add ((i + j) * P.cellsOf e)) (P.cellsOf e)).bind (DataW.trod enc P w base spare Bl k e) = ys[j]?) → Rows.uptoBulkAll (ys.map (·.1)) ≤ BB →
  ∃ l : List α, ∃ us : List Value, l.length = ys.length ∧ AY (V (RV w)) (l.map f) us ∧ (∀ u ∈ us, u.cells.size = z) ∧ (∀ v ∈ us.flatMap (·.cells.toList), v.oneCell' = true) ∧ (∀ j v, (us.flatMap (·.cells.toList))[j]? = some v → w.cell? (a.add (i * z + j)) = some v) ∧ (∀ a ∈ l, ok a) ∧ KY μ l ≤ Rows.uptoBulkAll (ys.map (·.1))
 | [], i, _, _ => ⟨[], [], rfl, trivial, by simp, by simp, by simp, by simp, by simp [KY]⟩
 | y :: ys, i, hy, hb => by
  simp only [Y3, Rows.uptoBulkAll] at hb
  have h0 := hy 0 (by simp)
  simp only [ZO, Z7] at h0
  obtain ⟨cs, hcs, hx⟩ := Xq.1 h0
  obtain ⟨_, hcl, hce⟩ := World.cells?_some hcs
  obtain ⟨b, b1, b2, b3, b4, b5⟩ := hR cs y hx (by omega)
  obtain ⟨l, us, l1, l2, l3, l4, l5, l6, l7⟩ := QD hf hs hR hz hz0 a ys (i + 1) (fun j hj => by have := hy (j + 1) (by simp; omega); rw [show i + 1 + j = i + (j + 1) by omega]; simpa using this) (by omega)
  have hc : (Value.agg cs.toArray).cells.toList = cs := by simp [Value.cells]
  refine ⟨b :: l, .agg cs.toArray :: us, by simp [l1], ⟨?_, l2⟩, ?_, ?_, ?_, ?_, ?_⟩
  · show V (RV w) (f b) (.agg cs.toArray)
    rw [hf, V]; exact ⟨cs, rfl, b1, b3⟩
  · intro u hu
    rcases Y0.1 hu with rfl | hu
    · simpa [Value.cells] using b2
    · exact l3 u hu
  · intro v hv
    rw [Yx, hc] at hv
    rcases Kz.1 hv with hv | hv
    · exact b3 v hv
    · exact l4 v hv
  · intro j v hv
    rw [Yx, hc] at hv
    by_cases hj : j < z
    · rw [Z2 (by omega)] at hv
      have := hce j (by rw [hz]; exact hj)
      rw [hz, hv] at this
      have e : (a.add (i * z)).add j = a.add (i * z + j) := by
       unfold Addr.add
       by_cases e1 : i * z = 0
       · simp [e1]
       · by_cases e2 : j = 0
         · simp [e1, e2]
         · simp [e1, e2, Y6]
      rw [e] at this; exact this
    · rw [Yq (by omega)] at hv
      have := l5 (j - cs.length) v hv
      rw [show (i + 1) * z + (j - cs.length) = i * z + j by rw [b2, YY, Nat.one_mul]; omega] at this
      exact this
  · intro q hq
    rcases Y0.1 hq with rfl | hq
    · exact b4
    · exact l6 q hq
  · simp only [Y3, Rows.uptoBulkAll, KY, List.sum_cons] at l7 ⊢; omega
theorem DX {k z : Nat} {e T : TypeId} {F : α → List SV} {f : α → SV} {ok : α → Prop} {μ : α → Nat} (hf : ∀ a, f a = .agg (F a)) (hs : ∀ a, (f a).storable = true) (ht : P.underlying T = some (.slice e)) (hz : P.cellsOf e = z) (hz0 : 0 < z) (hR : ∀ m, m + 1 = k → Rd enc P w base spare Bl m e F z ok μ) :
 Rd enc P w base spare Bl k T (fun l : List α => [.imm z (l.map f) false]) 1 (fun l => (∀ a ∈ l, ok a) ∧ KY μ l ≤ BB) (KY μ) := fun cs x hx hb => by
 rcases DataW.trod_slice ht hx with ⟨rfl, rfl⟩ | ⟨a, len, cap, elems, rest, n, hn, rfl, rfl, _, hlc, _, hel, he, _, _⟩
 · exact ⟨[], Kq (by rw [V]; exact .inl ⟨rfl, rfl⟩), rfl, by simp [Value.oneCell'], ⟨by simp, by simp [KY]⟩, by simp [KY, Rows.uptoBulk]⟩
 · simp only [Rows.uptoBulk] at hb ⊢
   obtain ⟨l, us, l1, l2, l3, l4, l5, l6, l7⟩ := QD hf hs (hR n hn.symm) hz hz0 a elems 0 (fun j hj => by rw [YV]; exact he j (by omega)) (by omega)
   refine ⟨l, Kq ?_, rfl, by simp [Value.oneCell'], ⟨l6, by omega⟩, by omega⟩
   rw [V]
   right
   refine ⟨a, cap, us.flatMap (·.cells.toList), by rw [Kj, l1, hel], by rw [Kj, l1, hel]; exact hlc, by simp, ?_, IN.2 ⟨us, l2, l3, fun s hs' => ?_, rfl⟩⟩
   · have hsp : us.flatMap (·.cells.toList) ≠ [] → a.spot = none := fun hne => by
      obtain ⟨v, r, hv⟩ := List.exists_cons_of_ne_nil hne
      have := World.cell?_spot (l5 0 v (by rw [hv]; rfl))
      simpa [Addr.add] using this
     refine ⟨hsp, fun _ h => h, fun i v hv => ?_, l4⟩
     have h1 := l5 i v hv
     have h2 := hsp (by rintro e; rw [e] at hv; simp at hv)
     rw [Nat.zero_mul, YV] at h1
     have e : a.add i = ⟨a.block, a.off + i, none⟩ := by
      unfold Addr.add
      split
      · subst_vars; cases a; simp_all
      · rfl
     rw [e] at h1; exact h1
   · obtain ⟨q, _, rfl⟩ := Y5.1 hs'
     exact hs q
end
section
variable {H : Type} {enc : TypeId × Value → H} {w : World} {base : Nat} {spare : Nat → Bool} {Bl : Bool} {α : Type}
theorem Rd.zero {e : TypeId} {F : α → List SV} {z : Nat} {ok : α → Prop} {μ : α → Nat} : Rd enc Tryz.prog w base spare Bl 0 e F z ok μ := fun cs x hx _ => by simp [DataW.trod] at hx
theorem FQ (k : Nat) : Rd enc Tryz.prog w base spare Bl k 3 (fun n : Int => [AA n]) 1 (fun _ => True) (fun _ => 0) := Up Tryz.underlying3
theorem OT (k : Nat) : Rd enc Tryz.prog w base spare Bl k 9 (fun s : ByteArray => [.str s]) 1 (fun s => s.size ≤ BB) (fun s => s.size) := Uq Tryz.underlying9
theorem T4 (k : Nat) : Rd enc Tryz.prog w base spare Bl k 4 (fun b : Bool => [.bool b]) 1 (fun _ => True) (fun _ => 0) := TT Tryz.underlying4
def Eu.F (p : Eu) : List SV := [AA p.key, AA p.value]
theorem rPrp : ∀ k, Rd enc Tryz.prog w base spare Bl k 193 Eu.F 2 (fun _ => True) (fun _ => 0)
 | 0 => Rd.zero
 | k + 1 => (Cj.rd Tryz.underlying193 (by kernel_rfl) (Cj.cons (FQ k) (by kernel_rfl) rfl (Cj.cons (FQ k) (by kernel_rfl) rfl Cj.nil))).map (fun p => ⟨p.1, p.2.1⟩) (fun _ => rfl) (fun _ _ => trivial) (fun _ => K2 _)
def BS.F (p : BS) : List SV := [AA p.rev, AA p.move]
theorem rDel : ∀ k, Rd enc Tryz.prog w base spare Bl k 166 BS.F 2 (fun _ => True) (fun _ => 0)
 | 0 => Rd.zero
 | k + 1 => (Cj.rd Tryz.underlying166 (by kernel_rfl) (Cj.cons (FQ k) (by kernel_rfl) rfl (Cj.cons (FQ k) (by kernel_rfl) rfl Cj.nil))).map (fun p => ⟨p.1, p.2.1⟩) (fun _ => rfl) (fun _ _ => trivial) (fun _ => K2 _)
def Az.F (p : Az) : List SV := [AA p.rev, AA p.key, AA p.before, .bool p.had]
theorem Uk : ∀ k, Rd enc Tryz.prog w base spare Bl k 164 Az.F 4 (fun _ => True) (fun _ => 0)
 | 0 => Rd.zero
 | k + 1 => (Cj.rd Tryz.underlying164 (by kernel_rfl) (Cj.cons (FQ k) (by kernel_rfl) rfl (Cj.cons (FQ k) (by kernel_rfl) rfl (Cj.cons (FQ k) (by kernel_rfl) rfl (Cj.cons (T4 k) (by kernel_rfl) rfl Cj.nil))))).map (fun p => ⟨p.1, p.2.1, p.2.2.1, p.2.2.2.1⟩) (fun _ => rfl) (fun _ _ => trivial) (fun _ => K2 _)
def Av.F (p : Av) : List SV := [AA p.id, .str p.author, AA p.time]
theorem rRev : ∀ k, Rd enc Tryz.prog w base spare Bl k 42 Av.F 3 (fun r => r.author.size ≤ BB) (fun _ => 0)
 | 0 => Rd.zero
 | k + 1 => (Cj.rd Tryz.underlying42 (by kernel_rfl) (Cj.cons (FQ k) (by kernel_rfl) rfl (Cj.cons (OT k) (by kernel_rfl) rfl (Cj.cons (FQ k) (by kernel_rfl) rfl Cj.nil)))).map (fun p => (⟨p.1, p.2.1, p.2.2.1⟩ : Av)) (fun _ => rfl) (fun _ h => h.2.1) (fun _ => K2 _)
theorem SQ (k : Nat) : Rd enc Tryz.prog w base spare Bl k 23 (fun l : List Eu => [Ag l]) 1 (fun l => l.length ≤ BB) (fun _ => 0) :=
 (DX (f := Eu.enc) (F := Eu.F) (fun _ => rfl) Eu.E.st Tryz.underlying23 (by kernel_rfl) (by omega) (fun m _ => rPrp m)).map (fun l => l) (fun _ => rfl) (fun l h => by have := DF (fun _ => 0) l; have := h.2; omega) (fun _ => K2 _)
theorem rDels (k : Nat) : Rd enc Tryz.prog w base spare Bl k 24 (fun l : List BS => [Aa l]) 1 (fun l => l.length ≤ BB) (fun _ => 0) :=
 (DX (f := BS.enc) (F := BS.F) (fun _ => rfl) BS.E.st Tryz.underlying24 (by kernel_rfl) (by omega) (fun m _ => rDel m)).map (fun l => l) (fun _ => rfl) (fun l h => by have := DF (fun _ => 0) l; have := h.2; omega) (fun _ => K2 _)
theorem TQ (k : Nat) : Rd enc Tryz.prog w base spare Bl k 25 (fun l : List Az => [AO l]) 1 (fun l => l.length ≤ BB) (fun _ => 0) :=
 (DX (f := Az.enc) (F := Az.F) (fun _ => rfl) Az.E.st Tryz.underlying25 (by kernel_rfl) (by omega) (fun m _ => Uk m)).map (fun l => l) (fun _ => rfl) (fun l h => by have := DF (fun _ => 0) l; have := h.2; omega) (fun _ => K2 _)
theorem rRevs (k : Nat) : Rd enc Tryz.prog w base spare Bl k 30 (fun l : List Av => [Aj l]) 1 (fun l => l.length ≤ BB ∧ ∀ r ∈ l, r.author.size ≤ BB) (fun _ => 0) :=
 (DX (f := Av.enc) (F := Av.F) (fun _ => rfl) Av.E.st Tryz.underlying30 (by kernel_rfl) (by omega) (fun m _ => rRev m)).map (fun l => l) (fun _ => rfl) (fun l h => ⟨by have := DF (fun _ => 0) l; have := h.2; omega, h.1⟩) (fun _ => K2 _)
theorem Un : ∀ k, Rd enc Tryz.prog w base spare Bl k 27 (fun m : Int × Int × List BS × List Az => [AA m.1, AA m.2.1, Aa m.2.2.1, AO m.2.2.2]) 4 (fun m => m.2.2.1.length ≤ BB ∧ m.2.2.2.length ≤ BB) (fun _ => 0)
 | 0 => Rd.zero
 | k + 1 => (Cj.rd Tryz.underlying27 (by kernel_rfl) (Cj.cons (FQ k) (by kernel_rfl) rfl (Cj.cons (FQ k) (by kernel_rfl) rfl (Cj.cons (rDels k) (by kernel_rfl) rfl (Cj.cons (TQ k) (by kernel_rfl) rfl Cj.nil))))).map (fun p => (p.1, p.2.1, p.2.2.1, p.2.2.2.1)) (fun _ => rfl) (fun _ h => ⟨h.2.2.1, h.2.2.2.1⟩) (fun _ => K2 _)
theorem QC : ∀ k, Rd enc Tryz.prog w base spare Bl k 29 AF.flat 5 AF.sized (fun _ => 0)
 | 0 => Rd.zero
 | k + 1 => (Cj.rd Tryz.underlying29 (by kernel_rfl) (Cj.cons (SQ k) (by kernel_rfl) rfl (Cj.cons (Un k) (by kernel_rfl) rfl Cj.nil))).map (fun p => (⟨p.1, p.2.1.1, p.2.1.2.1, p.2.1.2.2.1, p.2.1.2.2.2⟩ : AF)) (fun _ => rfl) (fun _ h => ⟨h.1, h.2.1.1, h.2.1.2⟩) (fun _ => K2 _)
def AE.F (x : AE) : List SV := [AA x.kind, AA x.code, AA x.id, .str x.text, Ag x.head.props, AA x.head.ins, AA x.head.move, Aa x.head.dels, AO x.head.layers, AG x.flow, Ay x.rows]
def AR.F (x : AR) : List SV := [Ag x.head.props, AA x.head.ins, AA x.head.move, Aa x.head.dels, AO x.head.layers, BT x.cells]
def AL.F (x : AL) : List SV := [AA x.id, Ag x.head.props, AA x.head.ins, AA x.head.move, Aa x.head.dels, AO x.head.layers, AG x.flow]
def TM (N : Nat) (c : AL) : Prop := c.head.sized ∧ Ex AF.sized BB N c.flow
def Ue (N : Nat) (r : AR) : Prop := r.head.sized ∧ r.cells.length ≤ BB ∧ ∀ c ∈ r.cells, TM N c
theorem Mn : ∀ l : List AE, An l ≤ KY (fun x => x.text.size) l
 | [] => by simp [An]
 | x :: l => by
  have := Mn l
  simp only [An, KY, Y3, List.sum_cons] at this ⊢; omega
theorem Uj : ∀ k, Rd enc Tryz.prog w base spare Bl k 22 (fun l : List AE => [AG l]) 1 (fun l => ∀ N, k < N → Ex AF.sized BB N l) (KY fun x => x.text.size) := fun k => by
 induction k using Nat.strongRecOn with
 | ind k ih =>
 have cell : ∀ m, m < k → Rd enc Tryz.prog w base spare Bl m 171 AL.F 7 (fun c => ∀ N, m ≤ N → TM N c) (fun _ => 0) := fun m hm => by
  cases m with
  | zero => exact Rd.zero
  | succ m =>
   exact (Cj.rd Tryz.underlying171 (by kernel_rfl) (Cj.cons (FQ m) (by kernel_rfl) rfl (Cj.cons (QC m) (by kernel_rfl) rfl (Cj.cons (ih m (by omega)) (by kernel_rfl) rfl Cj.nil)))).map (fun p => AL.mk p.1 p.2.1 p.2.2.1) (fun _ => rfl) (fun _ h N hN => ⟨h.2.1, h.2.2.1 N (by omega)⟩) (fun _ => K2 _)
 have cells : ∀ m, m < k → Rd enc Tryz.prog w base spare Bl m 167 (fun l : List AL => [BT l]) 1 (fun l => l.length ≤ BB ∧ ∀ c ∈ l, ∀ N, m ≤ N → TM N c) (fun _ => 0) := fun m hm =>
  (DX (f := AL.enc) (F := AL.F) (ok := fun c => ∀ N, m ≤ N → TM N c) (fun c => YP c) AL.E.st Tryz.underlying167 (by kernel_rfl) (by omega) (fun q hq => (cell q (by omega)).map (fun c => c) (fun _ => rfl) (fun _ h N hN => h N (by omega)) (fun _ => JO _))).map (fun l => l) (fun _ => rfl) (fun l h => ⟨by have := DF (fun _ => 0) l; have := h.2; omega, h.1⟩) (fun _ => K2 _)
 have row : ∀ m, m < k → Rd enc Tryz.prog w base spare Bl m 169 AR.F 6 (fun r => ∀ N, m ≤ N → Ue N r) (fun _ => 0) := fun m hm => by
  cases m with
  | zero => exact Rd.zero
  | succ m =>
   exact (Cj.rd Tryz.underlying169 (by kernel_rfl) (Cj.cons (QC m) (by kernel_rfl) rfl (Cj.cons (cells m (by omega)) (by kernel_rfl) rfl Cj.nil))).map (fun p => AR.mk p.1 p.2.1) (fun _ => rfl) (fun _ h N hN => ⟨h.1, h.2.1.1, fun c hc => h.2.1.2 c hc N (by omega)⟩) (fun _ => K2 _)
 have rows : ∀ m, m < k → Rd enc Tryz.prog w base spare Bl m 68 (fun l : List AR => [Ay l]) 1 (fun l => l.length ≤ BB ∧ ∀ c ∈ l, ∀ N, m ≤ N → Ue N c) (fun _ => 0) := fun m hm =>
  (DX (f := AR.enc) (F := AR.F) (ok := fun c => ∀ N, m ≤ N → Ue N c) (fun c => Yj c) AR.E.st Tryz.underlying68 (by kernel_rfl) (by omega) (fun q hq => (row q (by omega)).map (fun c => c) (fun _ => rfl) (fun _ h N hN => h N (by omega)) (fun _ => JO _))).map (fun l => l) (fun _ => rfl) (fun l h => ⟨by have := DF (fun _ => 0) l; have := h.2; omega, h.1⟩) (fun _ => K2 _)
 have item : ∀ m, m < k → Rd enc Tryz.prog w base spare Bl m 70 AE.F 11 (fun x => ∀ N, m ≤ N → PR AF.sized BB N x) (fun x => x.text.size) := fun m hm => by
  cases m with
  | zero => exact Rd.zero
  | succ m =>
   exact (Cj.rd Tryz.underlying70 (by kernel_rfl) (Cj.cons (FQ m) (by kernel_rfl) rfl (Cj.cons (FQ m) (by kernel_rfl) rfl (Cj.cons (FQ m) (by kernel_rfl) rfl (Cj.cons (OT m) (by kernel_rfl) rfl (Cj.cons (QC m) (by kernel_rfl) rfl (Cj.cons (ih m (by omega)) (by kernel_rfl) rfl (Cj.cons (rows m (by omega)) (by kernel_rfl) rfl Cj.nil)))))))).map (fun p => AE.mk p.1 p.2.1 p.2.2.1 p.2.2.2.1 p.2.2.2.2.1 p.2.2.2.2.2.1 p.2.2.2.2.2.2.1) (fun _ => rfl)
    (fun _ h N hN => ⟨h.2.2.2.2.1, h.2.2.2.2.2.1 N (by omega), h.2.2.2.2.2.2.1.1, fun r hr => h.2.2.2.2.2.2.1.2 r hr N (by omega)⟩) (fun p => by show p.2.2.2.1.size ≤ _; omega)
 exact (DX (f := AE.enc) (F := AE.F) (ok := fun x => ∀ N, k ≤ N + 1 → PR AF.sized BB N x) (fun c => KW c) AE.E.st Tryz.underlying22 (by kernel_rfl) (by omega) (fun q hq => (item q (by omega)).map (fun c => c) (fun _ => rfl) (fun _ h N hN => h N (by omega)) (fun _ => JO _))).map (fun l => l) (fun _ => rfl) (fun l h N hN => by
  cases N with
  | zero => omega
  | succ N =>
   have h1 := DF (fun x : AE => x.text.size) l
   have h2 := Mn l
   have h3 := h.2
   exact Ds.2 ⟨by omega, by omega, fun x hx => h.1 x hx N (by omega)⟩) (fun _ => JO _)
end
section
variable {H : Type} {enc : TypeId × Value → H} {w : World} {base : Nat} {spare : Nat → Bool} {Bl : Bool} {α : Type}
def A7.F (s : A7) : List SV := [AA s.id, AA s.kind, .str s.name, AA s.base, AA s.next, Ag s.props]
theorem Uo : ∀ k, Rd enc Tryz.prog w base spare Bl k 198 A7.F 6 (fun s => s.props.length ≤ BB) (fun _ => 0)
 | 0 => Rd.zero
 | k + 1 => (Cj.rd Tryz.underlying198 (by kernel_rfl) (Cj.cons (FQ k) (by kernel_rfl) rfl (Cj.cons (FQ k) (by kernel_rfl) rfl (Cj.cons (OT k) (by kernel_rfl) rfl (Cj.cons (FQ k) (by kernel_rfl) rfl (Cj.cons (FQ k) (by kernel_rfl) rfl (Cj.cons (SQ k) (by kernel_rfl) rfl Cj.nil))))))).map
  (fun p => (⟨p.1, p.2.1, p.2.2.1, p.2.2.2.1, p.2.2.2.2.1, p.2.2.2.2.2.1⟩ : A7)) (fun _ => rfl) (fun _ h => h.2.2.2.2.2.1) (fun _ => K2 _)
def CZ.F (s : CZ) : List SV := [AA s.format, AA s.start, .str s.template, AA s.restart]
theorem Ul : ∀ k, Rd enc Tryz.prog w base spare Bl k 106 CZ.F 4 (fun s => s.template.size ≤ BB) (fun _ => 0)
 | 0 => Rd.zero
 | k + 1 => (Cj.rd Tryz.underlying106 (by kernel_rfl) (Cj.cons (FQ k) (by kernel_rfl) rfl (Cj.cons (FQ k) (by kernel_rfl) rfl (Cj.cons (OT k) (by kernel_rfl) rfl (Cj.cons (FQ k) (by kernel_rfl) rfl Cj.nil))))).map
  (fun p => (⟨p.1, p.2.1, p.2.2.1, p.2.2.2.1⟩ : CZ)) (fun _ => rfl) (fun _ h => h.2.2.1) (fun _ => K2 _)
theorem TR (k : Nat) : Rd enc Tryz.prog w base spare Bl k 101 (fun l : List CZ => [C6 l]) 1 (fun l => l.length ≤ BB ∧ ∀ r ∈ l, r.template.size ≤ BB) (fun _ => 0) :=
 (DX (f := CZ.enc) (F := CZ.F) (fun _ => rfl) CZ.E.st Tryz.underlying101 (by kernel_rfl) (by omega) (fun m _ => Ul m)).map (fun l => l) (fun _ => rfl) (fun l h => ⟨by have := DF (fun _ => 0) l; have := h.2; omega, h.1⟩) (fun _ => K2 _)
def FL.F (s : FL) : List SV := [AA s.id, C6 s.levels]
theorem rLst : ∀ k, Rd enc Tryz.prog w base spare Bl k 103 FL.F 2 (fun s => s.levels.length ≤ BB ∧ ∀ r ∈ s.levels, r.template.size ≤ BB) (fun _ => 0)
 | 0 => Rd.zero
 | k + 1 => (Cj.rd Tryz.underlying103 (by kernel_rfl) (Cj.cons (FQ k) (by kernel_rfl) rfl (Cj.cons (TR k) (by kernel_rfl) rfl Cj.nil))).map (fun p => (⟨p.1, p.2.1⟩ : FL)) (fun _ => rfl) (fun _ h => h.2.1) (fun _ => K2 _)
def Aw.F (c : Aw) : List SV := [AA c.id, AA c.parent, .str c.author, AA c.time, .str c.text, .bool c.done]
theorem SO : ∀ k, Rd enc Tryz.prog w base spare Bl k 115 Aw.F 6 (fun s => s.author.size ≤ BB ∧ s.text.size ≤ BB) (fun _ => 0)
 | 0 => Rd.zero
 | k + 1 => (Cj.rd Tryz.underlying115 (by kernel_rfl) (Cj.cons (FQ k) (by kernel_rfl) rfl (Cj.cons (FQ k) (by kernel_rfl) rfl (Cj.cons (OT k) (by kernel_rfl) rfl (Cj.cons (FQ k) (by kernel_rfl) rfl (Cj.cons (OT k) (by kernel_rfl) rfl (Cj.cons (T4 k) (by kernel_rfl) rfl Cj.nil))))))).map
  (fun p => (⟨p.1, p.2.1, p.2.2.1, p.2.2.2.1, p.2.2.2.2.1, p.2.2.2.2.2.1⟩ : Aw)) (fun _ => rfl) (fun _ h => ⟨h.2.2.1, h.2.2.2.2.1⟩) (fun _ => K2 _)
def FX.F (c : FX) : List SV := [.str c.name, .str c.value]
theorem rVar : ∀ k, Rd enc Tryz.prog w base spare Bl k 118 FX.F 2 (fun s => s.name.size ≤ BB ∧ s.value.size ≤ BB) (fun _ => 0)
 | 0 => Rd.zero
 | k + 1 => (Cj.rd Tryz.underlying118 (by kernel_rfl) (Cj.cons (OT k) (by kernel_rfl) rfl (Cj.cons (OT k) (by kernel_rfl) rfl Cj.nil))).map (fun p => (⟨p.1, p.2.1⟩ : FX)) (fun _ => rfl) (fun _ h => ⟨h.1, h.2.1⟩) (fun _ => K2 _)
theorem TS (k : Nat) : Rd enc Tryz.prog w base spare Bl k 31 (fun l : List A7 => [Ac l]) 1 (fun l => l.length ≤ BB ∧ ∀ r ∈ l, r.props.length ≤ BB) (fun _ => 0) :=
 (DX (f := A7.enc) (F := A7.F) (fun _ => rfl) A7.E.st Tryz.underlying31 (by kernel_rfl) (by omega) (fun m _ => Uo m)).map (fun l => l) (fun _ => rfl) (fun l h => ⟨by have := DF (fun _ => 0) l; have := h.2; omega, h.1⟩) (fun _ => K2 _)
theorem Um (k : Nat) : Rd enc Tryz.prog w base spare Bl k 32 (fun l : List FL => [DS l]) 1 (fun l => l.length ≤ BB ∧ ∀ s ∈ l, s.levels.length ≤ BB ∧ ∀ r ∈ s.levels, r.template.size ≤ BB) (fun _ => 0) :=
 (DX (f := FL.enc) (F := FL.F) (fun _ => rfl) FL.E.st Tryz.underlying32 (by kernel_rfl) (by omega) (fun m _ => rLst m)).map (fun l => l) (fun _ => rfl) (fun l h => ⟨by have := DF (fun _ => 0) l; have := h.2; omega, h.1⟩) (fun _ => K2 _)
theorem Qg (k : Nat) : Rd enc Tryz.prog w base spare Bl k 33 (fun l : List Aw => [BZ l]) 1 (fun l => l.length ≤ BB ∧ ∀ s ∈ l, s.author.size ≤ BB ∧ s.text.size ≤ BB) (fun _ => 0) :=
 (DX (f := Aw.enc) (F := Aw.F) (fun _ => rfl) Aw.E.st Tryz.underlying33 (by kernel_rfl) (by omega) (fun m _ => SO m)).map (fun l => l) (fun _ => rfl) (fun l h => ⟨by have := DF (fun _ => 0) l; have := h.2; omega, h.1⟩) (fun _ => K2 _)
theorem rVars (k : Nat) : Rd enc Tryz.prog w base spare Bl k 34 (fun l : List FX => [Ey l]) 1 (fun l => l.length ≤ BB ∧ ∀ s ∈ l, s.name.size ≤ BB ∧ s.value.size ≤ BB) (fun _ => 0) :=
 (DX (f := FX.enc) (F := FX.F) (fun _ => rfl) FX.E.st Tryz.underlying34 (by kernel_rfl) (by omega) (fun m _ => rVar m)).map (fun l => l) (fun _ => rfl) (fun l h => ⟨by have := DF (fun _ => 0) l; have := h.2; omega, h.1⟩) (fun _ => K2 _)
theorem Qi : ∀ k, Rd enc Tryz.prog w base spare Bl k 36 AI.flat 4 AI.sizedT (fun _ => 0)
 | 0 => Rd.zero
 | k + 1 => (Cj.rd Tryz.underlying36 (by kernel_rfl) (Cj.cons (TS k) (by kernel_rfl) rfl (Cj.cons (Um k) (by kernel_rfl) rfl (Cj.cons (Qg k) (by kernel_rfl) rfl (Cj.cons (rVars k) (by kernel_rfl) rfl Cj.nil))))).map
  (fun p => (⟨p.1, p.2.1, p.2.2.1, p.2.2.2.1⟩ : AI)) (fun _ => rfl) (fun _ h => ⟨⟨h.1.1, h.2.1.1, h.2.2.1.1, h.2.2.2.1.1, h.1.2, fun x hx => (h.2.1.2 x hx).1⟩, fun x hx => (h.2.1.2 x hx).2, h.2.2.1.2, h.2.2.2.1.2⟩) (fun _ => K2 _)
def AH.F (d : AH) : List SV := [AG d.flow] ++ d.«end».flat ++ [Aj d.revs] ++ d.settings.flat
theorem Qh : ∀ k, Rd enc Tryz.prog w base spare Bl k 38 AH.F 11 (fun d => d.sizedT BB k) (fun _ => 0)
 | 0 => Rd.zero
 | k + 1 => (Cj.rd Tryz.underlying38 (by kernel_rfl) (Cj.cons (Uj k) (by kernel_rfl) rfl (Cj.cons (QC k) (by kernel_rfl) rfl (Cj.cons (rRevs k) (by kernel_rfl) rfl (Cj.cons (Qi k) (by kernel_rfl) rfl Cj.nil))))).map
  (fun p => (⟨p.1, p.2.1, p.2.2.1, p.2.2.2.1⟩ : AH)) (fun _ => rfl) (fun _ h => ⟨h.1 _ (by omega), h.2.1, h.2.2.1.1, h.2.2.1.2, h.2.2.2.1⟩) (fun _ => K2 _)
def BD.F (s : BD) : List SV := [AA s.id, AA s.a, AA s.b]
theorem Rd.arg {k e z : Nat} {F : α → List SV} {ok : α → Prop} {μ : α → Nat} (h : Rd enc Tryz.prog w base spare Bl k e F z ok μ) {fs : Array Field} (ht : Tryz.prog.underlying e = some (.struct fs)) {r : Reach} {b0 : Nat} {v : Value} (hv : Value.okWide Tryz.prog w r b0 e v) {x : DataW H × List MemPlace}
 (hx : DataW.trod enc Tryz.prog w base spare Bl k e v.cells.toList = some x) (hb : Rows.uptoBulk x.1 ≤ BB) : ∃ a, V (RV w) (.agg (F a)) v ∧ ok a := by
 simp only [Value.okWide, ht] at hv
 obtain ⟨cs, rfl, _, _⟩ := hv
 obtain ⟨a, a1, a2, a3, a4, a5⟩ := h _ x hx hb
 refine ⟨a, ?_, a4⟩
 rw [V]
 exact ⟨cs.toList, by simp, by simpa [Value.cells] using a1, by simpa [Value.cells] using a3⟩
end
open Go.ChangeShapes Go.WideShapes Go.ChangeAt Go.RowKit
theorem kidsT : Kids Tryz.prog (· < Tryz.prog.types.size) := kids_rows (by kernel_rfl) (by kernel_rfl)
theorem fullT : ∀ t e, t < Tryz.prog.types.size → Tryz.prog.underlying t = some (.slice e) → 0 < Tryz.prog.cellsOf e := slices_full_of Tryz.prog (by kernel_rfl)
section
variable {H : Type} {enc : TypeId × Value → H}
theorem QT {W : World} {c' : Cx} (x : Dc (RV W) c') {b : Nat} (h : b < W.heap.size) : c'.w.heap[b]? = W.heap[b]? := (x.keep b h (fun h => h)).2
theorem Nt {P : Program} {w w' : World} {base : Nat} {sp : Nat → Bool} {Bl : Bool} (hw : ∀ b, b < w.heap.size → w'.heap[b]? = w.heap[b]?) : ∀ {ts : List TypeId} {vs : List Value} {ds : List (DataW H)} {ps : List MemPlace}, DataW.TrodAll enc P w base sp Bl ts vs ds ps → (∀ p ∈ ps, p.block < w.heap.size) → DataW.TrodAll enc P w' base sp Bl ts vs ds ps
 | [], [], [], _, h, _ => h
 | _ :: _, _ :: _, _ :: _, _, ⟨p, q, ⟨n, h1⟩, h2, e⟩, hs => by
  have hp : ∀ x ∈ p, w.sameAt w' x := fun x hx => by
   have hb := hs x (by rw [e]; exact Z6 _ hx)
   cases x with
   | cell b off => simp only [World.sameAt, World.cell?, hw b hb]
   | map b => exact hw b hb
  exact ⟨p, q, ⟨n, DataW.trod_carry n _ _ _ h1 hp⟩, Nt hw h2 (fun x hx => hs x (by rw [e]; exact Z4 _ hx)), e⟩
theorem PW {f : Func} {s : ChangeSpec} {apart fresh handsOn again : Bool} {W W' : World} {args : Array Value} {v : Value} {ds gs : List (DataW H)} {before : List MemPlace} {x : DataW H}
 (hW : DataW.Whole enc Tryz.prog f.params.toList s.vars apart W args.toList ds gs before) (hv : s.vars = []) (hpt : ∀ t ∈ f.params.toList, t < Tryz.prog.types.size)
 (hos : W'.os = W.os) (hout : W'.output = W.output) (hw : ∀ b, b < W.heap.size → W'.heap[b]? = W.heap[b]?)
 (hfn : s.fn H (ds ++ gs) = { results := [x], args := ds })
 (hres : ∀ (b : Nat) (sp : Nat → Bool) (hd : Bool), DataW.TrodAll enc Tryz.prog W' b sp hd f.resultTypes.toList (v.resultList f.resultTypes.size) [x] [])
 (hok : ∀ (j : Nat) (t : TypeId) (r : Value), f.resultTypes[j]? = some t → (v.resultList f.resultTypes.size)[j]? = some r → Value.okWide Tryz.prog W' .any 0 t r) :
 s.post enc Tryz.prog f apart fresh handsOn again W args v W' := by
 have hlt := hW.lt
 have hW2 := hW
 obtain ⟨p, q, h1, h2, rfl, hz, hn⟩ := hW
 rw [hv] at h2
 obtain ⟨rfl, rfl⟩ := trodVars_none h2
 rw [Zf] at hlt hz hn hW2
 have c1 := Nt hw h1 hlt
 have c2 : ∀ sp : Nat → Bool, (∀ x ∈ p, sp x.block = true) → DataW.TrodAll enc Tryz.prog W' 0 sp true f.params.toList args.toList ds p := fun sp hs => DataW.TrodAll.respare kidsT fullT hpt c1 hs
 have hvars : ∀ sp : Nat → Bool, DataW.TrodVars enc Tryz.prog W' sp s.vars [] [] := fun sp => by rw [hv]; rfl
 refine ⟨ds, [], p, [], p, [], hW2, by rw [hfn]; exact hres _ _ _, by rw [hfn]; exact c2 _ (fun x hx => by simpa using hlt x hx), by rw [hfn]; exact hvars _, ?_, fun _ => ?_⟩
 · refine ⟨hos, hout, fun i hi => ?_⟩
   rw [hw i hi]
   generalize W.heap[i]? = o
   cases o with
   | none => rfl
   | some b => cases b <;> simp
 · refine ⟨hok, x :: ds, [], p, ⟨p, [], by simpa using trodAll_append (c2 _ (fun _ _ => rfl)) (hres 0 (fun _ => true) true), hvars _, by simp, ?_, hn⟩, fun x hx _ => hx⟩
   intro b off hp
   have hb := hlt _ hp
   have := hz b off hp
   simp only [World.frozen?] at this ⊢
   rw [hw b hb]; exact this
theorem rel0 (W : World) : B5 (fun _ => none) (RV W) := ⟨fun _ _ h => (by cases h), fun _ _ _ _ _ h => (by cases h), fun b => ⟨fun h => h.elim, fun ⟨_, _, h, _⟩ => (by cases h)⟩⟩
theorem PC.calls {f : FuncId} {a : List SV} {v : SV} (h : PC f a v) {W : World} {vs : List Value} (hv : AY (V (RV W)) a vs) : Calls Tryz.prog f vs.toArray W fun e W' => ∃ u c', e = .returned u ∧ c'.w = W' ∧ V c' v u ∧ Dc (RV W) c' := by
 have := (h (fun _ => none) 0).2 (RV W) vs trivial (rel0 W) (fun _ _ => rfl) hv
 refine this.mono ?_
 rintro e W' ⟨u, v', h', n', c', rfl, ⟨rfl, _⟩, hw, hV, _, _, hA⟩
 exact ⟨u, c', rfl, hw, hV, hA.ext⟩
end
end Go.Proofs.YtgakninlhfkkmaaGreat.Sh
namespace Go.Proofs.YtgakninlhfkkmaaGreat.Sh
open Proofs
set_option maxRecDepth 10000
abbrev Qe (b : Bool) : Nat := if b then 1 else 0
mutual
def AE.wt (u : AF → Bool) : AE → List Nat
 | .mk k _ _ t h f r => if k = 1 then List.replicate (if Bd t then BH t t.size else 0) (Qe (u h)) else [Qe (u h) + (if k = 6 then AE.wts u f else 0) + (if k = 7 then AR.wts u r else 0)]
def AE.wts (u : AF → Bool) : List AE → Nat
 | [] => 0
 | x :: l => (AE.wt u x).sum + AE.wts u l
def AR.wt (u : AF → Bool) : AR → Nat
 | .mk h c => Qe (u h) + AL.wts u c
def AR.wts (u : AF → Bool) : List AR → Nat
 | [] => 0
 | x :: l => AR.wt u x + AR.wts u l
def AL.wt (u : AF → Bool) : AL → Nat
 | .mk _ h f => Qe (u h) + AE.wts u f
def AL.wts (u : AF → Bool) : List AL → Nat
 | [] => 0
 | x :: l => AL.wt u x + AL.wts u l
end
section
variable (u : AF → Bool)
def val (x : AE) : Prop := Bd x.text = true ∧ (x.kind = 7 → x.rows ≠ [])
theorem HW {l : List AR} (h : ∀ r ∈ l, r.cells ≠ []) : (l.map AR.nrm).filter (fun r => !decide (r.cells.length = 0)) = l.map AR.nrm := by
 rw [YU]
 intro r hr
 obtain ⟨r0, h0, rfl⟩ := Y5.1 hr
 have er : (AR.nrm r0).cells = r0.cells.map AL.nrm := by cases r0; rw [AR.nrm, Xu]; rfl
 rw [er, Kj]
 have := Y2.2 (h r0 h0)
 simp; intro e; rw [e] at this; simp at this
end
section
variable (u : AF → Bool) (w : Bool) (it : Int → List AE → Bool → Nat) (mid : Bool)
end
section
variable (u : AF → Bool) (w : Bool) (sc : BD)
end
abbrev wr (x : Int) : Int := IntKind.i64.wrap x
section
variable (rev : Int) (sc : BD)
end
section
variable (g : Bool → AF → AF) (sc : BD)
def gF (s : Unit) (p : B6) : AF × Bool × Unit := (g p.mid p.head, true, s)
def Ui (it : Int → List AE → Bool → Unit → List AE × Unit) (mid : Bool) (c : AL) : AL := .mk c.id (g mid c.head) (it c.id c.flow mid ()).1
def SL (it : Int → List AE → Bool → Unit → List AE × Unit) (mid : Bool) (r : AR) : AR := .mk (g mid r.head) (r.cells.map (Ui g it mid))
def SK (it : Int → List AE → Bool → Unit → List AE × Unit) (mid : Bool) (x : AE) : AE := x.put (g mid x.head) (if x.kind = 6 then (it x.id x.flow mid ()).1 else x.flow) (if x.kind = 7 then x.rows.map (SL g it mid) else x.rows)
theorem GE {α β : Type} (f : α → β) (st : List β × Unit → α → List β × Unit) : ∀ (l : List α) (q : List β × Unit), (∀ x ∈ l, ∀ q, (st q x).1 = q.1 ++ [f x]) → (l.foldl st q).1 = q.1 ++ l.map f
 | [], q, _ => by simp
 | x :: l, q, h => by rw [YO, GE f st l _ fun y hy => h y (by simp [hy]), h x (by simp)]; simp
theorem Gk (it : Int → List AE → Bool → Unit → List AE × Unit) (mid : Bool) (l : List AE) : (Bi (gF g) it mid l ()).1 = l.map (SK g it mid) := by
 unfold Bi
 rw [GE (SK g it mid) _ l _ fun x hx q => ?_]; simp
 simp only [DV, gF, if_true, SK, DD]
 by_cases k6 : x.kind = 6
 · simp [k6]
 · by_cases k7 : x.kind = 7
   · simp only [k7, show ¬ (7 : Int) = 6 by decide, if_true, if_false]
     congr 3
     unfold JR
     rw [GE (SL g it mid) _ _ _ fun r hr q => ?_]; simp
     simp only [Fm, gF, if_true, SL]
     congr 3
     unfold GC
     rw [GE (Ui g it mid) _ _ _ fun c hc q => ?_]; simp
     simp only [Ed, gF, if_true, Ui]
   · simp [k6, k7]
end
section
variable (g : Bool → AF → AF) (sc : BD) (u : AF → Bool)
end
section
variable (g : Bool → AF → AF) (sc : BD)
variable (u v : AF → Bool) (w : Bool)
end
def LL (hp : AF → Prop) (L T : Nat) : Nat → List AE → Prop
 | 0, _ => False
 | N + 1, l => l.length ≤ L ∧ An l ≤ T ∧ ∀ x ∈ l, hp x.head ∧ LL hp L T N x.flow ∧ x.rows.length ≤ L ∧ ∀ r ∈ x.rows, hp r.head ∧ r.cells.length ≤ L ∧ ∀ c ∈ r.cells, hp c.head ∧ LL hp L T N c.flow
section
variable {hp hp' : AF → Prop} (g : Bool → AF → AF) (sc : BD)
end
theorem P0 {l : List BS} {i : Nat} (h : i < l.length) : Gr l i ∈ l := by
 have : Gr l i = l[i] := by simp [Gr, List.getD, h]
 rw [this]; exact Kn h
theorem Q4 {l : List BS} {j : Nat} (h : j + 1 < l.length) (x : BS) : x ∈ Hu l j ↔ x ∈ l := by
 have e1 : Gr l j = l[j] := by simp [Gr, List.getD, show j < l.length by omega]
 have e2 : Gr l (j + 1) = l[j + 1] := by simp [Gr, List.getD, h]
 unfold Hu
 have d1 : l.getD j U7 = l[j] := e1
 have d2 : l.getD (j + 1) U7 = l[j + 1] := e2
 constructor
 · intro hx
   rcases List.mem_or_eq_of_mem_set hx with hx | rfl
   · rcases List.mem_or_eq_of_mem_set hx with hx | rfl
     · exact hx
     · exact P0 (by omega)
   · exact P0 h
 · intro hx
   obtain ⟨i, hi, rfl⟩ := YZ.1 hx
   rw [List.mem_iff_getElem?]
   by_cases c1 : i = j
   · subst c1
     exact ⟨i + 1, by rw [List.getElem?_set_ne (by omega), List.getElem?_set_self (by omega)]; exact congrArg some e1⟩
   · by_cases c2 : i = j + 1
     · subst c2
       exact ⟨j, by rw [List.getElem?_set_self (by rw [List.length_set]; omega)]; exact congrArg some e2⟩
     · exact ⟨i, by rw [List.getElem?_set_ne (by omega), List.getElem?_set_ne (by omega)]; simp [hi]⟩
theorem Mj : ∀ (j : Nat) {l : List BS}, j < l.length → ∀ x, x ∈ Em l j ↔ x ∈ l
 | 0, _, _, x => by rw [Em]
 | j + 1, l, h, x => by
  rw [Em]
  split
  · rw [Mj j (by rw [J5]; omega), Q4 h]
  · rfl
theorem Fy (l : List BS) : ∀ i, i ≤ l.length → ∀ x, x ∈ CS l i ↔ x ∈ l
 | 0, _, x => by rw [CS]
 | i + 1, h, x => by rw [CS, Mj i (by rw [Fx]; omega), Fy l i (by omega)]
section
variable {m2 : List Int} {rev nx : Int}
theorem SS {h : AF} {r : Int} : (∃ d ∈ (Ci (fun y => y == rev) nx h).dels, d.rev = r) ↔ ∃ d ∈ h.dels, (if d.rev = rev then nx else d.rev) = r := by
 have e : (Ci (fun y => y == rev) nx h).dels = CS (h.dels.map (BM (fun y => y == rev) nx)) h.dels.length := rfl
 rw [e]
 constructor
 · rintro ⟨d, hd, hr⟩
   rw [Fy _ _ (by rw [Kj]; exact JO _)] at hd
   obtain ⟨d0, h0, rfl⟩ := Y5.1 hd
   exact ⟨d0, h0, by simpa [BM, FF] using hr⟩
 · rintro ⟨d, hd, hr⟩
   exact ⟨BM (fun y => y == rev) nx d, (Fy _ _ (by rw [Kj]; exact JO _) _).2 (ZI hd), by simpa [BM, FF] using hr⟩
theorem Pc {h : AF} {r : Int} : (∃ d ∈ (Ci (fun y => y == rev) nx h).layers, d.rev = r) ↔ ∃ d ∈ h.layers, (if d.rev = rev then nx else d.rev) = r := by
 have e : (Ci (fun y => y == rev) nx h).layers = h.layers.map (BE (fun y => y == rev) nx) := rfl
 rw [e]
 constructor
 · rintro ⟨d, hd, hr⟩
   obtain ⟨d0, h0, rfl⟩ := Y5.1 hd
   exact ⟨d0, h0, by simpa [BE, FF] using hr⟩
 · rintro ⟨d, hd, hr⟩
   exact ⟨BE (fun y => y == rev) nx d, ZI hd, by simpa [BE, FF] using hr⟩
theorem TW {h : AF} : (Ci (fun y => y == rev) nx h).ins = if h.ins ≠ 0 ∧ h.ins = rev then nx else h.ins := by
 have e : (Ci (fun y => y == rev) nx h).ins = DT (fun y => y == rev) nx h.ins := rfl
 rw [e, DT]; simp
theorem ST {h : AF} (H : KH m2 h) : KH (nx :: m2) (Ci (fun y => y == rev) nx h) := by
 obtain ⟨Hs, H⟩ := H
 have e : (Ci (fun y => y == rev) nx h).dels = CS (h.dels.map (BM (fun y => y == rev) nx)) h.dels.length := rfl
 have l1 : (Ci (fun y => y == rev) nx h).dels.length = h.dels.length := by rw [e, Fx, Kj]
 have l2 : (Ci (fun y => y == rev) nx h).layers.length = h.layers.length := Kj _
 refine ⟨⟨Hs.props, by rw [l1]; exact Hs.dels, by rw [l2]; exact Hs.layers⟩, ⟨?_, by rw [l1]; exact H.dlen, fun x hx => ?_, by rw [l2]; exact H.llen, fun x hx => ?_⟩⟩
 · rw [TW]
   split
   · exact .inr (by simp)
   · rcases H.ins with e | e
     · exact .inl e
     · exact .inr (by simp [e])
 · obtain ⟨d, h1, h2⟩ := (SS (h := h) (rev := rev) (nx := nx)).1 ⟨x, hx, rfl⟩
   rw [← h2]; split
   · simp
   · simp [H.dels d h1]
 · obtain ⟨d, h1, h2⟩ := (Pc (h := h) (rev := rev) (nx := nx)).1 ⟨x, hx, rfl⟩
   rw [← h2]; split
   · simp
   · simp [H.layers d h1]
end
section
variable (g : Bool → AF → AF) (sc : BD)
end
theorem Ki {c : Nat → Int} {k n : Nat} (h1 : ∀ m, m < k → c m < 0) (h2 : ∀ m, k ≤ m → m < n → ¬ c m < 0) : ∀ (d i j : Nat), j - i ≤ d → i ≤ k → k ≤ j → j ≤ n → E8 c i j = k
 | d, i, j, hd, hi, hj, hn => by
  rw [E8]
  split
  · rename_i hij
    cases d with
    | zero => omega
    | succ d =>
     split
     · rename_i hc
       refine Ki h1 h2 d _ j (by omega) ?_ hj hn
       rcases Yr ((i + j) / 2) k with h | h
       · omega
       · exact absurd hc (h2 _ h (by omega))
     · rename_i hc
       refine Ki h1 h2 d i _ (by omega) hi ?_ (by omega)
       rcases Yr ((i + j) / 2) k with h | h
       · exact absurd (h1 _ h) hc
       · exact h
  · omega
theorem Nr {f : Nat → Int} {n : Nat} {x : Int} (hs : ∀ i j, i ≤ j → j < n → f i ≤ f j) (hx : ∃ j, j < n ∧ f j = x) {c : Nat → Int} (hc : ∀ i, i < n → (c i < 0 ↔ f i < x) ∧ (c i = 0 ↔ f i = x)) : (A8 c n).2 = true := by
 obtain ⟨j, hj, hfj⟩ := hx
 have key : ∀ j, j < n → x ≤ f j → ∃ k, k ≤ j ∧ x ≤ f k ∧ ∀ m, m < k → f m < x := by
  intro j
  induction j with
  | zero => intro _ h; exact ⟨0, JO _, h, fun m hm => by omega⟩
  | succ j ih =>
   intro hj h
   by_cases hc : x ≤ f j
   · obtain ⟨k, k1, k2, k3⟩ := ih (by omega) hc
     exact ⟨k, by omega, k2, k3⟩
   · exact ⟨j + 1, JO _, h, fun m hm => by have := hs m j (by omega) (by omega); omega⟩
 obtain ⟨k, k1, k2, k3⟩ := key j hj (by omega)
 have hk : k < n := by omega
 have e : f k = x := by have := hs k j k1 hj; omega
 have hg : E8 c 0 n = k := Ki (fun m hm => (hc m (by omega)).1.2 (k3 m hm)) (fun m h1 h2 => by rw [(hc m h2).1]; have := hs k m h1 h2; omega) n 0 n (by omega) (K2 _) (by omega) (JO _)
 unfold A8
 rw [hg]
 simp only [decide_eq_true_eq]
 exact ⟨hk, (hc k hk).2.2 e⟩
theorem PT {U : List Int} (hs : U.Pairwise (· ≤ ·)) {x : Int} (hx : x ∈ U) : (A8 (Ig U x) U.length).2 = true := by
 obtain ⟨j, hj, e⟩ := YZ.1 hx
 refine Nr (f := fun i => U.getD i 0) (x := x) (fun i k hik hk => ?_) ⟨j, hj, by simp [hj, e]⟩ fun i hi => ?_
 · have h1 : U.getD i 0 = U[i]'(by omega) := by simp [List.getD, show i < U.length by omega]
   have h2 : U.getD k 0 = U[k] := by simp [List.getD, hk]
   rw [h1, h2]
   rcases Yr i k with h | h
   · exact Z1.1 hs i k (by omega) hk h
   · have : i = k := by omega
     subst this; omega
 · have h1 : U.getD i 0 = U[i] := by simp [List.getD, hi]
   rw [h1]
   unfold Ig
   rw [Y1 hi]
   dsimp only
   by_cases c1 : U[i] < x
   · rw [if_pos c1]; omega
   · rw [if_neg c1]
     by_cases c2 : U[i] = x
     · rw [if_pos c2]; omega
     · rw [if_neg c2]; omega
theorem Ou {d : AH} {x : Int} (h0 : x ≠ 0) (hx : x ∈ AE.usL d.flow ++ d.«end».all) : (A8 (Ig (Fe d) x) (Fe d).length).2 = true := by
 refine PT ?_ ?_
 · unfold Fe Co
   have := Xr (le := fun x y : Int => decide (x ≤ y)) (fun a b c h1 h2 => by simp at *; omega) (fun a b => by simp; omega) ((Bb [] (AE.usL d.flow ++ d.«end».all)).filter fun x => decide (x ≠ 0))
   exact this.imp fun h => by simpa using h
 · unfold Fe Co
   rw [List.mem_mergeSort, Z0]
   exact ⟨(HQ x _ _).2 (.inr hx), by simpa using h0⟩
theorem Hl {L : List Av} (h : CU L = 0) : ∀ i j, (hij : i < j) → (hj : j < L.length) → (L[i]'(by omega)).id < L[j].id := by
 have hl : ¬ 256 < L.length := fun g => by rw [CU, if_pos g] at h; cases h
 rw [CU, if_neg hl] at h
 have step : ∀ i, (hi : i + 1 < L.length) → (L[i]'(by omega)).id < L[i + 1].id := fun i hi => by
  have := Jc h (i + 1) hi
  unfold Ek at this
  rw [Y1 hi, Nat.add_sub_cancel, Y1 (show i < L.length by omega)] at this
  dsimp only at this
  by_cases e : CN L[i + 1] = 0
  · rw [if_pos e, if_neg (by omega)] at this
    unfold GD at this
    by_cases c1 : L[i + 1].id < (L[i]'(by omega)).id
    · simp [c1] at this
    · by_cases c2 : (L[i]'(by omega)).id < L[i + 1].id
      · exact c2
      · simp [c1, c2] at this
  · rw [if_neg e] at this; exact absurd this e
 intro i j
 induction j with
 | zero => intro hij; omega
 | succ j ih =>
  intro hij hj
  rcases Yr i j with g | g
  · have := ih g (by omega); have := step j hj; omega
  · have : i = j := by omega
    subst this; exact step i hj
theorem Im {L : List Av} {id : Int} (h : ∃ r ∈ L, r.id = id) : (BG L id).2 = true := by
 unfold BG
 by_cases hc : CU L = 0
 · rw [if_pos hc]
   have hs := Hl hc
   obtain ⟨r, hr, e⟩ := h
   obtain ⟨j, hj, e2⟩ := YZ.1 hr
   have : (A8 (Fb L id) L.length).2 = true := by
    have g : ∀ i, (hi : i < L.length) → (L.getD i GK).id = L[i].id := fun i hi => by simp [List.getD, hi]
    refine Nr (f := fun i => (L.getD i GK).id) (x := id) (fun i k hik hk => ?_) ⟨j, hj, by rw [g j hj, e2, e]⟩ fun i hi => ?_
    · rw [g i (by omega), g k hk]
      rcases Yr i k with q | q
      · have := hs i k q hk; omega
      · have : i = k := by omega
        subst this; omega
    · rw [g i hi]
      unfold Fb GD
      rw [Y1 hi]
      dsimp only
      by_cases c1 : L[i].id < id
      · rw [if_pos c1]; omega
      · rw [if_neg c1]
        by_cases c2 : id < L[i].id
        · rw [if_pos c2]; omega
        · rw [if_neg c2]; omega
   rw [if_pos this]
 · rw [if_neg hc]
   obtain ⟨r, hr, e⟩ := h
   induction L with
   | nil => cases hr
   | cons a L ih =>
    clear hc
    have : ∀ L : List Av, r ∈ L → (GJ id L).2 = true := fun L => by
     induction L with
     | nil => intro h; cases h
     | cons b L ih =>
      intro h
      rw [GJ]
      split
      · rfl
      · rename_i hb
        rcases Y0.1 h with rfl | h
        · exact absurd e hb
        · exact ih h
    exact this _ hr
def zD : AH := ⟨[], z0, [], Ew⟩
theorem G0 (n : Nat) (E : AH) (e : Int) : closed n (.tup [E.enc, AA e]) = true := by
 simp [AH.enc, AF.flat, AI.flat, closed, closedL, AE.E.closedL, Eu.E.closedL, BS.E.closedL, Az.E.closedL, Av.E.closedL, A7.E.closedL, FL.E.closedL, Aw.E.closedL, FX.E.closedL]
section
variable (u : AF → Bool) (w : Bool) (sc : BD)
end
def gR (rev nx : Int) (mid : Bool) (h : AF) : AF := if mid then Ci (fun y => y == rev) nx h else h
theorem Oa {r : Av} (h : CN r = 0) : 1 ≤ r.id := by
 unfold CN at h
 split at h
 · cases h
 · omega
mutual
def AE.mh (g : AF → AF) : AE → AE
 | .mk k c i t h f r => .mk k c i t (g h) (AE.mhL g f) (AR.mhL g r)
def AE.mhL (g : AF → AF) : List AE → List AE
 | [] => []
 | x :: l => AE.mh g x :: AE.mhL g l
def AR.mh (g : AF → AF) : AR → AR
 | .mk h c => .mk (g h) (AL.mhL g c)
def AR.mhL (g : AF → AF) : List AR → List AR
 | [] => []
 | x :: l => AR.mh g x :: AR.mhL g l
def AL.mh (g : AF → AF) : AL → AL
 | .mk i h f => .mk i (g h) (AE.mhL g f)
def AL.mhL (g : AF → AF) : List AL → List AL
 | [] => []
 | x :: l => AL.mh g x :: AL.mhL g l
end
section
variable (g : AF → AF)
theorem AE.mhL_eq : ∀ l : List AE, AE.mhL g l = l.map (AE.mh g)
 | [] => by rw [AE.mhL]; rfl
 | x :: l => by rw [AE.mhL, AE.mhL_eq l]; rfl
theorem AR.mhL_eq : ∀ l : List AR, AR.mhL g l = l.map (AR.mh g)
 | [] => by rw [AR.mhL]; rfl
 | x :: l => by rw [AR.mhL, AR.mhL_eq l]; rfl
theorem AL.mhL_eq : ∀ l : List AL, AL.mhL g l = l.map (AL.mh g)
 | [] => by rw [AL.mhL]; rfl
 | x :: l => by rw [AL.mhL, AL.mhL_eq l]; rfl
theorem AE.mh_eq (x : AE) : AE.mh g x = .mk x.kind x.code x.id x.text (g x.head) (AE.mhL g x.flow) (x.rows.map (AR.mh g)) := by cases x; rw [AE.mh, AR.mhL_eq]; rfl
theorem AR.mh_eq (x : AR) : AR.mh g x = .mk (g x.head) (x.cells.map (AL.mh g)) := by cases x; rw [AR.mh, AL.mhL_eq]; rfl
theorem AL.mh_eq (x : AL) : AL.mh g x = .mk x.id (g x.head) (AE.mhL g x.flow) := by cases x; rw [AL.mh]; rfl
end
theorem AE.nrm_eq (x : AE) : AE.nrm x = .mk x.kind x.code x.id x.text x.head (AP x.flow) ((x.rows.map AR.nrm).filter fun r => !decide (r.cells.length = 0)) := by cases x; rw [AE.nrm, AR.nrmL_eq]; rfl
theorem AR.nrm_eq (x : AR) : AR.nrm x = .mk x.head (x.cells.map AL.nrm) := by cases x; rw [AR.nrm, Xu]; rfl
theorem AL.nrm_eq (x : AL) : AL.nrm x = .mk x.id x.head (AP x.flow) := by cases x; rw [AL.nrm]; rfl
def wf (hp : AF → Prop) (T : Int → Prop) : Nat → List AE → Prop
 | 0, _ => False
 | N + 1, l => ∀ x ∈ l, hp x.head ∧ (x.kind ≠ 6 → x.flow = []) ∧ (x.kind ≠ 7 → x.rows = []) ∧ (x.kind = 7 → x.rows ≠ []) ∧ (x.kind = 6 → T x.id) ∧ wf hp T N x.flow ∧ ∀ r ∈ x.rows, hp r.head ∧ r.cells ≠ [] ∧ ∀ c ∈ r.cells, T c.id ∧ hp c.head ∧ wf hp T N c.flow
structure wfI (hp : AF → Prop) (T : Int → Prop) (N : Nat) (x : AE) : Prop where
 head : hp x.head
 k6 : x.kind ≠ 6 → x.flow = []
 k7 : x.kind ≠ 7 → x.rows = []
 ne : x.kind = 7 → x.rows ≠ []
 id : x.kind = 6 → T x.id
 flow : wf hp T N x.flow
 rows : ∀ r ∈ x.rows, hp r.head ∧ r.cells ≠ [] ∧ ∀ c ∈ r.cells, T c.id ∧ hp c.head ∧ wf hp T N c.flow
section
variable {hp hp' : AF → Prop} {T T' : Int → Prop}
theorem Et {N : Nat} {l : List AE} : wf hp T (N + 1) l ↔ ∀ x ∈ l, wfI hp T N x :=
 ⟨fun H x hx => let ⟨a, b, c, d, e, f, g⟩ := H x hx; ⟨a, b, c, d, e, f, g⟩, fun H x hx => let ⟨a, b, c, d, e, f, g⟩ := H x hx; ⟨a, b, c, d, e, f, g⟩⟩
theorem Sk {g : AF → AF} (hg : ∀ x, hp x → hp' (g x)) : ∀ {N : Nat} {l : List AE}, wf hp T N l → wf hp' T N (AE.mhL g l)
 | 0, _, h => h.elim
 | N + 1, l, H => Et.2 fun y hy => by
  rw [AE.mhL_eq] at hy
  obtain ⟨x, hx, rfl⟩ := Y5.1 hy
  obtain ⟨a, b, c, d, e, f, q⟩ := Et.1 H x hx
  rw [AE.mh_eq]
  refine ⟨hg _ a, fun k => ?_, fun k => ?_, fun k => ?_, e, Sk hg f, fun r hr => ?_⟩
  · show AE.mhL g x.flow = []
    rw [b k, AE.mhL]
  · show x.rows.map _ = []
    rw [c k]; rfl
  · show x.rows.map _ ≠ []
    simpa using d k
  · obtain ⟨r0, h0, rfl⟩ := Y5.1 hr
    obtain ⟨u, v, w⟩ := q r0 h0
    rw [AR.mh_eq]
    refine ⟨hg _ u, by show r0.cells.map _ ≠ []; simpa using v, fun c hc => ?_⟩
    obtain ⟨c0, h1, rfl⟩ := Y5.1 hc
    obtain ⟨u1, u2, u3⟩ := w c0 h1
    rw [AL.mh_eq]
    exact ⟨u1, hg _ u2, Sk hg u3⟩
theorem Sj {N : Nat} (x : AE) (t : ByteArray) (H : wfI hp T N x) : wfI hp T N (.mk x.kind x.code x.id t x.head x.flow x.rows) := by
 obtain ⟨a, b, c, d, e, f, g⟩ := H; exact ⟨a, b, c, d, e, f, g⟩
theorem J7 : ∀ {N : Nat} {l : List AE}, wf hp T N l → wf hp T N (AP l)
 | 0, _, h => h.elim
 | N + 1, l, H => by
  rw [Et] at H ⊢
  unfold AP DK
  rw [Zm]
  refine Ge (p := wfI hp T N) Sj _ _ (fun y hy => by cases hy) fun y hy => ?_
  obtain ⟨x, hx, rfl⟩ := Y5.1 hy
  obtain ⟨a, b, c, d, e, f, q⟩ := H x hx
  have hr := HW fun r hr => (q r hr).2.1
  rw [AE.nrm_eq, hr]
  refine ⟨a, fun k => ?_, fun k => ?_, fun k => ?_, e, J7 f, fun r hr => ?_⟩
  · show AP x.flow = []
    rw [b k]; rfl
  · show x.rows.map _ = []
    rw [c k]; rfl
  · show x.rows.map _ ≠ []
    simpa using d k
  · obtain ⟨r0, h0, rfl⟩ := Y5.1 hr
    obtain ⟨u, v, w⟩ := q r0 h0
    rw [AR.nrm_eq]
    refine ⟨u, by show r0.cells.map _ ≠ []; simpa using v, fun c hc => ?_⟩
    obtain ⟨c0, h1, rfl⟩ := Y5.1 hc
    obtain ⟨u1, u2, u3⟩ := w c0 h1
    rw [AL.nrm_eq]
    exact ⟨u1, u2, J7 u3⟩
theorem U4 (N : Nat) : wf hp T (N + 1) [] := fun x hx => by cases hx
theorem Sl {m2 : List Int} {K : Nat} : ∀ {N : Nat} {l : List AE}, QA m2 N l → Ex hp K N l → (∀ i ∈ Jk N l, T i) → wf (fun h => hp h ∧ DC m2 h) T N l
 | 0, _, _, h, _ => h.elim
 | N + 1, l, hk, hl, hT => Et.2 fun x hx => by
  obtain ⟨⟨f6, f7, _⟩, k1, hf, hr7, hr⟩ := hk x hx
  obtain ⟨l1, l2, _, l4⟩ := hl.2.2 x hx
  have hI : ∀ i ∈ IF N x, T i := fun i hi => hT i (by rw [MP]; exact Xn.2 ⟨x, hx, hi⟩)
  have nil : wf (fun h => hp h ∧ DC m2 h) T N [] := by
   cases N with
   | zero => exact l2.elim
   | succ N => exact U4 N
  refine ⟨⟨l1, k1⟩, f6, f7, hr7, fun k => hI _ (by simp [IF, k]), ?_, fun r hr1 => ?_⟩
  · by_cases k6 : x.kind = 6
    · exact Sl hf l2 fun i hi => hI i (by simp [IF, k6, hi])
    · rw [f6 k6]; exact nil
  · by_cases k7 : x.kind = 7
    · refine ⟨⟨(l4 r hr1).1, (hr r hr1).1.1⟩, (hr r hr1).1.2, fun c hc => ?_⟩
      have hc2 : ∀ i, i = c.id ∨ i ∈ Jk N c.flow → T i := fun i hi => hI i (by
       simp only [IF, k7, show ¬ (7 : Int) = 6 by decide, if_false, if_true]
       refine List.mem_cons_of_mem _ (Xn.2 ⟨r, hr1, Xn.2 ⟨c, hc, Y0.2 hi⟩⟩))
      exact ⟨hc2 _ (.inl rfl), ⟨((l4 r hr1).2.2 c hc).1, ((hr r hr1).2 c hc).1⟩, Sl ((hr r hr1).2 c hc).2 ((l4 r hr1).2.2 c hc).2 fun i hi => hc2 i (.inr hi)⟩
    · rw [f7 k7] at hr1; cases hr1
theorem NE {g g' : AF → AF} (hb : ∀ x, hp x → g' (g x) = x) : ∀ {N : Nat} {l : List AE}, wf hp T N l → AE.mhL g' (AE.mhL g l) = l
 | 0, _, h => h.elim
 | N + 1, l, H => by
  rw [AE.mhL_eq, AE.mhL_eq, YW]
  conv => rhs; rw [← Za l]
  refine Ya fun x hx => ?_
  obtain ⟨a, b, c, d, e, f, q⟩ := Et.1 H x hx
  have h1 := NE hb f
  have h2 : (x.rows.map (AR.mh g)).map (AR.mh g') = x.rows := by
   rw [YW]
   conv => rhs; rw [← Za x.rows]
   refine Ya fun r hr => ?_
   obtain ⟨u, v, w⟩ := q r hr
   have h3 : (r.cells.map (AL.mh g)).map (AL.mh g') = r.cells := by
    rw [YW]
    conv => rhs; rw [← Za r.cells]
    refine Ya fun c hc => ?_
    obtain ⟨_, u2, u3⟩ := w c hc
    have h4 := NE hb u3
    have h5 := hb _ u2
    cases c
    simp only [Function.comp, AL.mh_eq, AL.id, AL.head, AL.flow, id] at h4 h5 ⊢
    rw [h4, h5]
   have h6 := hb _ u
   cases r
   simp only [Function.comp, AR.mh_eq, AR.head, AR.cells, id] at h3 h6 ⊢
   rw [h3, h6]
  have h7 := hb _ a
  cases x
  simp only [Function.comp, AE.mh_eq, AE.kind, AE.code, AE.id, AE.text, AE.head, AE.flow, AE.rows, id] at h1 h2 h7 ⊢
  rw [h1, h2, h7]
theorem LN {g g' : AF → AF} (hb : ∀ x, hp x → g x = g' x) : ∀ {N : Nat} {l : List AE}, wf hp T N l → AE.mhL g l = AE.mhL g' l
 | 0, _, h => h.elim
 | N + 1, l, H => by
  rw [AE.mhL_eq, AE.mhL_eq]
  refine Ya fun x hx => ?_
  obtain ⟨a, b, c, d, e, f, q⟩ := Et.1 H x hx
  rw [AE.mh_eq, AE.mh_eq, hb _ a, LN hb f]
  congr 1
  refine Ya fun r hr => ?_
  obtain ⟨u, v, w⟩ := q r hr
  rw [AR.mh_eq, AR.mh_eq, hb _ u]
  congr 1
  refine Ya fun c hc => ?_
  obtain ⟨_, u2, u3⟩ := w c hc
  rw [AL.mh_eq, AL.mh_eq, hb _ u2, LN hb u3]
theorem U9 {g : AF → AF} (hg : ∀ x, hp x → hp' (g x)) {K : Nat} : ∀ {N : Nat} {l : List AE}, Ex hp K N l → Ex hp' K N (AE.mhL g l)
 | 0, _, h => h.elim
 | N + 1, l, H => by
  obtain ⟨a, b, c⟩ := Ds.1 H
  rw [AE.mhL_eq]
  refine Ds.2 ⟨by rw [Kj]; exact a, ?_, fun y hy => ?_⟩
  · have : An (l.map (AE.mh g)) = An l := by
     simp only [An, YW]; congr 1
     exact Ya fun x _ => by simp only [Function.comp_apply]; rw [AE.mh_eq]; rfl
    omega
  · obtain ⟨x, hx, rfl⟩ := Y5.1 hy
    obtain ⟨u1, u2, u3, u4⟩ := c x hx
    rw [AE.mh_eq]
    refine ⟨hg _ u1, U9 hg u2, by show (x.rows.map _).length ≤ K; rw [Kj]; exact u3, fun r hr => ?_⟩
    obtain ⟨r0, h0, rfl⟩ := Y5.1 hr
    obtain ⟨v1, v2, v3⟩ := u4 r0 h0
    rw [AR.mh_eq]
    refine ⟨hg _ v1, by show (r0.cells.map _).length ≤ K; rw [Kj]; exact v2, fun c hc => ?_⟩
    obtain ⟨c0, h1, rfl⟩ := Y5.1 hc
    rw [AL.mh_eq]
    exact ⟨hg _ (v3 c0 h1).1, U9 hg (v3 c0 h1).2⟩
theorem K5 (g : AF → AF) (x : AE) : Bw (AE.mh g x) ↔ Bw x := by
 rw [AE.mh_eq]; unfold Bw
 show (x.kind = 7 ∧ x.rows.map _ = [] ∨ x.kind = 1 ∧ x.text.size = 0) ↔ _
 rw [ZJ]
theorem OP {g : AF → AF} (hg : ∀ a b, hp a → hp b → g a = g b → a = b) {out : List AE} {x : AE} (ho : ∀ y ∈ out, hp y.head) (hx : hp x.head) : Ao (out.map (AE.mh g)) (AE.mh g x) = (Ao out x).map (AE.mh g) := by
 unfold Ao
 by_cases c : Bw x
 · rw [if_pos c, if_pos ((K5 g x).2 c)]
 · rw [if_neg c, if_neg fun e => c ((K5 g x).1 e), List.getLast?_map]
   cases hl : out.getLast? with
   | none => simp
   | some y =>
    have hy := ho y (List.mem_of_getLast? hl)
    have e1 : (AE.mh g x).kind = x.kind ∧ (AE.mh g x).head = g x.head ∧ (AE.mh g x).text = x.text := by rw [AE.mh_eq]; exact ⟨rfl, rfl, rfl⟩
    have e2 : (AE.mh g y).kind = y.kind ∧ (AE.mh g y).head = g y.head := by rw [AE.mh_eq]; exact ⟨rfl, rfl⟩
    simp only [Yw]
    rw [e1.1, e1.2.1, e1.2.2, e2.1, e2.2]
    by_cases k : x.kind = 1 ∧ y.kind = 1 ∧ y.head = x.head
    · rw [if_pos k, if_pos ⟨k.1, k.2.1, by rw [k.2.2]⟩, K1, List.map_dropLast]
      congr 1
      show [_] = [_]
      rw [AE.mh_eq, AE.mh_eq]; rfl
    · rw [if_neg k, if_neg fun e => k ⟨e.1, e.2.1, hg _ _ hy hx e.2.2⟩, K1]; rfl
theorem P3 {g : AF → AF} (hg : ∀ a b, hp a → hp b → g a = g b → a = b) : ∀ (l out : List AE), (∀ y ∈ out, hp y.head) → (∀ y ∈ l, hp y.head) → (l.map (AE.mh g)).foldl Ao (out.map (AE.mh g)) = (l.foldl Ao out).map (AE.mh g)
 | [], _, _, _ => rfl
 | x :: l, out, ho, hl => by
  rw [Y3, YO, YO, OP hg ho (hl x (by simp))]
  exact P3 hg l _ (JJ (p := fun y => hp y.head) (fun _ _ h => h) ho (hl x (by simp))) fun y hy => hl y (by simp [hy])
theorem Js {g : AF → AF} (hg : ∀ a b, hp a → hp b → g a = g b → a = b) : ∀ {N : Nat} {l : List AE}, wf hp T N l → AP (AE.mhL g l) = AE.mhL g (AP l)
 | 0, _, h => h.elim
 | N + 1, l, H => by
  have H := Et.1 H
  have e : ∀ x ∈ l, AE.nrm (AE.mh g x) = AE.mh g (AE.nrm x) := fun x hx => by
   obtain ⟨a, b, c, d, e, f, q⟩ := H x hx
   have h1 := Js hg f
   have h2 : ((x.rows.map (AR.mh g)).map AR.nrm).filter (fun r => !decide (r.cells.length = 0)) = ((x.rows.map AR.nrm).filter fun r => !decide (r.cells.length = 0)).map (AR.mh g) := by
    rw [List.filter_map]
    have e3 : (x.rows.map (AR.mh g)).map AR.nrm = (x.rows.map AR.nrm).map (AR.mh g) := by
     rw [YW, YW]
     refine Ya fun r hr => ?_
     obtain ⟨u, v, w⟩ := q r hr
     simp only [Function.comp]
     rw [AR.mh_eq, AR.nrm_eq, AR.nrm_eq, AR.mh_eq]
     show AR.mk (g r.head) ((r.cells.map (AL.mh g)).map AL.nrm) = AR.mk (g r.head) ((r.cells.map AL.nrm).map (AL.mh g))
     congr 1
     rw [YW, YW]
     refine Ya fun c hc => ?_
     have := Js hg (w c hc).2.2
     simp only [Function.comp]
     rw [AL.mh_eq, AL.nrm_eq, AL.nrm_eq, AL.mh_eq]
     show AL.mk c.id (g c.head) (AP (AE.mhL g c.flow)) = AL.mk c.id (g c.head) (AE.mhL g (AP c.flow))
     rw [this]
    rw [← List.filter_map, e3, List.filter_map]
    congr 1
    refine List.filter_congr fun r _ => ?_
    simp only [Function.comp]
    rw [AR.mh_eq]
    show (!decide ((r.cells.map (AL.mh g)).length = 0)) = _
    rw [Kj]
   rw [AE.mh_eq, AE.nrm_eq, AE.nrm_eq, AE.mh_eq]
   show AE.mk x.kind x.code x.id x.text (g x.head) (AP (AE.mhL g x.flow)) (((x.rows.map (AR.mh g)).map AR.nrm).filter fun r => !decide (r.cells.length = 0)) = AE.mk x.kind x.code x.id x.text (g x.head) (AE.mhL g (AP x.flow)) (((x.rows.map AR.nrm).filter fun r => !decide (r.cells.length = 0)).map (AR.mh g))
   rw [h1, h2]
  have := P3 hg (l.map AE.nrm) [] (fun y hy => by cases hy) fun y hy => by
   obtain ⟨x, hx, rfl⟩ := Y5.1 hy
   rw [AE.nrm_eq]; exact (H x hx).head
  unfold AP DK
  rw [Zm, Zm, AE.mhL_eq, AE.mhL_eq, ← this, YW, YW]
  congr 1
  exact Ya fun x hx => e x hx
inductive NF : List AE → Prop where
 | nil : NF []
 | snoc {out : List AE} {y : AE} (h : NF out) (e : Ao out y = out ++ [y]) : NF (out ++ [y])
theorem NF.fold {l : List AE} (h : NF l) : l.foldl Ao [] = l := by
 induction h with
 | nil => rfl
 | snoc h e ih => rw [Zl, ih]; exact e
theorem NG {out : List AE} {y : AE} (e : Ao out y = out ++ [y]) (t : ByteArray) : Ao out (y.addText t) = out ++ [y.addText t] := by
 unfold Ao at e ⊢
 have nd : ¬ Bw y := fun c => by
  rw [if_pos c] at e
  have := congrArg List.length e
  simp at this
 have nd2 : ¬ Bw (y.addText t) := fun c => nd (by
  unfold Bw at c ⊢
  rcases c with c | c
  · exact .inl c
  · refine .inr ⟨c.1, ?_⟩
    have : (y.text ++ t).size = 0 := c.2
    rw [ByteArray.size_append] at this; omega)
 rw [if_neg nd] at e
 rw [if_neg nd2]
 cases hl : out.getLast? with
 | none => rfl
 | some z =>
  rw [hl] at e
  dsimp only at e ⊢
  by_cases k : y.kind = 1 ∧ z.kind = 1 ∧ z.head = y.head
  · rw [if_pos k] at e
    have hne : out ≠ [] := fun h => by rw [h] at hl; cases hl
    have := congrArg List.length e
    have := Y2.2 hne
    simp at *; omega
  · rw [if_neg (show ¬ ((y.addText t).kind = 1 ∧ z.kind = 1 ∧ z.head = (y.addText t).head) from k)]
theorem NF.step {out : List AE} (h : NF out) (x : AE) : NF (Ao out x) := by
 by_cases c : Bw x
 · unfold Ao; rw [if_pos c]; exact h
 by_cases hm : ∃ y, out.getLast? = some y ∧ x.kind = 1 ∧ y.kind = 1 ∧ y.head = x.head
 · obtain ⟨y, hy, k⟩ := hm
   have e : Ao out x = out.dropLast ++ [y.addText x.text] := by unfold Ao; rw [if_neg c, hy]; dsimp only; rw [if_pos k]
   rw [e]
   cases h with
   | nil => cases hy
   | @snoc o z h e0 =>
    rw [ZD] at hy
    cases hy
    rw [List.dropLast_concat]
    exact .snoc h (NG e0 x.text)
 · have e : Ao out x = out ++ [x] := by
    unfold Ao; rw [if_neg c]
    cases hl : out.getLast? with
    | none => rfl
    | some y => dsimp only; rw [if_neg fun k => hm ⟨y, hl, k⟩]
   rw [e]; exact .snoc h e
theorem NF.folds : ∀ (l : List AE) {out : List AE}, NF out → NF (l.foldl Ao out)
 | [], _, h => h
 | x :: l, _, h => NF.folds l (h.step x)
theorem GS : ∀ {N : Nat} {l : List AE}, wf hp T N l → AP (AP l) = AP l
 | 0, _, h => h.elim
 | N + 1, l, H => by
  have fix : ∀ y ∈ AP l, AE.nrm y = y := by
   unfold AP DK
   rw [Zm]
   refine Ge (p := fun y => AE.nrm y = y) (fun x t h => ?_) _ _ (fun y hy => by cases hy) fun y hy => ?_
   · cases x
     rw [AE.nrm_eq] at h ⊢
     simp only [AE.kind, AE.code, AE.id, AE.text, AE.head, AE.flow, AE.rows, AE.mk.injEq, true_and] at h ⊢
     exact h
   · obtain ⟨x, hx, rfl⟩ := Y5.1 hy
     obtain ⟨a, b, c, d, e, f, q⟩ := Et.1 H x hx
     have hr := HW fun r hr => (q r hr).2.1
     have hn : (x.rows.map AR.nrm).map AR.nrm = x.rows.map AR.nrm := by
      rw [YW]
      refine Ya fun r hr => ?_
      obtain ⟨u, v, w⟩ := q r hr
      simp only [Function.comp]
      rw [AR.nrm_eq, AR.nrm_eq]
      show AR.mk r.head ((r.cells.map AL.nrm).map AL.nrm) = _
      rw [YW]
      congr 1
      refine Ya fun c hc => ?_
      simp only [Function.comp]
      rw [AL.nrm_eq, AL.nrm_eq]
      show AL.mk c.id c.head (AP (AP c.flow)) = _
      rw [GS (w c hc).2.2]
     have hr2 : ((x.rows.map AR.nrm).map AR.nrm).filter (fun r => !decide (r.cells.length = 0)) = x.rows.map AR.nrm := by rw [hn, hr]
     rw [AE.nrm_eq x, hr, AE.nrm_eq]
     show AE.mk x.kind x.code x.id x.text x.head (AP (AP x.flow)) (((x.rows.map AR.nrm).map AR.nrm).filter fun r => !decide (r.cells.length = 0)) = _
     rw [hr2, GS f]
  have nf : NF (AP l) := NF.folds _ .nil
  have e1 : AP (AP l) = ((AP l).map AE.nrm).foldl Ao [] := by show (AE.nrmL (AP l)).foldl Ao [] = _; rw [Zm]
  have : (AP l).map AE.nrm = AP l := by
   conv => rhs; rw [← Za (AP l)]
   exact Ya fix
  rw [e1, this]; exact nf.fold
end
section
variable {hp : AF → Prop} {T : Int → Prop} (g : Bool → AF → AF)
theorem OS (it : Int → List AE → Bool → Unit → List AE × Unit) (mid : Bool) {N : Nat} {l : List AE} (H : wf hp T (N + 1) l) (h6 : ∀ id f, T id → wf hp T N f → (it id f mid ()).1 = AE.mhL (g mid) f) : l.map (SK g it mid) = AE.mhL (g mid) l := by
 rw [AE.mhL_eq]
 refine Ya fun x hx => ?_
 obtain ⟨a, b, c, d, e, f, q⟩ := Et.1 H x hx
 have h1 : (if x.kind = 6 then (it x.id x.flow mid ()).1 else x.flow) = AE.mhL (g mid) x.flow := by
  split
  · rename_i k; exact h6 _ _ (e k) f
  · rename_i k; rw [b k, AE.mhL]
 have h2 : (if x.kind = 7 then x.rows.map (SL g it mid) else x.rows) = x.rows.map (AR.mh (g mid)) := by
  split
  · refine Ya fun r hr => ?_
    rw [AR.mh_eq]; unfold SL; congr 1
    refine Ya fun c hc => ?_
    obtain ⟨u1, _, u3⟩ := (q r hr).2.2 c hc
    rw [AL.mh_eq]; unfold Ui; rw [h6 _ _ u1 u3]
  · rename_i k; rw [c k]; rfl
 rw [AE.mh_eq]
 unfold SK AE.put
 rw [h1, h2]
theorem LH (sc : BD) (hT : ∀ i, T i → i ≠ sc.id) : ∀ (N : Nat) (id : Int) (l : List AE) (mid : Bool), wf hp T N l → (mid = true ∨ id ≠ sc.id) → (A6 (gF g) sc N id l mid ()).1 = AE.mhL (g mid) l
 | 0, _, _, _, h, _ => h.elim
 | N + 1, id, l, mid, H, hid => by
  have n1 : ¬ Ff sc id l mid = true := by rcases hid with rfl | h <;> simp [Ff, *]
  rw [A6, if_neg n1, Gk]
  exact OS g _ mid H fun id f ht hf => LH sc hT N id f mid hf (.inr (hT _ ht))
theorem QZ (it : Int → List AE → Bool → Unit → List AE × Unit) (fl : Int → List AE → BD → Bool → Unit → List AE × Unit) (sc : BD) (mid : Bool) (l : List AL) (h : ∀ c ∈ l, (fl c.id c.flow sc mid ()).1 = (it c.id c.flow mid ()).1) : (FC (gF g) fl sc mid l ()).1 = l.map (Ui g it mid) := by
 unfold FC
 rw [GE (Ui g it mid) _ l _ fun c hc q => ?_]; simp
 simp only [Dr, gF, if_true]
 rw [h c hc]; rfl
theorem R7 (it : Int → List AE → Bool → Unit → List AE × Unit) (fl : Int → List AE → BD → Bool → Unit → List AE × Unit) (sc : BD) (mid : Bool) (l : List AR) (h : ∀ r ∈ l, r.cells ≠ [] ∧ ∀ c ∈ r.cells, (fl c.id c.flow sc mid ()).1 = (it c.id c.flow mid ()).1) : (Ha (gF g) fl sc mid l ()).1 = l.map (SL g it mid) := by
 unfold Ha
 rw [GE (SL g it mid) _ l _ fun r hr q => ?_]; simp
 obtain ⟨h1, h2⟩ := h r hr
 have e := QZ g it fl sc mid r.cells h2
 have hl := Y2.2 h1
 have e2 : decide (0 < (FC (gF g) fl sc mid r.cells ()).1.length) = true := by rw [e, Kj]; simpa using hl
 have e3 : IL (gF g) fl sc mid r q.2 = (SL g it mid r, true, ()) := by
  have : IL (gF g) fl sc mid r q.2 = (.mk (g mid r.head) (FC (gF g) fl sc mid r.cells ()).1, true && decide (0 < (FC (gF g) fl sc mid r.cells ()).1.length), ()) := rfl
  rw [this, e2, e]; rfl
 simp only [Ei, e3, if_true]
theorem R6 (it : Int → List AE → Bool → Unit → List AE × Unit) (fl : Int → List AE → BD → Bool → Unit → List AE × Unit) (sc : BD) (mid : Bool) {N : Nat} {l : List AE} (H : wf hp T (N + 1) l)
 (h6 : ∀ x ∈ l, x.kind = 6 → (fl x.id x.flow sc mid ()).1 = (it x.id x.flow mid ()).1) (h7 : ∀ x ∈ l, x.kind = 7 → ∀ r ∈ x.rows, ∀ c ∈ r.cells, (fl c.id c.flow sc mid ()).1 = (it c.id c.flow mid ()).1) : (Cb (gF g) fl sc mid l ()).1 = l.map (SK g it mid) := by
 unfold Cb
 rw [GE (SK g it mid) _ l _ fun x hx q => ?_]; simp
 obtain ⟨_, _, c, d, _, _, q'⟩ := Et.1 H x hx
 have h1 : (Ry fl sc mid x ()).1 = if x.kind = 6 then (it x.id x.flow mid ()).1 else x.flow := by
  unfold Ry
  split
  · rename_i k; exact h6 x hx k
  · rfl
 have h2 : (Ha (gF g) fl sc mid x.rows ()).1 = if x.kind = 7 then x.rows.map (SL g it mid) else x.rows := by
  split
  · rename_i k; exact R7 g it fl sc mid x.rows fun r hr => ⟨(q' r hr).2.1, fun c hc => h7 x hx k r hr c hc⟩
  · rename_i k; rw [c k]; rfl
 have h3 : (!(decide (x.kind = 7) && decide ((Ha (gF g) fl sc mid x.rows ()).1.length = 0))) = true := by
  rw [h2]
  by_cases k : x.kind = 7
  · have := Y2.2 (d k)
    rw [if_pos k, Kj]
    simp [k]; exact d k
  · simp [k]
 have e : HK (gF g) fl sc mid q x = (if true && !(decide (x.kind = 7) && decide ((Ha (gF g) fl sc mid x.rows ()).1.length = 0)) then q.1 ++ [x.put (g mid x.head) (Ry fl sc mid x ()).1 (Ha (gF g) fl sc mid x.rows ()).1] else q.1, ()) := rfl
 rw [e, h3, h1, h2]; rfl
theorem Rz (fl : Int → List AE → BD → Bool → Unit → List AE × Unit) (sc : BD) (mid : Bool) {N : Nat} {l : List AE} (H : wf hp T (N + 1) l) (h6 : ∀ id f, T id → wf hp T N f → (fl id f sc mid ()).1 = AE.mhL (g mid) f) : (Cb (gF g) fl sc mid l ()).1 = AE.mhL (g mid) l := by
 rw [R6 g (fun _ f mid _ => (AE.mhL (g mid) f, ())) fl sc mid H (fun x hx k => h6 _ _ ((Et.1 H x hx).id k) (Et.1 H x hx).flow) fun x hx k r hr c hc => h6 _ _ (((Et.1 H x hx).rows r hr).2.2 c hc).1 (((Et.1 H x hx).rows r hr).2.2 c hc).2.2]
 exact OS g _ mid H fun _ _ _ _ => rfl
theorem OK (sc : BD) (hT : ∀ i, T i → i ≠ sc.id) : ∀ (N : Nat) (id : Int) (l : List AE) (mid : Bool), wf hp T N l → (mid = true ∨ id ≠ sc.id) → (B8 (gF g) N id l sc mid ()).1 = AE.mhL (g mid) l
 | 0, _, _, _, h, _ => h.elim
 | N + 1, id, l, mid, H, hid => by
  have n1 : ¬ (id = sc.id ∧ mid = false) := by rcases hid with rfl | h <;> simp [*]
  rw [B8, if_neg n1]
  exact Rz g _ sc mid H fun id f ht hf => OK sc hT N id f mid hf (.inr (hT _ ht))
end
theorem Mu {F : Nat → Int} : ∀ {n : Nat}, (∀ i, i < n → F i = 0) → E4 F n = 0
 | 0, _ => rfl
 | n + 1, h => by rw [E4, if_pos (Mu fun i hi => h i (by omega))]; exact h n (by omega)
theorem TH {F : Nat → Int} {i : Nat} (h : Gg F i = 0) : 1 ≤ F i ∧ F i ≤ 1073741824 ∧ (0 < i → F (i - 1) < F i) := by
 unfold Gg at h
 by_cases c1 : 1 ≤ F i ∧ F i ≤ 1073741824
 · refine ⟨c1.1, c1.2, fun hi => ?_⟩
   rw [if_neg (by simpa using c1)] at h
   by_cases c2 : F i = F (i - 1)
   · rw [if_pos ⟨hi, c2⟩] at h; cases h
   · rw [if_neg fun g => c2 g.2] at h
     by_cases c3 : F i < F (i - 1)
     · rw [if_pos ⟨hi, c3⟩] at h; cases h
     · omega
 · rw [if_pos c1] at h; cases h
theorem Pf {l : List Av} (h : EI l = 0) : CU l = 0 := by
 have hlen := KN h
 have h2 : E4 (Ik l) (min l.length 256) = 0 := by
  have h9 := h
  unfold EI at h9
  have hl : ¬ (256 : Int) < l.length := by omega
  simp [CH, hl] at h9
  exact Classical.byContradiction fun g => g (h9 g)
 rw [CU, if_neg (by omega)]
 refine Mu fun i hi => ?_
 have h3 := Jc h2 i (by omega)
 unfold Ik at h3
 unfold Ek
 rw [Y1 hi] at h3 ⊢
 dsimp only at h3 ⊢
 have e1 := C1 h3
 rw [CH, if_pos e1] at h3
 have e2 := C1 h3
 rw [CH, if_pos e2] at h3
 have e3 := C1 h3
 obtain ⟨p1, p2, p3⟩ := TH e1
 try dsimp only at p1 p2 p3
 rw [Y1 hi] at p1 p2 p3
 try dsimp only at p1 p2 p3
 have ha : D9 l[i].author = true := by
  cases hA : D9 l[i].author with
  | true => rfl
  | false => rw [hA] at e2; simp at e2
 have ht : 0 ≤ l[i].time ∧ l[i].time ≤ 1099511627776 := by
  by_cases c : 0 ≤ l[i].time ∧ l[i].time ≤ 1099511627776
  · exact c
  · simp [c] at e3
 simp only [D9, KB, decide_eq_true_eq] at ha
 have hr : CN l[i] = 0 := by
  unfold CN
  rw [if_neg (by omega), if_neg (by omega), if_neg (by omega), if_neg (by rw [ha.2]; decide), if_neg (by omega)]
 rw [if_pos hr]
 by_cases c : i = 0
 · rw [if_pos c]
 · rw [if_neg c]
   have hi1 : i - 1 < l.length := by omega
   have p3 := p3 (by omega)
   rw [Y1 hi1] at p3 ⊢
   try dsimp only at p3 ⊢
   unfold GD
   rw [if_neg (by omega), if_pos p3]; simp; omega
theorem c52 (l : List Int) (hl : l.length ≤ 1048576) (x : Int) : PC 52 [.imm 1 (l.map AA) false, AA x] (.bool (decide (x ∈ l))) := by
 intro h n
 refine gq Tryz.func52 rfl fun ho => ?_
 simp [go_sem]
 refine Aq 1 (α := Nat) (fun k => [(0, .imm 1 (l.map AA) false), (1, AA x), (5, AA k)]) (fun _ => h) (fun k m => k ≤ l.length ∧ n ≤ m ∧ x ∉ l.take k) (fun k => l.length - k) 0 ?_ ?_ AB ?_
 · simp
 · simp [Am]
 rintro k m ⟨hk, hnm, hf⟩
 by_cases hlt : k < l.length
 · have w1 := wS k (by omega)
   obtain ⟨y, hy⟩ : ∃ y, l[k] = y := ⟨_, rfl⟩
   by_cases e : y = x
   · simp [go_sem, hlt, hy, e]
     exact A3 ho rfl (by rw [decide_eq_true (show x ∈ l from by rw [← e, ← hy]; exact Kn hlt)])
   · simp [go_sem, hlt, hy, e, w1, -Int.natCast_add]
     refine ⟨k + 1, by omega, ⟨by omega, hnm, ?_⟩, Jo⟩
     rw [JW hlt, hy]
     simp [hf]; exact fun h => e h.symm
 · simp [go_sem, hlt]
   rw [Y8 (by omega)] at hf
   exact A3 ho rfl (by simp [hf])
def Fa : List BS → BS → List BS
 | [], x => [x]
 | y :: l, x => if y.rev < x.rev then y :: Fa l x else if y.rev = x.rev then y :: l else x :: y :: l
def B9 : List BS → Int → Nat
 | [], _ => 0
 | y :: l, r => if y.rev < r then B9 l r + 1 else 0
def Fj (l : List BS) : List BS := l.foldl Fa []
theorem MT (r : Int) : ∀ l, B9 l r ≤ l.length
 | [] => JO _
 | y :: l => by
  have := MT r l
  rw [B9]; split <;> simp <;> omega
theorem MU (r : Int) : ∀ (l : List BS) (j : Nat) (h : j < l.length), j < B9 l r → l[j].rev < r
 | [], _, h, _ => absurd h (by simp)
 | y :: l, j, h, g => by
  rw [B9] at g
  split at g
  · rename_i e
    cases j with
    | zero => exact e
    | succ j => exact MU r l j (by simpa using h) (by omega)
  · omega
theorem MS (r : Int) : ∀ (l : List BS) (h : B9 l r < l.length), ¬ l[B9 l r].rev < r
 | [], h => absurd h (by simp)
 | y :: l, h => by
  by_cases e : y.rev < r
  · have h0 : B9 (y :: l) r = B9 l r + 1 := by rw [B9, if_pos e]
    have h1 : B9 l r < l.length := by simp at h; omega
    have := MS r l h1
    simp only [h0, YT]
    exact this
  · have h0 : B9 (y :: l) r = 0 := by rw [B9, if_neg e]
    simp only [h0, ZW]; exact e
theorem MR : ∀ (l : List BS) (x : BS) (h : B9 l x.rev < l.length), l[B9 l x.rev].rev = x.rev → Fa l x = l
 | [], _, h, _ => absurd h (by simp)
 | y :: l, x, h, g => by
  by_cases e : y.rev < x.rev
  · have h0 : B9 (y :: l) x.rev = B9 l x.rev + 1 := by rw [B9, if_pos e]
    have h1 : B9 l x.rev < l.length := by simp at h; omega
    simp only [h0, YT] at g
    rw [Fa, if_pos e, MR l x h1 g]
  · have h0 : B9 (y :: l) x.rev = 0 := by rw [B9, if_neg e]
    simp only [h0, ZW] at g
    rw [Fa, if_neg e, if_pos g]
theorem OE : ∀ (l : List BS) (x : BS), (∀ h : B9 l x.rev < l.length, l[B9 l x.rev].rev ≠ x.rev) → Fa l x = l.take (B9 l x.rev) ++ x :: l.drop (B9 l x.rev)
 | [], _, _ => rfl
 | y :: l, x, g => by
  by_cases e : y.rev < x.rev
  · have h0 : B9 (y :: l) x.rev = B9 l x.rev + 1 := by rw [B9, if_pos e]
    rw [Fa, if_pos e, OE l x (fun h1 => by
     have := g (by simp; omega)
     simpa only [h0, YT] using this), h0]
    rfl
  · have h0 : B9 (y :: l) x.rev = 0 := by rw [B9, if_neg e]
    have := g (by rw [h0]; simp)
    simp only [h0, ZW] at this
    rw [Fa, if_neg e, if_neg this, h0]; rfl
theorem OC : ∀ (l : List BS) (x : BS), (Fa l x).length ≤ l.length + 1
 | [], _ => JO _
 | y :: l, x => by
  have := OC l x
  rw [Fa]; split
  · simp; omega
  · split <;> simp
theorem MM : ∀ (l o : List BS), (l.foldl Fa o).length ≤ o.length + l.length
 | [], o => by simp
 | x :: l, o => by
  have h1 := MM l (Fa o x)
  have h2 := OC o x
  simp; omega
section
variable {H : Hp} {p q : Nat} {a b : SV}
theorem dA0 : AT Tryz.prog H p .append [24, 24] [.sl q 0 2 1 true, .imm 2 [] false] = some { val := .sl q 0 2 1 true } := by
 have e1 : BC Tryz.prog 24 = some 166 := by simp [go_sem]
 have e2 : Bk Tryz.prog 166 = 2 := by simp [go_sem]
 have e3 : (BP Tryz.prog 166).storable = true := by simp [go_sem]
 have e4 : (BP Tryz.prog 166).cells.length = 2 := by simp [go_sem]
 simp only [AT, e1, Zb, if_true, C5, e2, e3, e4]
 simp [ID, Ea, flat, D6]
theorem dA1 {D : List BS} (hD : D ≠ []) (hl : D.length ≤ 1048576) (h : H q = some (.cells [a, b])) : AT Tryz.prog H p .append [24, 24] [.sl q 0 2 1 true, .imm 2 (D.map BS.enc) false] = some { val := .sl p 0 2 (1 + D.length) false, new := some (.cells ([a, b] ++ (D.map BS.enc).flatMap SV.cells)) } := by
 have e1 : BC Tryz.prog 24 = some 166 := by simp [go_sem]
 have e2 : Bk Tryz.prog 166 = 2 := by simp [go_sem]
 have e3 : (BP Tryz.prog 166).storable = true := by simp [go_sem]
 have e4 : (BP Tryz.prog 166).cells.length = 2 := by simp [go_sem]
 have e5 : Bj Tryz.prog 166 ≤ 65536 := by simp [go_sem]
 have hr : DM (1 + D.length) (Bj Tryz.prog 166) = true := by simp [DM, e5]; omega
 have e6 : Bm [a, b] 0 (1 * 2) = some [a, b] := rfl
 simp only [AT, e1, Zb, if_true, C5, e2, e3, e4, flat, h, e6, Ea, Kj, hr]
 simp [ID, hD, Gp, G9]
theorem dA2 {T : List BS} {len : Nat} {f : Bool} {cs : List SV} (hl : T.length ≤ 1048576) (hn : 0 < len) (hl2 : len ≤ 1048577) (hcs : cs.length = len * 2) (h : H q = some (.cells cs)) : AT Tryz.prog H p .append [24, 24] [.imm 2 (T.map BS.enc) true, .sl q 0 2 len f] = some { val := .sl p 0 2 (T.length + len) false, new := some (.cells ((T.map BS.enc).flatMap SV.cells ++ cs)) } := by
 have e1 : BC Tryz.prog 24 = some 166 := by simp [go_sem]
 have e2 : Bk Tryz.prog 166 = 2 := by simp [go_sem]
 have e3 : (BP Tryz.prog 166).storable = true := by simp [go_sem]
 have e4 : (BP Tryz.prog 166).cells.length = 2 := by simp [go_sem]
 have e5 : Bj Tryz.prog 166 ≤ 65536 := by simp [go_sem]
 have hr : DM (T.length + len) (Bj Tryz.prog 166) = true := by simp [DM, e5]; omega
 have e6 : Bm cs 0 (len * 2) = some cs := by rw [← hcs]; simp [Bm]
 have h0 : len ≠ 0 := by omega
 simp only [AT, e1, Zb, if_true, C5, e2, e3, e4, flat, h, e6, Ea, Kj, hr]
 simp [ID, h0, G9]
end
def Lf : Tr := .pure 0 <| .pure 1 <| .pure 2 <| .pure 3 <| .pure 4 <| .pure 5 <| .pure 6 <| .pure 7 <| .pure 9 <| .pure 10 <| .pure 11 <| .one 8 <| .one 12 <| .one 13 <| .one 14 .nil
set_option maxHeartbeats 2000000 in
theorem c122 (l : List BS) (hl : l.length ≤ 1048576) : PC 122 [Aa l] (Aa (Fj l)) := by
 intro h n
 refine Da Tryz.func122 rfl fun ho => ?_
 have hHb := ho.lt
 obtain ⟨M, hM⟩ : ∃ M : Nat → List BS, ∀ i, M i = (l.take i).foldl Fa [] := ⟨_, fun _ => rfl⟩
 have hM0 : M 0 = [] := by rw [hM]; rfl
 have hMs : ∀ i x, (hi : i < l.length) → l[i] = x → M (i + 1) = Fa (M i) x := fun i x hi e => by
  rw [hM, hM, JW hi, Zl, e]; rfl
 have hMl : M l.length = Fj l := by rw [hM, KE]; rfl
 have hMn : ∀ i, (M i).length ≤ i := fun i => by
  have h1 := MM (l.take i) []
  have h2 := List.length_take_le i l
  rw [hM]; simp at h1 h2 ⊢; omega
 refine AZ 0 [(0, Aa l)] h n ?_ (fun m hm => ?_)
 · simp [go_sem, Jo]
 refine AZ 1 [(0, Aa l), (3, Aa (M 0))] h n ?_ (fun m hm => ?_)
 · rw [hM0]
   simp [go_sem, Jo, hm]
   exact BR (by simp)
 refine Bf 0 [(3, Aa (M l.length))] h n ?_ (fun m hm => ?_)
 · refine AZ 0 [(0, Aa l), (3, Aa (M 0)), (4, AA 0)] h n ?_ (fun m hm => ?_)
   · simp [go_sem, Jo, hm]
   refine AX (BX 0 (α := Nat) (fun i => [(0, Aa l), (3, Aa (M i)), (4, AA i)]) (fun _ => h) (fun i m => i ≤ l.length ∧ n ≤ m) (fun i => l.length - i) 0 ⟨K2 _, by omega⟩ ?_ AB ?_)
   · simp [go_sem, Am, Jo]
   rintro i m ⟨hi, hnm⟩
   have hEn := hMn i
   by_cases hlt : i < l.length
   · have w1 := wS i (by omega)
     obtain ⟨x, hx⟩ : ∃ x, l[i] = x := ⟨_, rfl⟩
     have hst := hMs i x hlt hx
     generalize hE : M i = E at hEn hst
     refine AZ 0 [(0, Aa l), (3, Aa E), (4, AA i)] h n ?_ (fun m2 hm2 => ?_)
     · simp [go_sem, Jo, hlt, hnm]
     refine AV 1 (α := Unit) (fun _ => [(0, Aa l), (3, Aa (M (i + 1))), (4, AA i)]) (fun _ => h) (fun _ m => n ≤ m) (AX ?_) (fun _ m hm => ?_)
     · refine AZ 0 [(0, Aa l), (3, Aa E), (4, AA i), (5, AA 0)] h n ?_ (fun m hm => ?_)
       · simp [go_sem, Jo, hm2]
       obtain ⟨K, hK⟩ : ∃ K, K = B9 E x.rev := ⟨_, rfl⟩
       have hKl : K ≤ E.length := by rw [hK]; exact MT _ _
       refine Bf 0 [(0, Aa l), (3, Aa E), (4, AA i), (5, AA K)] h n ?_ (fun m hm => ?_)
       · refine AX (BX 0 (α := Nat) (fun k => [(0, Aa l), (3, Aa E), (4, AA i), (5, AA k)]) (fun _ => h) (fun k m => k ≤ K ∧ n ≤ m) (fun k => K - k) 0 ⟨K2 _, by omega⟩ ?_ AB ?_)
         · simp [go_sem, Am, Jo]
         rintro k m ⟨hk, hnm⟩
         by_cases hkK : k < K
         · have w2 := wS k (by omega)
           have hkl : k < E.length := by omega
           have hlo := MU x.rev E k hkl (by omega)
           obtain ⟨y, hy⟩ : ∃ y, E[k] = y := ⟨_, rfl⟩
           rw [hy] at hlo
           refine AZ 0 [(0, Aa l), (3, Aa E), (4, AA i), (5, AA k), (28, .bool true)] h n ?_ (fun m hm => ?_)
           · simp (maxSteps := 1000000) [go_sem, hkl, hlt, hy, hx, hlo, BS.enc, Jo, hnm]
             repeat first | refine nq ?_ | refine sq ?_
             show (_ : Bool) = true
             kernel_rfl
           refine AK ?_
           simp [go_sem, w2, Jo, -Int.natCast_add]
           exact ⟨k + 1, by omega, ⟨by omega, hm⟩, Jo⟩
         · have : k = K := by omega
           subst this
           refine FW ?_
           by_cases hkl : k < E.length
           · have hge := MS x.rev E (by rw [← hK]; exact hkl)
             simp only [← hK] at hge
             obtain ⟨y, hy⟩ : ∃ y, E[k] = y := ⟨_, rfl⟩
             rw [hy] at hge
             refine AK ?_
             simp (maxSteps := 1000000) [go_sem, hkl, hlt, hy, hx, hge, BS.enc, Jo, hnm]
             repeat first | refine nq ?_ | refine sq ?_
             show (_ : Bool) = true
             kernel_rfl
           · refine AK ?_
             simp (maxSteps := 1000000) [go_sem, hkl, Jo, hnm]
             repeat first | refine nq ?_ | refine sq ?_
             show (_ : Bool) = true
             kernel_rfl
       clear hm2
       have hHm : ∀ j y, h j = some y → j < m := fun j y e => by have := hHb j y e; omega
       by_cases hsk : ∃ h : K < E.length, E[K].rev = x.rev
       · obtain ⟨hkl, hre⟩ := hsk
         rw [MR E x (by omega) (by simp only [← hK]; exact hre)] at hst
         rw [hst]
         obtain ⟨y, hy⟩ : ∃ y, E[K] = y := ⟨_, rfl⟩
         rw [hy] at hre
         have hne : ((K : Int) == (E.length : Int)) = false := by simp; omega
         refine CJ 0 [(0, Aa l), (3, Aa E), (4, AA i), (5, AA K), (47, .bool false)] h m ?_ (fun m' hm' => ?_)
         · simp (maxSteps := 1000000) [go_sem, hkl, hne, hlt, hy, hx, hre, BS.enc, Jo]
           repeat first | refine nq ?_ | refine sq ?_
           show (_ : Bool) = true
           kernel_rfl
         subst hm'
         refine Ap (b := false) (by simp [go_sem]) (AK ?_)
         simp [go_sem, Jo, hm]
       have hput : M (i + 1) = E.take K ++ x :: E.drop K := by
        rw [hst, OE E x (fun g e => hsk ⟨by omega, by simp only [← hK] at e; exact e⟩), hK]
       refine CJ 0 [(0, Aa l), (3, Aa E), (4, AA i), (5, AA K), (47, .bool true)] h m ?_ (fun m' hm' => ?_)
       · by_cases hkl : K < E.length
         · obtain ⟨y, hy⟩ : ∃ y, E[K] = y := ⟨_, rfl⟩
           have hre : y.rev ≠ x.rev := fun e => hsk ⟨hkl, by rw [hy]; exact e⟩
           have hre2 : (y.rev != x.rev) = true := by simpa using hre
           have hne : ((K : Int) == (E.length : Int)) = false := by simp; omega
           simp (maxSteps := 1000000) [go_sem, hkl, hne, hlt, hy, hx, hre2, BS.enc, Jo]
           repeat first | refine nq ?_ | refine sq ?_
           show (_ : Bool) = true
           kernel_rfl
         · have he : K = E.length := by omega
           simp (maxSteps := 1000000) [go_sem, he, Jo]
           repeat first | refine nq ?_ | refine sq ?_
           show (_ : Bool) = true
           kernel_rfl
       subst hm'
       refine Ap (b := true) (by simp [go_sem]) ?_
       simp only [if_true]
       rw [hput]
       have sl1 : List.drop K (List.take E.length (List.map BS.enc E)) = (E.drop K).map BS.enc := by rw [Y8 (by simp), List.map_drop]
       have sl2 : List.take K (List.map BS.enc E) = (E.take K).map BS.enc := by rw [Zn]
       have hDl := Uh (i := K) (l := E)
       have hTl := Zu (i := K) (l := E)
       have k0 : ∀ q, m ≤ q → h q = none := fun q hq => Ad hHm hq
       have fin : ∀ (h' : Hp) (q len : Nat) (cs : List SV) (R : List BS), m ≤ q → h' q = some (.cells cs) → cs = (R.map BS.enc).flatMap SV.cells → len = R.length → Fz h' h 1 (.sl q 0 2 len false) (Aa R) := fun h' q len cs R hq hh hc hn => by
        subst hc hn
        have := DN (es := R.map BS.enc) (k := 0) (z := 2) (full := false) (full' := false) (k0 q hq) (by simp) hh (BS.E.size R)
        rwa [Kj] at this
       refine Bt Lf rfl (by kernel_rfl) (by kernel_rfl) ?_
       by_cases hD : E.drop K = []
       · simp (maxSteps := 1000000) [go_sem, Lf, hlt, hx, BS.enc, hKl]
         rw [sl1, hD]
         rw [YR, dA0]
         simp [go_sem]
         rw [sl2, dA2 (T := E.take K) (cs := [AA x.rev, AA x.move]) (by omega) (by omega) (by omega) rfl (AC _ _ _)]
         simp [go_sem]
         refine ⟨by omega, fin _ _ _ _ _ (by omega) (AC _ _ _) (by rw [sl2]; simp [BS.enc, SV.cells]) (by simp), fun j z e => by have := hHm j z e; rw [AD _ _ (by omega), AD _ _ (by omega)]; exact e⟩
       · simp (maxSteps := 1000000) [go_sem, Lf, hlt, hx, BS.enc, hKl]
         rw [sl1]
         rw [dA1 hD (by omega) (AC _ _ _)]
         simp [go_sem]
         rw [sl2, dA2 (T := E.take K) (cs := AA x.rev :: AA x.move :: ((E.drop K).map BS.enc).flatMap SV.cells) (by omega) (by omega) (by omega) (by have := BK (z := 2) (BS.E.size (E.drop K)); rw [Kj] at this; simp only [Yl, this]; omega) (by rw [AC]; simp)]
         simp [go_sem]
         refine ⟨by omega, fin _ _ _ _ _ (by omega) (AC _ _ _) (by simp [BS.enc, SV.cells]) (by simp; omega), fun j z e => ?_⟩
         have := hHm j z e
         rw [AD _ _ (by omega), AD _ _ (by omega), AD _ _ (by omega)]; exact e
     · refine AK ?_
       simp [go_sem, w1, Jo, -Int.natCast_add]
       exact ⟨i + 1, by omega, ⟨by omega, hm⟩, Jo, Jo⟩
   · have : i = l.length := by omega
     subst this
     refine AK ?_
     simp [go_sem, Jo, hnm]
 rw [hMl]
 refine AK ?_
 simp [go_sem]
 exact Ax ho AB rfl (by simp [closed, BS.E.closedL])
def CW (a : Int) (y : Int) : Bool := y == a
def G5 (a id : Int) (h : AF) : AF := { h with ins := if h.ins = a then id else h.ins, dels := Fj (h.dels.map (BM (CW a) id)), layers := h.layers.map (BE (CW a) id) }
def Lt (x : AF) (h : Hp) (n : Nat) (v3 v4 : SV) (y : Int) : Hp := hset (hset h (n + 1) (some Q9)) (n + 2) (some (.cells [AA y, AA x.move, v3, v4]))
theorem Fk {x : AF} {h : Hp} {n : Nat} {v3 v4 : SV} {y : Int} : Lt x h n v3 v4 y (n + 2) = some (.cells [AA y, AA x.move, v3, v4]) := by simp [Lt, AC]
theorem P9 {x : AF} {h : Hp} {n : Nat} {v3 v4 : SV} {y : Int} : Lt x h n v3 v4 y (n + 1) = some Q9 := by rw [Lt, AD _ _ (by omega), AC]
theorem NC {x : AF} {h : Hp} {n : Nat} {v3 v4 w3 w4 : SV} {y z : Int} : hset (Lt x h n v3 v4 y) (n + 2) (some (.cells [AA z, AA x.move, w3, w4])) = Lt x h n w3 w4 z := by
 unfold Lt; rw [Ai]
theorem Uf {x : AF} {h : Hp} {n m : Nat} {v3 v4 : SV} {y : Int} (hb : ∀ j y, h j = some y → j < n) (hm : n + 3 ≤ m) : ∀ j z, Lt x h n v3 v4 y j = some z → j < m := fun j z e => by
 unfold Lt at e
 simp only [hset] at e
 split at e
 · omega
 · split at e
   · omega
   · have := hb j z e; omega
theorem UB {H : Hp} {n m k p : Nat} {es : List SV} {u v : SV} {o : Option Nat} (hA : BQ n m 2 o es) (hl : es.length ≤ 1073741823) (h1 : H k = some (.cells [u, v])) (h2 : ∀ j, o = some j → H j = some (.cells (es.flatMap SV.cells))) :
 AT Tryz.prog H p .append [24, 24] [AQ 2 o es, .sl k 0 2 1 true] = some { val := .sl p 0 2 (es.length + 1) false, upd := o.map fun j => (j, none), new := some (.cells (es.flatMap SV.cells ++ [u, v])) } := by
 have := Fd (P := Tryz.prog) (H := H) (t := 24) (t2 := 24) (el := 166) (z := 2) (by simp [go_sem]) (by simp [go_sem]) (by simp [go_sem]) (by simp) (by simp [go_sem]) (by simp [go_sem]) (by simp [go_sem]) (by omega) hA (e := .agg [u, v]) rfl h1 h2 p
 exact this
theorem lay0 {H : Hp} {p : Nat} : AT Tryz.prog H p .append [25, 25] [.imm 4 [] true, AO []] = some { val := .imm 4 [] true } := by
 have e1 : BC Tryz.prog 25 = some 164 := by simp [go_sem]
 have e2 : Bk Tryz.prog 164 = 4 := by simp [go_sem]
 have e3 : (BP Tryz.prog 164).storable = true := by simp [go_sem]
 have e4 : (BP Tryz.prog 164).cells.length = 4 := by simp [go_sem]
 simp only [AT, e1, Zb, if_true, C5, e2, e3, e4]
 simp [ID, Ea, flat, D6]
set_option maxHeartbeats 4000000 in
theorem c54 (x : AF) (hs : x.sized) (a id : Int) : PC 54 [x.enc, AA a, AA id] (G5 a id x).enc := by
 intro h n
 refine Da Tryz.func54 rfl fun ho => ?_
 have hHb := ho.lt
 obtain ⟨X, hX⟩ : ∃ X : SV, X = .iptr x.flat := ⟨_, rfl⟩
 refine Bn 1 [(1, AA a), (2, AA id), (3, X), (6, .ptr (n + 1) 0)] (hset h (n + 1) (some Q9)) (fun m => n + 2 = m) ?_ (fun m hm => ?_)
 · rw [hX]
   simp [go_sem, AF.enc, AF.flat, Jo]
   refine ⟨AW (by rw [AD _ _ (by omega)]; exact Ad hHb (JO _)) (by simp [hset]), fun j y => ?_⟩
   have := hHb j y; simp only [hset]; grind
 subst hm
 have q1 : n + 1 ≠ n + 2 := by omega
 refine Bn 0 [(1, AA a), (2, AA id), (3, X), (6, .ptr (n + 1) 0), (7, .ptr (n + 2) 0)] (Lt x h n (Aa x.dels) (AO x.layers) x.ins) (fun m => n + 3 ≤ m) ?_ (fun m hm => ?_)
 · rw [hX]
   simp [go_sem, AF.flat, Jo, AC, Ai, Lt]
 obtain ⟨y, hy⟩ : ∃ y, y = if x.ins = a then id else x.ins := ⟨_, rfl⟩
 refine CD 0 [(1, AA a), (2, AA id), (3, X), (6, .ptr (n + 1) 0), (7, .ptr (n + 2) 0)] (Lt x h n (Aa x.dels) (AO x.layers) y) (fun m => n + 3 ≤ m) (AK ?_) (fun m hm => ?_)
 · by_cases e : x.ins = a
   · rw [hy, if_pos e]
     simp [go_sem, Fk, e, NC, Jo, hm]
   · rw [hy, if_neg e]
     simp [go_sem, Fk, e, Jo, hm]
 refine Bn 0 [(1, AA a), (2, AA id), (3, X), (6, .ptr (n + 1) 0), (7, .ptr (n + 2) 0), (8, .imm 0 [] true)] (Lt x h n (Aa x.dels) (AO x.layers) y) (fun m => n + 3 ≤ m) ?_ (fun m hm => ?_)
 · simp [go_sem, Jo, hm]
 obtain ⟨G, hGd⟩ : ∃ G : Hp, G = Lt x h n (Aa x.dels) (AO x.layers) y := ⟨_, rfl⟩
 have hG : G (n + 2) = some (.cells [AA y, AA x.move, Aa x.dels, AO x.layers]) := by rw [hGd]; exact Fk
 have hGb : ∀ j z, G j = some z → j < n + 3 := by rw [hGd]; exact Uf hHb (JO _)
 rw [← hGd]
 obtain ⟨M, hM⟩ : ∃ M : Nat → List SV, ∀ i, M i = ((x.dels.take i).map (BM (CW a) id)).map BS.enc := ⟨_, fun _ => rfl⟩
 have hM0 : M 0 = [] := by rw [hM]; rfl
 have hMs : ∀ i d, (hi : i < x.dels.length) → x.dels[i] = d → M (i + 1) = M i ++ [(BM (CW a) id d).enc] := fun i d hi e => by
  rw [hM, hM, JW hi, e]; simp
 have hMl : M x.dels.length = (x.dels.map (BM (CW a) id)).map BS.enc := by rw [hM, KE]
 have hMn : ∀ i, (M i).length ≤ i := fun i => by
  rw [hM, Kj, Kj]; exact List.length_take_le i x.dels
 have hsd := hs.dels
 refine CD 1 [(1, AA a), (2, AA id), (3, X), (6, .ptr (n + 1) 0), (7, .ptr (n + 2) 0), (8, Aa (x.dels.map (BM (CW a) id)))] G (fun m => n + 3 ≤ m) ?_ (fun m hm => ?_)
 · refine AZ 0 [(1, AA a), (2, AA id), (3, X), (6, .ptr (n + 1) 0), (7, .ptr (n + 2) 0), (8, AQ 2 none (M 0)), (9, AA 0)] G m ?_ (fun m2 hm2 => ?_)
   · rw [hM0]; simp [go_sem, Jo, AQ]
   refine AX (BX 0 (α := Nat × Option Nat) (fun q => [(1, AA a), (2, AA id), (3, X), (6, .ptr (n + 1) 0), (7, .ptr (n + 2) 0), (8, AQ 2 q.2 (M q.1)), (9, AA q.1)]) (fun q => AS q.2 (M q.1) G)
    (fun q m => q.1 ≤ x.dels.length ∧ n + 3 ≤ m ∧ BQ (n + 3) m 2 q.2 (M q.1)) (fun q => x.dels.length - q.1) (0, none) ⟨K2 _, by omega, by rw [hM0]; exact Zp _ _ _⟩ ?_ AB ?_)
   · simp [go_sem, Am, Jo]
   clear hm hm2 m2 m
   rintro ⟨i, o⟩ m ⟨hi, hnm, hA⟩
   dsimp only at hi hA ⊢
   have hEn := hMn i
   by_cases hlt : i < x.dels.length
   · have w1 := wS i (by omega)
     obtain ⟨d, hd⟩ : ∃ d, x.dels[i] = d := ⟨_, rfl⟩
     have hst := hMs i d hlt hd
     generalize hE : M i = E at hA hEn hst
     have hXb : ∀ j y, AS o E G j = some y → j < m := HP hGb hnm hA
     have g2 : AS o E G (n + 2) = some (.cells [AA y, AA x.move, Aa x.dels, AO x.layers]) := DO hGb hA _ _ hG
     refine CJ 0 [(1, AA a), (2, AA id), (3, X), (6, .ptr (n + 1) 0), (7, .ptr (n + 2) 0), (8, AQ 2 o E), (9, AA i)] (AS o E G) m ?_ (fun m2 hm2 => ?_)
     · simp [go_sem, g2, Jo, hlt]
     subst hm2
     refine AV 0 (α := Option Nat) (fun o => [(1, AA a), (2, AA id), (3, X), (6, .ptr (n + 1) 0), (7, .ptr (n + 2) 0), (8, AQ 2 o (M (i + 1))), (9, AA i)]) (fun o => AS o (M (i + 1)) G) (fun o m => n + 3 ≤ m ∧ BQ (n + 3) m 2 o (M (i + 1))) (AX ?_) (fun o m hm => ?_)
     · refine Bn 0 [(1, AA a), (2, AA id), (3, X), (6, .ptr (n + 1) 0), (7, .ptr (n + 2) 0), (8, AQ 2 o E), (9, AA i), (10, .ptr m 0)] (hset (AS o E G) m (some (.cells [AA d.rev, AA d.move]))) (fun m2 => m + 1 ≤ m2) ?_ (fun m2 hm2 => ?_)
       · simp [go_sem, g2, hlt, hd, BS.enc, Jo, AC, Ai]
       rw [hst]
       refine CD 1 [(1, AA a), (2, AA id), (3, X), (6, .ptr (n + 1) 0), (7, .ptr (n + 2) 0), (8, AQ 2 o E), (9, AA i), (10, .iptr [AA (FF (CW a) id d.rev), AA d.move])] (AS o E G) (fun m2 => m + 1 ≤ m2) (AK ?_) (fun m3 hm3 => ?_)
       · by_cases e : d.rev = a
         · have hr : FF (CW a) id d.rev = id := by simp [FF, CW, e]
           rw [hr]
           simp [go_sem, AC, e, Jo, hm2, Ai]
           exact ⟨AW (Ad hXb (JO _)) (AC _ _ _), AJ hXb AB⟩
         · have hr : FF (CW a) id d.rev = d.rev := by simp [FF, CW, e]
           rw [hr]
           simp [go_sem, AC, e, Jo, hm2]
           exact ⟨AW (Ad hXb (JO _)) (AC _ _ _), AJ hXb AB⟩
       refine AK ?_
       simp [go_sem]
       rw [UB hA (by omega) (AC _ _ _) (by
        intro j e
        have := (hA.lt j e).2
        rw [AD _ _ (by omega)]; exact E3 j e)]
       have hpush := hA.push (j := m3 + 1) (m' := m3 + 1 + 1) (e := (BM (CW a) id d).enc) rfl rfl (by omega) (by omega)
       have hlive := ES (p := m3 + 1) (v := .sl (m3 + 1) 0 2 (E.length + 1) false) (e := (BM (CW a) id d).enc) hGb (by omega) hA (H := hset (AS o E G) m3 (some (.cells [AA (FF (CW a) id d.rev), AA d.move]))) (AJ (fun j z e => by have := hGb j z e; omega) (DO hGb hA))
       have hvv : AQ 2 (some (m3 + 1)) (E ++ [(BM (CW a) id d).enc]) = .sl (m3 + 1) 0 2 (E.length + 1) false := by simp [AQ]
       simp [go_sem]
       exact ⟨some (m3 + 1), ⟨by omega, hpush⟩, hvv.symm, by simpa [Cu.app, SV.cells, BS.enc, BM] using hlive⟩
     · refine AK ?_
       simp [go_sem, w1, Jo, -Int.natCast_add]
       exact ⟨i + 1, by omega, o, ⟨by omega, hm.1, hm.2⟩, ⟨Jo, Jo⟩, AB⟩
   · have : i = x.dels.length := by omega
     subst this
     refine AK ?_
     have g2 : AS o (M x.dels.length) G (n + 2) = some (.cells [AA y, AA x.move, Aa x.dels, AO x.layers]) := DO hGb hA _ _ hG
     simp [go_sem, g2, Jo]
     refine ⟨hnm, ?_, DO hGb hA⟩
     have f := AQ.fz' (k := 0) (h := G) (fun j hj => Ad hGb hj) hA AB
     rw [hMl] at f ⊢; exact f
 obtain ⟨D, hD⟩ : ∃ D, D = Fj (x.dels.map (BM (CW a) id)) := ⟨_, rfl⟩
 rw [hGd]
 clear hGb hG hGd G
 refine Bn 0 [(1, AA a), (2, AA id), (3, X), (6, .ptr (n + 1) 0), (7, .ptr (n + 2) 0)] (Lt x h n (Aa D) (AO x.layers) y) (fun m => n + 3 ≤ m) ?_ (fun m hm => ?_)
 · simp [go_sem]
   refine Y4 (by simpa using c122 (x.dels.map (BM (CW a) id)) (by rw [Kj]; exact hsd)) ?_
   rw [← hD]
   simp [go_sem, Fk, NC, Jo, hm]
 have hsl := hs.layers
 refine BO 0 (α := SV × Option Nat) (fun q => [(1, AA a), (2, AA id), (3, X), (6, .ptr (n + 1) 0), (7, .ptr (n + 2) 0)]) (fun q => C4 (x.layers.map Az.enc) q.2 (Lt x h n (Aa D) q.1 y)) (fun q m => n + 3 ≤ m ∧ Gc 4 (x.layers.map Az.enc) q.1 q.2 (n + 3) m) ?_ ?_
 · simp [go_sem]
   refine Cn (z := 4) rfl rfl (by kernel_rfl) ?_
   simp [go_sem, Fk]
   cases hL : x.layers with
   | nil =>
    rw [lay0]
    simp [go_sem, Fk, NC]
    exact ⟨_, none, ⟨hm, .inl ⟨rfl, rfl, _, _, rfl⟩⟩, AB⟩
   | cons b l =>
    rw [GY (P := Tryz.prog) (h := Lt x h n (Aa D) (AO (b :: l)) y) (n := m) (t := 25) (t2 := 25) (el := 164) (z := 4) (es := (b :: l).map Az.enc) (full := false) (by simp [go_sem]) (by simp [go_sem]) (by simp [go_sem]) (by simp) (by simp [go_sem]) (by simp [go_sem]) (by simp [go_sem]) (by simp) (by rw [hL] at hsl; simp at hsl ⊢; omega)]
    simp [go_sem, AD, show n + 2 ≠ m by omega, Fk]
    refine ⟨.sl m 0 4 (l.length + 1) false, some m, ⟨by omega, .inr ⟨m, false, rfl, by omega, by omega, by simp⟩⟩, fun j z e => ?_⟩
    simp only [C4, Lt, hset] at e ⊢
    simp only [Yx, SV.cells] at e
    split at e
    · rename_i q; rw [if_neg (by omega), if_pos q]; exact e
    · rename_i q
      split at e
      · rename_i q2; rw [if_pos q2]; exact e
      · rename_i q2; rw [if_neg q2, if_neg q, if_neg q2]; exact e
 rintro ⟨v4, o4⟩ m ⟨hm, a2⟩
 dsimp only at a2 ⊢
 have L4 := a2.lt
 obtain ⟨W, hWd⟩ : ∃ W : List Az → Hp, ∀ F, W F = C4 (F.map Az.enc) o4 (Lt x h n (Aa D) v4 y) := ⟨_, fun _ => rfl⟩
 have hW2 : ∀ F, W F (n + 2) = some (.cells [AA y, AA x.move, Aa D, v4]) := fun F => by
  rw [hWd]
  cases o4 with
  | none => exact Fk
  | some j => have := L4 j rfl; simp only [C4]; rw [AD _ _ (by omega)]; exact Fk
 have hW1 : ∀ F, W F (n + 1) = some Q9 := fun F => by
  rw [hWd]
  cases o4 with
  | none => exact P9
  | some j => have := L4 j rfl; simp only [C4]; rw [AD _ _ (by omega)]; exact P9
 have hWo : ∀ F j z, h j = some z → W F j = some z := fun F j z e => by
  have := hHb j z e
  have e2 : Lt x h n (Aa D) v4 y j = some z := by unfold Lt; rw [AD _ _ (by omega), AD _ _ (by omega)]; exact e
  rw [hWd]
  cases o4 with
  | none => exact e2
  | some j => have := L4 j rfl; simp only [C4]; rw [AD _ _ (by omega)]; exact e2
 have hWl : ∀ j, o4 = some j → ∀ F, W F j = some (.cells (IG F)) := fun j e F => by subst e; rw [hWd]; simp only [C4, AC]; rfl
 have hWs : ∀ j, o4 = some j → ∀ F F', hset (W F) j (some (.cells (IG F'))) = W F' := fun j e F F' => by subst e; rw [hWd, hWd]; simp only [C4]; rw [Ai]; rfl
 rw [← hWd]
 clear hWd
 refine Bf 0 [(3, X), (6, .ptr (n + 1) 0), (7, .ptr (n + 2) 0)] (W (x.layers.map (BE (CW a) id))) m ?_ (fun m4 hm4 => ?_)
 · refine AZ 0 [(1, AA a), (2, AA id), (3, X), (6, .ptr (n + 1) 0), (7, .ptr (n + 2) 0), (11, AA 0)] (W x.layers) m ?_ (fun m5 hm5 => ?_)
   · simp [go_sem, Jo]
   rcases a2 with ⟨_, he, z', f, rfl⟩ | ⟨j, f, rfl, hj1, hj2, rfl⟩
   · have hd0 : x.layers = [] := by simpa using he
     rw [hd0]
     refine AX (BX 0 (α := Unit) (fun _ => [(3, X), (6, .ptr (n + 1) 0), (7, .ptr (n + 2) 0), (11, AA 0)]) (fun _ => W []) (fun _ m' => m ≤ m') (fun _ => 0) () hm5 ?_ AB ?_)
     · simp [Am, Jo]
     rintro _ m6 hm6
     refine AK ?_
     simp [go_sem, hW2, Jo, hm6]
   · refine AX (BX 0 (α := Nat) (fun i => [(1, AA a), (2, AA id), (3, X), (6, .ptr (n + 1) 0), (7, .ptr (n + 2) 0), (11, AA i)]) (fun i => W (DL (BE (CW a) id) x.layers i)) (fun i m' => i ≤ x.layers.length ∧ m ≤ m') (fun i => x.layers.length - i) 0 ⟨K2 _, hm5⟩ ?_ ?_ ?_)
     · simp [Am, Jo]
     · rw [Ii]; exact AB
     rintro i m6 ⟨hi, hm6⟩
     by_cases hlt : i < x.layers.length
     · have w1 := wS i (by omega)
       have hnx := Ih (BE (CW a) id) x.layers i hlt
       have hEl := Jr (BE (CW a) id) x.layers i (Zk hlt)
       have hget := Jq (BE (CW a) id) x.layers i hlt
       obtain ⟨d, hd'⟩ : ∃ d, x.layers[i] = d := ⟨_, rfl⟩
       rw [hd'] at hnx hget
       generalize hE : DL (BE (CW a) id) x.layers i = E at hnx hEl hget
       have hget2 : (E.map Az.enc)[i]? = some d.enc := by rw [Yh, hget]; rfl
       obtain ⟨g1, g2⟩ := Iz (Az.E.size E) hget2 (k := 0) (c := AA d.rev) rfl
       have g3 : d.rev = a → ((E.map Az.enc).flatMap SV.cells).take (i * 4 + 0) ++ AA id :: ((E.map Az.enc).flatMap SV.cells).drop (i * 4 + 0 + 1) = IG (DL (BE (CW a) id) x.layers (i + 1)) := fun hp => by
        rw [Kw (e' := (BE (CW a) id d).enc) (Az.E.size E) hget2 (by omega) (by simp [BE, FF, CW, hp, Az.enc, SV.cells]), ← hnx, IG, Xw]
       have g4 : d.rev ≠ a → DL (BE (CW a) id) x.layers (i + 1) = E := fun hp => by
        rw [← hnx, show BE (CW a) id d = d by simp [BE, FF, CW, hp]]
        obtain ⟨k1, k2⟩ := Ky.1 hget
        rw [← k2]; exact XB k1
       obtain ⟨E2, hE2⟩ : ∃ E2, DL (BE (CW a) id) x.layers (i + 1) = E2 := ⟨_, rfl⟩
       rw [hE2] at g3 g4
       rw [show (E.map Az.enc).flatMap SV.cells = IG E from rfl] at g1 g2 g3
       have hWE : W E j = some (.cells (IG E)) := hWl j rfl E
       simp only [Z7] at g1 g2 g3
       refine AZ 0 [(1, AA a), (2, AA id), (3, X), (6, .ptr (n + 1) 0), (7, .ptr (n + 2) 0), (11, AA i)] (W E) m ?_ (fun m7 hm7 => ?_)
       · simp [go_sem, hW2, Jo, hlt, hm6]
       refine AV 0 (α := Unit) (fun _ => [(1, AA a), (2, AA id), (3, X), (6, .ptr (n + 1) 0), (7, .ptr (n + 2) 0), (11, AA i)]) (fun _ => W E2) (fun _ m' => m ≤ m') (AX ?_) (fun _ m8 hm8 => ?_)
       · refine AZ 0 [(1, AA a), (2, AA id), (3, X), (6, .ptr (n + 1) 0), (7, .ptr (n + 2) 0), (11, AA i), (64, .bool (d.rev == a))] (W E) m ?_ (fun m9 hm9 => ?_)
         · simp [go_sem, hW2, hWE, hlt, g1, g2, Jo, hm7]
         by_cases hp : d.rev = a
         · refine Ap (b := true) (by simp [go_sem, hp]) (AK ?_)
           have g3 := g3 hp
           simp [go_sem, hW2, hWE, hlt, g1, g3, hWs j rfl, Jo, hm9]
         · refine Ap (b := false) (by simp [go_sem, hp]) (AK ?_)
           rw [g4 hp]
           simp [go_sem, Jo, hm9]
       · refine AK ?_
         simp [go_sem, w1, Jo, -Int.natCast_add]
         exact ⟨i + 1, by omega, ⟨by omega, hm8⟩, Jo, by rw [hE2]; exact AB⟩
     · have : i = x.layers.length := by omega
       subst this
       rw [Jp]
       refine AK ?_
       simp [go_sem, hW2, Jo]
       exact hm6
 have hv : ∀ h', (∀ j, o4 = some j → h' j = some (.cells (IG (x.layers.map (BE (CW a) id))))) → Fz h' h 1 v4 (AO (x.layers.map (BE (CW a) id))) := fun h' hh => by
  rcases a2 with ⟨_, he, z', f, rfl⟩ | ⟨j, f, rfl, hj1, hj2, rfl⟩
  · have hd0 : x.layers = [] := by simpa using he
    rw [hd0]; exact BR (by simp)
  · have := DN (h' := h') (h := h) (k := 0) (z := 4) (es := (x.layers.map (BE (CW a) id)).map Az.enc) (full := f) (full' := false) (o := j) (ho.none (by omega)) (by simp) (hh j rfl) (Az.E.size _)
    rw [Kj, Kj] at this; rw [Kj]; exact this
 have hval : (G5 a id x).enc = .agg [Ag x.props, AA y, AA x.move, Aa D, AO (x.layers.map (BE (CW a) id))] := by
  rw [hy, hD]; rfl
 obtain ⟨s4, t4⟩ := a2.st
 simp only [SV.storable, SV.cells] at s4 t4
 rw [hval]
 refine AK ?_
 have W1 := hW1 (x.layers.map (BE (CW a) id))
 have W2 := hW2 (x.layers.map (BE (CW a) id))
 have WL := fun j e => hWl j e (x.layers.map (BE (CW a) id))
 have WO := hWo (x.layers.map (BE (CW a) id))
 rw [hX]
 simp [go_sem, W1, W2, AC, AF.flat]
 refine Db (v := .agg [Ag x.props, AA y, AA x.move, Aa D, AO (x.layers.map (BE (CW a) id))]) 2 ho (fun j z e => by have := hHb j z e; rw [AD _ _ (by omega)]; exact WO j z e) (.inr ⟨Jo, Jo, Jo, Jo, hv _ (fun j e => ?_), trivial⟩) (by simp [closed, closedL, Eu.E.closedL, BS.E.closedL, Az.E.closedL, -List.map_map])
 have := L4 j e
 rw [AD _ _ (by omega)]; exact WL j e
end Go.Proofs.YtgakninlhfkkmaaGreat.Sh
